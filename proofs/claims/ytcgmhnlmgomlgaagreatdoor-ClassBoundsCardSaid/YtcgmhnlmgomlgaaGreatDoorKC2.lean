/-
Parts of the proof of one law, put together by program: part 2.
-/
import Derived.Test.YtcgmhnlmgomlgaaGreatDoorKC1
import Derived.IntWalk
import Derived.Test.YtcgmhnlmgomlgaaGreatDoorRows
set_option linter.unusedSimpArgs false
set_option linter.unusedVariables false
namespace Go.Proofs.YtcgmhnlmgomlgaaGreatDoor.V
open Go
def seqK (C : Cfg) (b : SC) (Q : Ex → St → Prop) : Ex → St → Prop := fun e s => match e with
  | .normal => wpS C b Q s
  | e => Q e s
def nextK (Q : Ex → St → Prop) (keep : List Nat) : St → Prop := fun s => Q .normal (keepE s keep)
section
variable {C : Cfg} {Q : Ex → St → Prop} {K : St → Prop} {st : St}
theorem wpS_seq {a b : SC} : wpS C (.seq a b) Q st = wpS C a (seqK C b Q) st := rfl
theorem wpS_skip : wpS C .skip Q st = Q .normal st := rfl
theorem wpS_exit {id : Nat} : wpS C (.exit id) Q st = Q (.exit id) st := rfl
theorem wpS_block {id : Nat} {c : SC} : wpS C (.block id c) Q st = wpS C c (blockEx id Q) st := rfl
@[simp] theorem seqK_normal {b : SC} : seqK C b Q .normal st = wpS C b Q st := rfl
@[simp] theorem seqK_exit {b : SC} {id : Nat} : seqK C b Q (.exit id) st = Q (.exit id) st := rfl
@[simp] theorem seqK_ret {b : SC} : seqK C b Q .ret st = Q .ret st := rfl
@[simp] theorem nextK_eq {keep : List Nat} : nextK Q keep st = Q .normal (keepE st keep) := rfl
@[simp] theorem keepE_eq {keep : List Nat} {env : Nat → PV} {loc : Frm} {σ : List Frm} {live : Live} : keepE ⟨env, loc, σ, live⟩ keep = ⟨mkE (keep.map fun k => (k, env k)), loc, σ, live⟩ := rfl
@[simp] theorem blockEx_normal {id : Nat} : blockEx id Q .normal st = Q .normal st := rfl
@[simp] theorem blockEx_ret {id : Nat} : blockEx id Q .ret st = Q .ret st := rfl
@[simp] theorem blockEx_exit {id i : Nat} : blockEx id Q (.exit i) st = if i = id then Q .normal st else Q (.exit i) st := rfl
theorem opsS_guard {dst : Option Nat} {op : Op} {ty : TypeId} {t : Nat} {want : Bool} {l : List SOp} : opsS C K (⟨dst, op, ty, .tmp t want⟩ :: l) st = ∃ b, gB (st.env t) = some b ∧ if b = some want then opV C ⟨dst, op, ty, "", #[], none⟩ (opsS C K l) st else opsS C K l (put st dst .gone) := rfl
variable {W : Nat → Nat → Nat → Bool} {vs : Nat → Nat}
theorem opsSD_nil {fl : List Bool} : opsSD C W vs K fl [] st = K st := by simp [opsSD]
theorem opsSD_cons {fr : Bool} {fl : List Bool} {dst : Option Nat} {op : Op} {ty : TypeId} {l : List SOp} : opsSD C W vs K (fr :: fl) (⟨dst, op, ty, .always⟩ :: l) st = stepD C W vs fr ⟨dst, op, ty, "", #[], none⟩ (opsSD C W vs K fl l) st := rfl
theorem opsSD_guard {fr : Bool} {fl : List Bool} {dst : Option Nat} {op : Op} {ty : TypeId} {t : Nat} {want : Bool} {l : List SOp} : opsSD C W vs K (fr :: fl) (⟨dst, op, ty, .tmp t want⟩ :: l) st = ∃ b, gB (st.env t) = some b ∧ if b = some want then stepD C W vs fr ⟨dst, op, ty, "", #[], none⟩ (opsSD C W vs K fl l) st else opsSD C W vs K fl l (put st dst .gone) := rfl
@[simp] theorem put_some {d : Nat} {v : PV} {env : Nat → PV} {loc : Frm} {σ : List Frm} {live : Live} : put ⟨env, loc, σ, live⟩ (some d) v = ⟨upd env d v, loc, σ, live⟩ := rfl
@[simp] theorem put_none {v : PV} : put st none v = st := rfl
@[simp] theorem upd_eq {α : Type} (f : Nat → α) (k : Nat) (v : α) (j : Nat) : upd f k v j = if j = k then v else f j := rfl
@[simp] theorem mkE_nil (t : Nat) : mkE [] t = .undef := rfl
@[simp] theorem mkE_cons (k : Nat) (v : PV) (l : List (Nat × PV)) (t : Nat) : mkE ((k, v) :: l) t = if t = k then v else mkE l t := rfl
@[simp] theorem oper_tmp {env : Nat → PV} {t : Nat} : oper C env (.tmp t) = env t := rfl
@[simp] theorem oper_int {env : Nat → PV} {k : IntKind} {n : Int} : oper C env (.const (.int k n)) = .one (.int k n) := rfl
@[simp] theorem oper_bool {env : Nat → PV} {b : Bool} : oper C env (.const (.bool b)) = .one (.bool b) := rfl
@[simp] theorem oper_func {env : Nat → PV} {f : Nat} : oper C env (.func f) = .one (.func f []) := rfl
@[simp] theorem oper_nilslice {env : Nat → PV} : oper C env (.const (.slice none 0 0)) = .one (.slice .full 0 []) := rfl
@[simp] theorem operT_tmp {env : Nat → PV} {ty : TypeId} {t : Nat} : operT C env ty (.tmp t) = env t := rfl
@[simp] theorem operT_int {env : Nat → PV} {ty : TypeId} {k : IntKind} {n : Int} : operT C env ty (.const (.int k n)) = .one (.int k n) := rfl
@[simp] theorem operT_bool {env : Nat → PV} {ty : TypeId} {b : Bool} : operT C env ty (.const (.bool b)) = .one (.bool b) := rfl
@[simp] theorem operT_func {env : Nat → PV} {ty : TypeId} {f : Nat} : operT C env ty (.func f) = .one (.func f []) := rfl
@[simp] theorem operT_nil {env : Nat → PV} {ty : TypeId} : operT C env ty (.const (.slice none 0 0)) = .one (.slice .full (esize C ty) []) := rfl
@[simp] theorem argsT_nil {env : Nat → PV} {ts : List TypeId} : argsT C env ts [] = [] := by cases ts <;> rfl
@[simp] theorem argsT_cons {env : Nat → PV} {t : TypeId} {ts : List TypeId} {x : Operand} {xs : List Operand} : argsT C env (t :: ts) (x :: xs) = erV (operT C env t x) :: argsT C env ts xs := rfl
section
variable {dst : Option Nat} {ty : TypeId} {p : String} {af : Array Edge} {g : Option (Nat × Bool)}
theorem opV_move {x : Operand} : opV C ⟨dst, .move x, ty, p, af, g⟩ K st = K (put st dst (operT C st.env ty x)) := by simp [opV, opR]
theorem opV_assign {x : Operand} : opV C ⟨dst, .assign x, ty, p, af, g⟩ K st = K (put st dst (operT C st.env ty x)) := by simp [opV, opR]
theorem opV_pick {c a b : Operand} : opV C ⟨dst, .pick c a b, ty, p, af, g⟩ K st = ∃ t, oper C st.env c = .one (.bool t) ∧ K (put st dst (if t = true then oper C st.env a else oper C st.env b)) := by
  simp only [opV, opR, eq_iff_iff]
  constructor
  · rintro ⟨r, ⟨t, h1, rfl⟩, h2⟩; exact ⟨t, h1, h2⟩
  · rintro ⟨t, h1, h2⟩; exact ⟨_, ⟨t, h1, rfl⟩, h2⟩
theorem opV_bin {op : BinOp} {xt yt : TypeId} {x y : Operand} : opV C ⟨dst, .binOp op xt x y yt, ty, p, af, g⟩ K st = ∃ r, binR C op xt (oper C st.env x) (oper C st.env y) r ∧ K (put st dst r) := by simp [opV, opR]
theorem opV_not {xt : TypeId} {x : Operand} : opV C ⟨dst, .unOp .not xt x, ty, p, af, g⟩ K st = ∃ b, oper C st.env x = .one (.bool b) ∧ K (put st dst (.one (.bool (!b)))) := by
  simp only [opV, opR, eq_iff_iff]
  constructor
  · rintro ⟨r, ⟨t, h1, rfl⟩, h2⟩; exact ⟨t, h1, h2⟩
  · rintro ⟨t, h1, h2⟩; exact ⟨_, ⟨t, h1, rfl⟩, h2⟩
theorem opV_extract {x : Operand} {i : Nat} : opV C ⟨dst, .extract x i, ty, p, af, g⟩ K st = ∃ vs v, oper C st.env x = .tup vs ∧ vs[i]? = some v ∧ K (put st dst (erV v)) := by
  simp only [opV, opR, eq_iff_iff]
  constructor
  · rintro ⟨r, ⟨vs, v, h1, h3, rfl⟩, h2⟩; exact ⟨vs, v, h1, h3, h2⟩
  · rintro ⟨vs, v, h1, h3, h2⟩; exact ⟨_, ⟨vs, v, h1, h3, rfl⟩, h2⟩
theorem opV_field {s : TypeId} {x : Operand} {f : Nat} : opV C ⟨dst, .fieldAddr s x f, ty, p, af, g⟩ K st = ∃ r, (∃ d fs q, C.T s = some d ∧ d.k = .struct fs ∧ fs[f]? = some q ∧ 0 < q.2 ∧ addrP (oper C st.env x) q.1 = some r) ∧ K (put st dst r) := by simp [opV, opR]
theorem opV_index {t : TypeId} {x i : Operand} : opV C ⟨dst, .indexAddr t x i, ty, p, af, g⟩ K st = ∃ r, opR C st.env ty (.indexAddr t x i) r ∧ K (put st dst r) := by simp [opV]
theorem opV_build {t : TypeId} {parts : Array (Nat × Operand)} : opV C ⟨dst, .build t parts, ty, p, af, g⟩ K st = ∃ d fs cs, C.T t = some d ∧ d.k = .struct fs ∧ fillC fs d.zero (parts.toList.map fun q => (q.1, oper C st.env q.2)) = some cs ∧ K (put st dst (.agg cs)) := by
  simp only [opV, opR, eq_iff_iff]
  constructor
  · rintro ⟨r, ⟨d, fs, cs, h1, h3, h4, rfl⟩, h2⟩; exact ⟨d, fs, cs, h1, h3, h4, h2⟩
  · rintro ⟨d, fs, cs, h1, h3, h4, h2⟩; exact ⟨_, ⟨d, fs, cs, h1, h3, h4, rfl⟩, h2⟩
theorem opV_buildSlice {t : TypeId} {n : Nat} {parts : Array (Nat × Operand)} : opV C ⟨dst, .buildSlice t n parts, ty, p, af, g⟩ K st = ∃ d e de es, C.T t = some d ∧ d.k = .slice e ∧ C.T e = some de ∧ elemsOf 0 (parts.toList.map fun q => (q.1, oper C st.env q.2)) = some es ∧ es.length = n ∧
      (∀ x ∈ es, x.length = de.size) ∧ n * de.size ≤ 16777216 ∧ K (put st dst (.one (.slice .full de.size es))) := by
  simp only [opV, opR, eq_iff_iff]
  constructor
  · rintro ⟨r, ⟨d, e, de, es, h1, h3, h4, h5, h6, h7, h8, rfl⟩, h2⟩; exact ⟨d, e, de, es, h1, h3, h4, h5, h6, h7, h8, h2⟩
  · rintro ⟨d, e, de, es, h1, h3, h4, h5, h6, h7, h8, h2⟩; exact ⟨_, ⟨d, e, de, es, h1, h3, h4, h5, h6, h7, h8, rfl⟩, h2⟩
theorem opV_load {t : TypeId} {x : Operand} : opV C ⟨dst, .load t x, ty, p, af, g⟩ K st = ∃ r, loadR C st t (oper C st.env x) r ∧ K (put st dst r) := by simp [opV]
theorem opV_alloc {d : Nat} {t : TypeId} : opV C ⟨some d, .alloc t, ty, p, af, g⟩ K st = ∃ td, C.T t = some td ∧ K { st with loc := upd st.loc d (st.loc d ++ [td.zero]), env := upd st.env d (.one (.box st.σ.length d (st.loc d).length 0)) } := by
  simp only [opV, eq_iff_iff]
  constructor
  · rintro ⟨td, d', h1, h2, h3⟩; cases h2; exact ⟨td, h1, h3⟩
  · rintro ⟨td, h1, h3⟩; exact ⟨td, d, h1, rfl, h3⟩
theorem opV_box {d : Nat} {t : TypeId} {x : Operand} : opV C ⟨some d, .box t x, ty, p, af, g⟩ K st = ∃ td cs, C.T t = some td ∧ (oper C st.env x).cells = some cs ∧ cs.length = td.size ∧ K { st with loc := upd st.loc d (st.loc d ++ [cs]), env := upd st.env d (.one (.box st.σ.length d (st.loc d).length 0)) } := by
  simp only [opV, eq_iff_iff]
  constructor
  · rintro ⟨td, d', cs, h1, h2, h3, h4, h5⟩; cases h2; exact ⟨td, cs, h1, h3, h4, h5⟩
  · rintro ⟨td, cs, h1, h3, h4, h5⟩; exact ⟨td, d, cs, h1, rfl, h3, h4, h5⟩
theorem opV_store {t : TypeId} {x y : Operand} : opV C ⟨dst, .store t x y, ty, p, af, g⟩ K st = ∃ d fd tt v off cs ns, C.T t = some d ∧ oper C st.env x = .one (.box fd tt v off) ∧ readBox st fd tt v = some cs ∧ (operT C st.env t y).cells = some ns ∧ ns.length = d.size ∧ off + ns.length ≤ cs.length ∧
      (fd = st.σ.length ∨ flatL ns = true) ∧ K (put (writeBox st fd tt v off ns) dst .undef) := rfl
theorem opV_call {f : Nat} {xs : Array Operand} {ts : Array TypeId} {v : PV} {ps : List PV} (h : CallsV C f ps (st.σ ++ [st.loc]) (.val v) (st.σ ++ [st.loc])) (ha : argsT C st.env ts.toList xs.toList = ps) (hk : K (put st dst v)) : opV C ⟨dst, .call ⟨.value (.func f), xs, ts⟩, ty, p, af, g⟩ K st := by
  simp only [opV, CallV]
  refine ⟨f, [], .val v, _, st.σ, st.loc, rfl, ?_, rfl, rfl, hk⟩
  rw [ha]
  simpa using h
end
end
@[simp] theorem modify_concat {α : Type} (l : List α) (x : α) (f : α → α) : (l ++ [x]).modify l.length f = l ++ [f x] := by
  induction l with
  | nil => rfl
  | cons y l ih => simp only [List.cons_append, List.length_cons, List.modify_succ_cons, ih]
@[simp] theorem readBox_loc {env : Nat → PV} {loc : Frm} {σ : List Frm} {live : Live} {tt v : Nat} : readBox ⟨env, loc, σ, live⟩ σ.length tt v = (loc tt)[v]? := by simp [readBox]
@[simp] theorem writeBox_loc {env : Nat → PV} {loc : Frm} {σ : List Frm} {live : Live} {tt v off : Nat} {ns : List Cell} : writeBox ⟨env, loc, σ, live⟩ σ.length tt v off ns = ⟨env, upd loc tt ((loc tt).modify v fun cs => splice cs off ns), σ, live⟩ := by simp [writeBox]
inductive Ty where
  | mk (kind : Int) (args : List Ty)
def Ty.kind : Ty → Int | .mk k _ => k
def Ty.args : Ty → List Ty | .mk _ l => l
theorem Ty.ind {P : Ty → Prop} (h : ∀ k l, (∀ x ∈ l, P x) → P (.mk k l)) : ∀ t, P t
  | .mk k l => h k l fun x _ => Ty.ind h x
mutual
def enc : Ty → List Cell
  | .mk k l => [.int .i64 k, .slice .no 2 (encs l)]
def encs : List Ty → List (List Cell)
  | [] => []
  | x :: l => enc x :: encs l
end
theorem encs_eq (l : List Ty) : encs l = l.map enc := by
  induction l with
  | nil => rfl
  | cons x l ih => simp only [encs, List.map_cons, ih]
@[simp] theorem enc_mk (k : Int) (l : List Ty) : enc (.mk k l) = [.int .i64 k, .slice .no 2 (l.map enc)] := by rw [enc, encs_eq]
theorem enc_eq (t : Ty) : enc t = [.int .i64 t.kind, .slice .no 2 (t.args.map enc)] := by cases t; simp [Ty.kind, Ty.args]
@[simp] theorem enc_length (t : Ty) : (enc t).length = 2 := by rw [enc_eq]; try rfl
@[simp] theorem enc_er (t : Ty) : (enc t).map erC = enc t := by rw [enc_eq]; simp
@[simp] theorem enc_er' (t : Ty) : List.map (fun c => erC c) (enc t) = enc t := enc_er t
@[simp] theorem enc_take (t : Ty) : (enc t).take 2 = enc t := List.take_of_length_le (by simp)
mutual
def Ty.size : Ty → Nat
  | .mk _ l => 1 + Ty.sizes l
def Ty.sizes : List Ty → Nat
  | [] => 0
  | x :: l => x.size + Ty.sizes l
end
@[simp] theorem Ty.size_mk (k : Int) (l : List Ty) : (Ty.mk k l).size = 1 + Ty.sizes l := by rw [Ty.size]
@[simp] theorem Ty.sizes_nil : Ty.sizes [] = 0 := rfl
@[simp] theorem Ty.sizes_cons (x : Ty) (l : List Ty) : Ty.sizes (x :: l) = x.size + Ty.sizes l := by rw [Ty.sizes]
@[simp] theorem Ty.sizes_append (l m : List Ty) : Ty.sizes (l ++ m) = Ty.sizes l + Ty.sizes m := by
  induction l with
  | nil => simp
  | cons x l ih => simp [ih]; omega
theorem Ty.size_pos (t : Ty) : 1 ≤ t.size := by cases t; simp
theorem Ty.length_le (l : List Ty) : l.length ≤ Ty.sizes l := by
  induction l with
  | nil => simp
  | cons x l ih => have := x.size_pos; simp; omega
theorem Ty.sizes_mem {x : Ty} {l : List Ty} (h : x ∈ l) : x.size ≤ Ty.sizes l := by
  induction l with
  | nil => simp at h
  | cons y l ih =>
    rcases List.mem_cons.1 h with rfl | h
    · simp
    · have := ih h; simp; omega
mutual
def Ty.same : Ty → Ty → Bool
  | .mk k l, .mk k' m => k == k' && Ty.sames l m
def Ty.sames : List Ty → List Ty → Bool
  | [], [] => true
  | x :: l, y :: m => Ty.same x y && Ty.sames l m
  | _, _ => false
end
@[simp] theorem Ty.same_mk (k k' : Int) (l m : List Ty) : Ty.same (.mk k l) (.mk k' m) = (k == k' && Ty.sames l m) := by rw [Ty.same]
@[simp] theorem Ty.sames_nil : Ty.sames [] [] = true := by rw [Ty.sames]
@[simp] theorem Ty.sames_cons (x y : Ty) (l m : List Ty) : Ty.sames (x :: l) (y :: m) = (Ty.same x y && Ty.sames l m) := by rw [Ty.sames]
theorem Ty.sames_length : ∀ {l m : List Ty}, Ty.sames l m = true → l.length = m.length
  | [], [], _ => rfl
  | x :: l, y :: m, h => by simp at h; simp [Ty.sames_length h.2]
  | [], _ :: _, h => by simp [Ty.sames] at h
  | _ :: _, [], h => by simp [Ty.sames] at h
theorem Ty.same_iff (a : Ty) : ∀ b, Ty.same a b = true ↔ a = b := by
  induction a using Ty.ind with
  | _ k l ih =>
    rintro ⟨k', m⟩
    have key : ∀ l m : List Ty, (∀ x ∈ l, ∀ b, Ty.same x b = true ↔ x = b) → (Ty.sames l m = true ↔ l = m) := by
      intro l
      induction l with
      | nil => intro m _; cases m <;> simp [Ty.sames]
      | cons x l ihl =>
        intro m hx
        cases m with
        | nil => simp [Ty.sames]
        | cons y m => simp [hx x (by simp) y, ihl m fun z hz => hx z (by simp [hz])]
    simp [key l m ih]
def tyArity (k : Int) : Option Nat := if k = 1 ∨ k = 2 ∨ k = 5 then some 0 else if k = 3 ∨ k = 4 then some 2 else none
mutual
def Ty.ok : Ty → Bool
  | .mk k l => tyArity k == some l.length && Ty.oks l
def Ty.oks : List Ty → Bool
  | [] => true
  | x :: l => x.ok && Ty.oks l
end
@[simp] theorem Ty.ok_mk (k : Int) (l : List Ty) : (Ty.mk k l).ok = (tyArity k == some l.length && Ty.oks l) := by rw [Ty.ok]
@[simp] theorem Ty.oks_nil : Ty.oks [] = true := rfl
@[simp] theorem Ty.oks_cons (x : Ty) (l : List Ty) : Ty.oks (x :: l) = (x.ok && Ty.oks l) := by rw [Ty.oks]
theorem enc_flat (t : Ty) : flatL (enc t) = true := by
  induction t using Ty.ind with
  | _ k l ih =>
    rw [enc_mk]
    simp only [flatL, flatC, Bool.and_true, Bool.true_and]
    exact flatLL_of fun e he => by
      obtain ⟨x, hx, rfl⟩ := List.mem_map.1 he
      exact ih x hx
theorem wrap_id {n : Int} (h1 : -9223372036854775808 ≤ n) (h2 : n ≤ 9223372036854775807) : IntKind.i64.wrap n = n := by rw [IntKind.wrap_i64]; omega
end Go.Proofs.YtcgmhnlmgomlgaaGreatDoor.V

namespace Go.Proofs.YtcgmhnlmgomlgaaGreatDoor.V
open Go
def binF (C : Cfg) (op : BinOp) (xt : TypeId) (a b : PV) : Option PV := match a, b with
  | .one (.int k x), .one (.int k' y) => if k = k' then match intC op k x y with
    | some c => some (.one c)
    | none => none else none
  | .one (.bool x), .one (.bool y) => match C.T xt with
    | some d => match d.k with
      | .bool => match op with
        | .eql => some (.one (.bool (x == y)))
        | .neq => some (.one (.bool (!(x == y))))
        | _ => none
      | _ => none
    | none => none
  | _, _ => none
def lenP (C : Cfg) (dst : Option Nat) (k : St → Prop) (st : St) : List Operand → List TypeId → Prop
  | [x], [t] => match C.T t with
    | some d => match d.k with
      | .slice _ => match oper C st.env x with
        | .one (.slice _ _ es) => k (put st dst (.one (.int .i64 es.length)))
        | _ => False
      | _ => False
    | none => False
  | _, _ => False
def appendP (C : Cfg) (dst : Option Nat) (k : St → Prop) (st : St) : List Operand → List TypeId → Prop
  | [s, x], [t, u] => t = u ∧ match C.T t with
    | some d => match d.k with
      | .slice e => match C.T e with
        | some de => match oper C st.env s with
          | .one (.slice ow sz es) => match oper C st.env x with
            | .one (.slice _ sy ys) => 0 < de.size ∧ (sz = de.size ∨ (es = [] ∧ ow = .full)) ∧ (ys = [] ∨ sy = de.size) ∧ okOwn st.live ow ∧ (es.length + ys.length) * de.bytes ≤ 140737488355328 ∧ es.length + ys.length ≤ 9223372036854775807 ∧
              k (put { st with live := grownLive st.live ow } dst (.one (.slice (.tip st.live.nx) de.size (es ++ ys.map fun e => e.map erC))))
            | _ => False
          | _ => False
        | none => False
      | _ => False
    | none => False
  | _, _ => False
def callP (C : Cfg) (dst : Option Nat) (c : Call) (ty : TypeId) (k : St → Prop) (st : St) : Prop := match c.callee with
  | .builtin .len => lenP C dst k st c.args.toList c.argTypes.toList
  | .builtin .append => appendP C dst k st c.args.toList c.argTypes.toList
  | _ => opV C ⟨dst, .call c, ty, "", #[], none⟩ k st
def opP (C : Cfg) (dst : Option Nat) (op : Op) (ty : TypeId) (k : St → Prop) (st : St) : Prop := match op with
  | .move x => k (put st dst (operT C st.env ty x))
  | .assign x => k (put st dst (operT C st.env ty x))
  | .pick c a b => match oper C st.env c with
    | .one (.bool t) => k (put st dst (if t = true then oper C st.env a else oper C st.env b))
    | _ => False
  | .binOp op xt x y _ => match binF C op xt (oper C st.env x) (oper C st.env y) with
    | some r => k (put st dst r)
    | none => False
  | .unOp .not _ x => match oper C st.env x with
    | .one (.bool b) => k (put st dst (.one (.bool (!b))))
    | _ => False
  | .extract x i => match oper C st.env x with
    | .tup vs => match vs[i]? with
      | some v => k (put st dst (erV v))
      | none => False
    | _ => False
  | .fieldAddr s x f => match C.T s with
    | some d => match d.k with
      | .struct fs => match fs[f]? with
        | some q => 0 < q.2 ∧ match addrP (oper C st.env x) q.1 with
          | some r => k (put st dst r)
          | none => False
        | none => False
      | _ => False
    | none => False
  | .indexAddr t x i => match C.T t with
    | some d => match d.k with
      | .slice e => match C.T e with
        | some de => match oper C st.env i with
          | .one (.int _ n) => 0 ≤ n ∧ match oper C st.env x with
            | .one (.slice _ sz es) => de.size = sz ∧ match es[n.toNat]? with
              | some e' => k (put st dst (.one (.cptr e' 0)))
              | none => False
            | _ => False
          | _ => False
        | none => False
      | .array len e => match C.T e with
        | some de => match oper C st.env i with
          | .one (.int _ n) => 0 ≤ n ∧ n < len ∧ match addrP (oper C st.env x) (n.toNat * de.size) with
            | some r => k (put st dst r)
            | none => False
          | _ => False
        | none => False
      | _ => False
    | none => False
  | .build t parts => match C.T t with
    | some d => match d.k with
      | .struct fs => match fillC fs d.zero (parts.toList.map fun q => (q.1, oper C st.env q.2)) with
        | some cs => k (put st dst (.agg cs))
        | none => False
      | _ => False
    | none => False
  | .buildSlice t n parts => match C.T t with
    | some d => match d.k with
      | .slice e => match C.T e with
        | some de => match elemsOf 0 (parts.toList.map fun q => (q.1, oper C st.env q.2)) with
          | some es => es.length = n ∧ (∀ x ∈ es, x.length = de.size) ∧ n * de.size ≤ 16777216 ∧ k (put st dst (.one (.slice .full de.size es)))
          | none => False
        | none => False
      | _ => False
    | none => False
  | .load t x => match C.T t with
    | some d => match oper C st.env x with
      | .one (.box fd tt v off) => match readBox st fd tt v with
        | some cs => off + d.size ≤ cs.length ∧ k (put st dst (if fd = st.σ.length then mkPV d.isAgg ((cs.drop off).take d.size) else erV (mkPV d.isAgg ((cs.drop off).take d.size))))
        | none => False
      | .one (.cptr cs off) => off + d.size ≤ cs.length ∧ k (put st dst (erV (mkPV d.isAgg ((cs.drop off).take d.size))))
      | _ => False
    | none => False
  | .alloc t => match C.T t, dst with
    | some d, some x => k { st with loc := upd st.loc x (st.loc x ++ [d.zero]), env := upd st.env x (.one (.box st.σ.length x (st.loc x).length 0)) }
    | _, _ => False
  | .box t y => match C.T t, dst with
    | some d, some x => match (oper C st.env y).cells with
      | some cs => cs.length = d.size ∧ k { st with loc := upd st.loc x (st.loc x ++ [cs]), env := upd st.env x (.one (.box st.σ.length x (st.loc x).length 0)) }
      | none => False
    | _, _ => False
  | .store t x y => match C.T t with
    | some d => match oper C st.env x with
      | .one (.box fd tt v off) => match readBox st fd tt v with
        | some cs => match (operT C st.env t y).cells with
          | some ns => ns.length = d.size ∧ off + ns.length ≤ cs.length ∧ (fd = st.σ.length ∨ flatL ns = true) ∧ k (put (writeBox st fd tt v off ns) dst .undef)
          | none => False
        | none => False
      | _ => False
    | none => False
  | .call c => callP C dst c ty k st
  | op => opV C ⟨dst, op, ty, "", #[], none⟩ k st
theorem opP_sound {C : Cfg} {dst : Option Nat} {op : Op} {ty : TypeId} {k : St → Prop} {st : St} (h : opP C dst op ty k st) : opV C ⟨dst, op, ty, "", #[], none⟩ k st := by
  unfold opP at h
  split at h
  · rw [opV_move]; exact h
  · rw [opV_assign]; exact h
  · split at h
    · rename_i hc; rw [opV_pick]; exact ⟨_, hc, h⟩
    · exact h.elim
  · split at h
    · rename_i r hr
      rw [opV_bin]
      refine ⟨r, ?_, h⟩
      unfold binF at hr
      split at hr
      · rename_i e1 e2
        split at hr
        · rename_i hk
          split at hr
          · rename_i c hc
            cases hr
            rw [e1, e2]
            exact ⟨hk, c, hc, rfl⟩
          · cases hr
        · cases hr
      · rename_i e1 e2
        rw [e1, e2]
        split at hr
        · rename_i d hd
          split at hr
          · rename_i hk
            split at hr
            · cases hr; exact ⟨⟨d, hd, hk⟩, .inl ⟨rfl, rfl⟩⟩
            · cases hr; exact ⟨⟨d, hd, hk⟩, .inr ⟨rfl, rfl⟩⟩
            · cases hr
          · cases hr
        · cases hr
      · cases hr
    · exact h.elim
  · split at h
    · rename_i hc; rw [opV_not]; exact ⟨_, hc, h⟩
    · exact h.elim
  · split at h
    · rename_i hc
      split at h
      · rename_i hv; rw [opV_extract]; exact ⟨_, _, hc, hv, h⟩
      · exact h.elim
    · exact h.elim
  · split at h
    · rename_i hd
      split at h
      · rename_i hk
        split at h
        · rename_i hq
          obtain ⟨h1, h⟩ := h
          split at h
          · rename_i hr; rw [opV_field]; exact ⟨_, ⟨_, _, _, hd, hk, hq, h1, hr⟩, h⟩
          · exact h.elim
        · exact h.elim
      · exact h.elim
    · exact h.elim
  · split at h
    · rename_i hd
      split at h
      · rename_i hk
        split at h
        · rename_i hde
          split at h
          · rename_i hi
            obtain ⟨h1, h⟩ := h
            split at h
            · rename_i hx
              obtain ⟨h2, h⟩ := h
              split at h
              · rename_i he
                rw [opV_index]
                refine ⟨_, ⟨_, _, _, hd, hi, h1, ?_⟩, h⟩
                rw [hk]
                exact ⟨_, _, _, _, _, hx, hde, h2, he, rfl⟩
              · exact h.elim
            · exact h.elim
          · exact h.elim
        · exact h.elim
      · rename_i hk
        split at h
        · rename_i hde
          split at h
          · rename_i hi
            obtain ⟨h1, h2, h⟩ := h
            split at h
            · rename_i hr
              rw [opV_index]
              refine ⟨_, ⟨_, _, _, hd, hi, h1, ?_⟩, h⟩
              rw [hk]
              exact ⟨_, hde, h2, hr⟩
            · exact h.elim
          · exact h.elim
        · exact h.elim
      · exact h.elim
    · exact h.elim
  · split at h
    · rename_i hd
      split at h
      · rename_i hk
        split at h
        · rename_i hf; rw [opV_build]; exact ⟨_, _, _, hd, hk, hf, h⟩
        · exact h.elim
      · exact h.elim
    · exact h.elim
  · split at h
    · rename_i hd
      split at h
      · rename_i hk
        split at h
        · rename_i hde
          split at h
          · rename_i hf; rw [opV_buildSlice]; exact ⟨_, _, _, _, hd, hk, hde, hf, h⟩
          · exact h.elim
        · exact h.elim
      · exact h.elim
    · exact h.elim
  · split at h
    · rename_i hd
      split at h
      · rename_i hx
        split at h
        · rename_i hb
          rw [opV_load]
          refine ⟨_, ⟨_, hd, ?_⟩, h.2⟩
          rw [hx]
          exact ⟨_, hb, h.1, rfl⟩
        · exact h.elim
      · rename_i hx
        rw [opV_load]
        refine ⟨_, ⟨_, hd, ?_⟩, h.2⟩
        rw [hx]
        exact ⟨h.1, rfl⟩
      · exact h.elim
    · exact h.elim
  · split at h
    · rename_i hd; rw [opV_alloc]; exact ⟨_, hd, h⟩
    · exact h.elim
  · split at h
    · rename_i hd
      split at h
      · rename_i hc; rw [opV_box]; exact ⟨_, _, hd, hc, h⟩
      · exact h.elim
    · exact h.elim
  · split at h
    · rename_i hd
      split at h
      · rename_i hx
        split at h
        · rename_i hb
          split at h
          · rename_i hn; rw [opV_store]; exact ⟨_, _, _, _, _, _, _, hd, hx, hb, hn, h⟩
          · exact h.elim
        · exact h.elim
      · exact h.elim
    · exact h.elim
  · rename_i c
    unfold callP at h
    split at h
    · rename_i hc
      unfold lenP at h
      split at h
      · rename_i x t hxs hts
        split at h
        · rename_i hd
          split at h
          · rename_i hk
            split at h
            · rename_i hx
              simp only [opV, hc, opR]
              exact ⟨_, ⟨x, _, _, _, _, _, hxs, ⟨t, hts, hd⟩, hk, hx, rfl⟩, h⟩
            · exact h.elim
          · exact h.elim
        · exact h.elim
      · exact h.elim
    · rename_i hc
      unfold appendP at h
      split at h
      · rename_i s x t u hxs hts
        obtain ⟨rfl, h⟩ := h
        split at h
        · rename_i hd
          split at h
          · rename_i hk
            split at h
            · rename_i hde
              split at h
              · rename_i hs
                split at h
                · rename_i hx
                  simp only [opV, hc, AppendV]
                  exact ⟨s, x, t, t, _, _, _, _, _, _, _, _, _, hxs, hts, hd, hk, hd, hde, h.1, hs, h.2.1, hx, h.2.2⟩
                · exact h.elim
              · exact h.elim
            · exact h.elim
          · exact h.elim
        · exact h.elim
      · exact h.elim
    · exact h
  · exact h
def opsP (C : Cfg) (K : St → Prop) : List SOp → St → Prop
  | [], st => K st
  | ⟨dst, op, ty, .always⟩ :: l, st => opP C dst op ty (opsP C K l) st
  | ⟨dst, op, ty, .tmp t want⟩ :: l, st => match st.env t with
    | .one (.bool b) => if b = want then opP C dst op ty (opsP C K l) st else opsP C K l (put st dst .gone)
    | .gone => opsP C K l (put st dst .gone)
    | _ => False
  | ⟨_, _, _, .bad⟩ :: _, _ => False
theorem opsP_sound {C : Cfg} {K : St → Prop} : ∀ (l : List SOp) (st : St), opsP C K l st → opsS C K l st
  | [], _, h => h
  | ⟨dst, op, ty, .always⟩ :: l, st, h => opV_mono (fun s hs => opsP_sound l s hs) (opP_sound h)
  | ⟨dst, op, ty, .tmp t want⟩ :: l, st, h => by
    simp only [opsP] at h
    rw [opsS_guard]
    split at h
    · rename_i b hb
      refine ⟨some b, by rw [hb]; try rfl, ?_⟩
      split at h
      · rename_i e; rw [if_pos (by rw [e])]; exact opV_mono (fun s hs => opsP_sound l s hs) (opP_sound h)
      · rename_i e; rw [if_neg (by simpa using e)]; exact opsP_sound l _ h
    · rename_i hb
      exact ⟨none, by rw [hb]; try rfl, by rw [if_neg (by simp)]; exact opsP_sound l _ h⟩
    · exact h.elim
  | ⟨_, _, _, .bad⟩ :: _, _, h => h.elim
def opPD (C : Cfg) (W : Nat → Nat → Nat → Bool) (vs : Nat → Nat) (fr : Bool) (dst : Option Nat) (op : Op) (ty : TypeId) (k : St → Prop) (st : St) : Prop := match op with
  | .alloc t => match C.T t, dst with
    | some d, some x => (st.loc x)[vs x]? = some d.zero ∧ (fr = true → W st.σ.length x (vs x) = false) ∧ k (put st dst (.one (.box st.σ.length x (vs x) 0)))
    | _, _ => False
  | .load t x => (fr = true → match oper C st.env x with
      | .one (.box d tt v _) => W d tt v = false
      | _ => True) ∧ opP C dst (.load t x) ty k st
  | .store t x y => (fr = true → match oper C st.env x with
      | .one (.box d tt v _) => W d tt v = true
      | _ => False) ∧ opP C dst (.store t x y) ty k st
  | .box t x => fr = false ∧ opP C dst (.box t x) ty k st
  | .call c => match c.callee with
    | .builtin .append => opP C dst (.call c) ty k st
    | .builtin .len => opP C dst (.call c) ty k st
    | _ => stepD C W vs fr ⟨dst, .call c, ty, "", #[], none⟩ k st
  | op => opP C dst op ty k st
theorem readBox_writeBox {st : St} {d t v off d' t' v' : Nat} {ns : List Cell} (h : ¬ (d' = d ∧ t' = t ∧ v' = v)) : readBox (writeBox st d t v off ns) d' t' v' = readBox st d' t' v' := by
  unfold writeBox
  split
  · rename_i e
    simp only [readBox]
    split
    · rename_i e'
      by_cases ht : t' = t
      · subst ht
        have hv : ¬ v = v' := fun hv => h ⟨e'.trans e.symm, rfl, hv.symm⟩
        simp [upd, List.getElem?_modify, hv]
      · simp [upd, ht]
    · rfl
  · rename_i e
    simp only [readBox, List.length_modify]
    split
    · rfl
    · simp only [List.getElem?_modify]
      by_cases hd : d = d'
      · subst hd
        cases st.σ[d]? with
        | none => rfl
        | some f =>
          by_cases ht : t' = t
          · subst ht
            have hv : ¬ v = v' := fun hv => h ⟨rfl, rfl, hv.symm⟩
            simp [upd, List.getElem?_modify, hv]
          · simp [upd, ht]
      · simp [hd]
theorem writeBox_length {st : St} {d t v off : Nat} {ns : List Cell} : (writeBox st d t v off ns).σ.length = st.σ.length := by
  unfold writeBox
  split <;> simp
theorem opPD_sound {C : Cfg} {W : Nat → Nat → Nat → Bool} {vs : Nat → Nat} {fr : Bool} {dst : Option Nat} {op : Op} {ty : TypeId} {k : St → Prop} {st : St} (h : opPD C W vs fr dst op ty k st) : stepD C W vs fr ⟨dst, op, ty, "", #[], none⟩ k st := by
  have pure : isEff ⟨dst, op, ty, "", #[], none⟩ = false → isRead ⟨dst, op, ty, "", #[], none⟩ = false → opP C dst op ty k st → stepD C W vs fr ⟨dst, op, ty, "", #[], none⟩ k st := by
    intro he hr h
    have h2 := opP_sound h
    cases op <;> first
      | (simp [isRead] at hr; done)
      | (simp only [stepD]; exact opV_mono (fun x hx => ⟨by rw [he]; simp, hx⟩) h2)
  have bound : isRead ⟨dst, op, ty, "", #[], none⟩ = false → fr = false → opP C dst op ty k st → stepD C W vs fr ⟨dst, op, ty, "", #[], none⟩ k st := by
    intro hr hf h
    have h2 := opP_sound h
    subst hf
    cases op <;> first
      | (simp [isRead] at hr; done)
      | (simp only [stepD]; exact opV_mono (fun x hx => ⟨by simp, hx⟩) h2)
  unfold opPD at h
  split at h
  · split at h
    · rename_i hd
      obtain ⟨h1, h2, h3⟩ := h
      exact ⟨_, _, hd, rfl, by simpa [readBox] using h1, h2, h3⟩
    · exact h.elim
  · exact ⟨h.1, opP_sound h.2⟩
  · have h2 := opP_sound h.2
    have h1 := h.1
    simp only [stepD, opV] at h2 ⊢
    obtain ⟨d, fd, tt, v, off, cs, ns, g1, g2, g3, g4, g5, g6, g7, g8⟩ := h2
    refine ⟨d, fd, tt, v, off, cs, ns, g1, g2, g3, g4, g5, g6, g7, fun hf => ⟨?_, fun a b c hw => ?_⟩, g8⟩
    · cases dst <;> simp [put, writeBox_length]
    · have hf' : fr = true := by simpa [isEff] using hf
      have hW := h1 hf'
      rw [g2] at hW
      have key : readBox (writeBox st fd tt v off ns) a b c = readBox st a b c := readBox_writeBox fun e => by
        obtain ⟨rfl, rfl, rfl⟩ := e
        rw [hW] at hw
        cases hw
      cases dst <;> exact key
  · exact bound rfl h.1 h.2
  · rename_i c
    split at h
    · rename_i hc
      have h2 := opP_sound h
      simp only [stepD]
      simp only [opV, hc, AppendV] at h2 ⊢
      obtain ⟨s, x, t, u, d, e, de, ow, sz, es, oy, sy, ys, h1, h3, h4, h5, h6, h7, h8, h9, h10, h11, h12, h13, h14, h15, h16⟩ := h2
      refine ⟨s, x, t, u, d, e, de, ow, sz, es, oy, sy, ys, h1, h3, h4, h5, h6, h7, h8, h9, h10, h11, h12, h13, h14, h15, fun _ => ⟨by simp, fun d t v _ => ?_⟩, h16⟩
      simp [readBox]
    · rename_i hc
      exact pure (by simp [isEff, hc]) rfl h
    · exact h
  · rename_i h1 h2 h3 h4 h5
    cases op <;> first
      | (exact absurd rfl (h1 _))
      | (exact absurd rfl (h2 _ _))
      | (exact absurd rfl (h3 _ _ _))
      | (exact absurd rfl (h4 _ _))
      | (exact absurd rfl (h5 _))
      | exact pure rfl rfl h
def opsPD (C : Cfg) (W : Nat → Nat → Nat → Bool) (vs : Nat → Nat) (K : St → Prop) : List Bool → List SOp → St → Prop
  | _, [], st => K st
  | fr :: fl, ⟨dst, op, ty, .always⟩ :: l, st => opPD C W vs fr dst op ty (opsPD C W vs K fl l) st
  | fr :: fl, ⟨dst, op, ty, .tmp t want⟩ :: l, st => match st.env t with
    | .one (.bool b) => if b = want then opPD C W vs fr dst op ty (opsPD C W vs K fl l) st else opsPD C W vs K fl l (put st dst .gone)
    | .gone => opsPD C W vs K fl l (put st dst .gone)
    | _ => False
  | _, _ :: _, _ => False
theorem opsPD_sound {C : Cfg} {W : Nat → Nat → Nat → Bool} {vs : Nat → Nat} {K : St → Prop} : ∀ (l : List SOp) (fl : List Bool) (st : St), opsPD C W vs K fl l st → opsSD C W vs K fl l st
  | [], fl, _, h => by simp only [opsPD] at h; rw [opsSD_nil]; exact h
  | s :: l, [], st, h => by simp only [opsPD] at h
  | ⟨dst, op, ty, .always⟩ :: l, fr :: fl, st, h => by
    simp only [opsPD] at h
    rw [opsSD_cons]
    exact stepD_mono (fun s hs => opsPD_sound l fl s hs) (opPD_sound h)
  | ⟨dst, op, ty, .tmp t want⟩ :: l, fr :: fl, st, h => by
    simp only [opsPD] at h
    rw [opsSD_guard]
    split at h
    · rename_i b hb
      refine ⟨some b, by rw [hb]; try rfl, ?_⟩
      split at h
      · rename_i e; rw [if_pos (by rw [e])]; exact stepD_mono (fun s hs => opsPD_sound l fl s hs) (opPD_sound h)
      · rename_i e; rw [if_neg (by simpa using e)]; exact opsPD_sound l fl _ h
    · rename_i hb
      exact ⟨none, by rw [hb]; try rfl, by rw [if_neg (by simp)]; exact opsPD_sound l fl _ h⟩
    · exact h.elim
  | ⟨_, _, _, .bad⟩ :: _, fr :: _, _, h => by simp only [opsPD] at h
end Go.Proofs.YtcgmhnlmgomlgaaGreatDoor.V

namespace Go.Proofs.YtcgmhnlmgomlgaaGreatDoor.V
open Go
section
variable {C : Cfg} {K k : St → Prop} {st : St} {dst : Option Nat} {ty : TypeId} {W : Nat → Nat → Nat → Bool} {vs : Nat → Nat} {fr : Bool} {fl : List Bool}
@[simp] theorem opsP_nil : opsP C K [] st = K st := rfl
@[simp] theorem opsP_cons {op : Op} {l : List SOp} : opsP C K (⟨dst, op, ty, .always⟩ :: l) st = opP C dst op ty (opsP C K l) st := rfl
@[simp] theorem opsP_guard {op : Op} {l : List SOp} {t : Nat} {want : Bool} : opsP C K (⟨dst, op, ty, .tmp t want⟩ :: l) st = match st.env t with
    | .one (.bool b) => if b = want then opP C dst op ty (opsP C K l) st else opsP C K l (put st dst .gone)
    | .gone => opsP C K l (put st dst .gone)
    | _ => False := rfl
@[simp] theorem opsPD_nil : opsPD C W vs K fl [] st = K st := by simp only [opsPD]
@[simp] theorem opsPD_cons {op : Op} {l : List SOp} : opsPD C W vs K (fr :: fl) (⟨dst, op, ty, .always⟩ :: l) st = opPD C W vs fr dst op ty (opsPD C W vs K fl l) st := rfl
@[simp] theorem opsPD_guard {op : Op} {l : List SOp} {t : Nat} {want : Bool} : opsPD C W vs K (fr :: fl) (⟨dst, op, ty, .tmp t want⟩ :: l) st = match st.env t with
    | .one (.bool b) => if b = want then opPD C W vs fr dst op ty (opsPD C W vs K fl l) st else opsPD C W vs K fl l (put st dst .gone)
    | .gone => opsPD C W vs K fl l (put st dst .gone)
    | _ => False := rfl
@[simp] theorem opP_move {x : Operand} : opP C dst (.move x) ty k st = k (put st dst (operT C st.env ty x)) := rfl
@[simp] theorem opP_assign {x : Operand} : opP C dst (.assign x) ty k st = k (put st dst (operT C st.env ty x)) := rfl
@[simp] theorem opP_pick {c a b : Operand} : opP C dst (.pick c a b) ty k st = match oper C st.env c with
    | .one (.bool t) => k (put st dst (if t = true then oper C st.env a else oper C st.env b))
    | _ => False := rfl
@[simp] theorem opP_bin {op : BinOp} {xt yt : TypeId} {x y : Operand} : opP C dst (.binOp op xt x y yt) ty k st = match binF C op xt (oper C st.env x) (oper C st.env y) with
    | some r => k (put st dst r)
    | none => False := rfl
@[simp] theorem opP_not {xt : TypeId} {x : Operand} : opP C dst (.unOp .not xt x) ty k st = match oper C st.env x with
    | .one (.bool b) => k (put st dst (.one (.bool (!b))))
    | _ => False := rfl
@[simp] theorem opP_extract {x : Operand} {i : Nat} : opP C dst (.extract x i) ty k st = match oper C st.env x with
    | .tup vs => match vs[i]? with
      | some v => k (put st dst (erV v))
      | none => False
    | _ => False := rfl
@[simp] theorem opP_field {s : TypeId} {x : Operand} {f : Nat} : opP C dst (.fieldAddr s x f) ty k st = match C.T s with
    | some d => match d.k with
      | .struct fs => match fs[f]? with
        | some q => 0 < q.2 ∧ match addrP (oper C st.env x) q.1 with
          | some r => k (put st dst r)
          | none => False
        | none => False
      | _ => False
    | none => False := rfl
@[simp] theorem opP_index {t : TypeId} {x i : Operand} : opP C dst (.indexAddr t x i) ty k st = match C.T t with
    | some d => match d.k with
      | .slice e => match C.T e with
        | some de => match oper C st.env i with
          | .one (.int _ n) => 0 ≤ n ∧ match oper C st.env x with
            | .one (.slice _ sz es) => de.size = sz ∧ match es[n.toNat]? with
              | some e' => k (put st dst (.one (.cptr e' 0)))
              | none => False
            | _ => False
          | _ => False
        | none => False
      | .array len e => match C.T e with
        | some de => match oper C st.env i with
          | .one (.int _ n) => 0 ≤ n ∧ n < len ∧ match addrP (oper C st.env x) (n.toNat * de.size) with
            | some r => k (put st dst r)
            | none => False
          | _ => False
        | none => False
      | _ => False
    | none => False := rfl
@[simp] theorem opP_build {t : TypeId} {parts : Array (Nat × Operand)} : opP C dst (.build t parts) ty k st = match C.T t with
    | some d => match d.k with
      | .struct fs => match fillC fs d.zero (parts.toList.map fun q => (q.1, oper C st.env q.2)) with
        | some cs => k (put st dst (.agg cs))
        | none => False
      | _ => False
    | none => False := rfl
@[simp] theorem opP_buildSlice {t : TypeId} {n : Nat} {parts : Array (Nat × Operand)} : opP C dst (.buildSlice t n parts) ty k st = match C.T t with
    | some d => match d.k with
      | .slice e => match C.T e with
        | some de => match elemsOf 0 (parts.toList.map fun q => (q.1, oper C st.env q.2)) with
          | some es => es.length = n ∧ (∀ x ∈ es, x.length = de.size) ∧ n * de.size ≤ 16777216 ∧ k (put st dst (.one (.slice .full de.size es)))
          | none => False
        | none => False
      | _ => False
    | none => False := rfl
@[simp] theorem opP_load {t : TypeId} {x : Operand} : opP C dst (.load t x) ty k st = match C.T t with
    | some d => match oper C st.env x with
      | .one (.box fd tt v off) => match readBox st fd tt v with
        | some cs => off + d.size ≤ cs.length ∧ k (put st dst (if fd = st.σ.length then mkPV d.isAgg ((cs.drop off).take d.size) else erV (mkPV d.isAgg ((cs.drop off).take d.size))))
        | none => False
      | .one (.cptr cs off) => off + d.size ≤ cs.length ∧ k (put st dst (erV (mkPV d.isAgg ((cs.drop off).take d.size))))
      | _ => False
    | none => False := rfl
@[simp] theorem opP_alloc {x : Nat} {t : TypeId} : opP C (some x) (.alloc t) ty k st = match C.T t with
    | some d => k { st with loc := upd st.loc x (st.loc x ++ [d.zero]), env := upd st.env x (.one (.box st.σ.length x (st.loc x).length 0)) }
    | none => False := by simp only [opP]; cases C.T t <;> rfl
@[simp] theorem opP_box {x : Nat} {t : TypeId} {y : Operand} : opP C (some x) (.box t y) ty k st = match C.T t with
    | some d => match (oper C st.env y).cells with
      | some cs => cs.length = d.size ∧ k { st with loc := upd st.loc x (st.loc x ++ [cs]), env := upd st.env x (.one (.box st.σ.length x (st.loc x).length 0)) }
      | none => False
    | none => False := by simp only [opP]; cases C.T t <;> rfl
@[simp] theorem opP_store {t : TypeId} {x y : Operand} : opP C dst (.store t x y) ty k st = match C.T t with
    | some d => match oper C st.env x with
      | .one (.box fd tt v off) => match readBox st fd tt v with
        | some cs => match (operT C st.env t y).cells with
          | some ns => ns.length = d.size ∧ off + ns.length ≤ cs.length ∧ (fd = st.σ.length ∨ flatL ns = true) ∧ k (put (writeBox st fd tt v off ns) dst .undef)
          | none => False
        | none => False
      | _ => False
    | none => False := rfl
@[simp] theorem opP_len {x : Operand} {t : TypeId} : opP C dst (.call ⟨.builtin .len, #[x], #[t]⟩) ty k st = match C.T t with
    | some d => match d.k with
      | .slice _ => match oper C st.env x with
        | .one (.slice _ _ es) => k (put st dst (.one (.int .i64 es.length)))
        | _ => False
      | _ => False
    | none => False := rfl
@[simp] theorem opP_append {t : TypeId} {s x : Operand} : opP C dst (.call ⟨.builtin .append, #[s, x], #[t, t]⟩) ty k st = match C.T t with
    | some d => match d.k with
      | .slice e => match C.T e with
        | some de => match oper C st.env s with
          | .one (.slice ow sz es) => match oper C st.env x with
            | .one (.slice _ sy ys) => 0 < de.size ∧ (sz = de.size ∨ (es = [] ∧ ow = .full)) ∧ (ys = [] ∨ sy = de.size) ∧ okOwn st.live ow ∧ (es.length + ys.length) * de.bytes ≤ 140737488355328 ∧ es.length + ys.length ≤ 9223372036854775807 ∧
              k (put { st with live := grownLive st.live ow } dst (.one (.slice (.tip st.live.nx) de.size (es ++ ys.map fun e => e.map erC))))
            | _ => False
          | _ => False
        | none => False
      | _ => False
    | none => False := by
  exact propext ⟨fun h => h.2, fun h => ⟨rfl, h⟩⟩
@[simp] theorem opPD_alloc {x : Nat} {t : TypeId} : opPD C W vs fr (some x) (.alloc t) ty k st = match C.T t with
    | some d => (st.loc x)[vs x]? = some d.zero ∧ (fr = true → W st.σ.length x (vs x) = false) ∧ k (put st (some x) (.one (.box st.σ.length x (vs x) 0)))
    | none => False := by simp only [opPD]; cases C.T t <;> rfl
@[simp] theorem opPD_load {t : TypeId} {x : Operand} : opPD C W vs fr dst (.load t x) ty k st = ((fr = true → match oper C st.env x with
      | .one (.box d tt v _) => W d tt v = false
      | _ => True) ∧ opP C dst (.load t x) ty k st) := rfl
@[simp] theorem opPD_store {t : TypeId} {x y : Operand} : opPD C W vs fr dst (.store t x y) ty k st = ((fr = true → match oper C st.env x with
      | .one (.box d tt v _) => W d tt v = true
      | _ => False) ∧ opP C dst (.store t x y) ty k st) := rfl
@[simp] theorem opPD_move {x : Operand} : opPD C W vs fr dst (.move x) ty k st = opP C dst (.move x) ty k st := rfl
@[simp] theorem opPD_assign {x : Operand} : opPD C W vs fr dst (.assign x) ty k st = opP C dst (.assign x) ty k st := rfl
@[simp] theorem opPD_pick {c a b : Operand} : opPD C W vs fr dst (.pick c a b) ty k st = opP C dst (.pick c a b) ty k st := rfl
@[simp] theorem opPD_bin {op : BinOp} {xt yt : TypeId} {x y : Operand} : opPD C W vs fr dst (.binOp op xt x y yt) ty k st = opP C dst (.binOp op xt x y yt) ty k st := rfl
@[simp] theorem opPD_not {op : UnOp} {xt : TypeId} {x : Operand} : opPD C W vs fr dst (.unOp op xt x) ty k st = opP C dst (.unOp op xt x) ty k st := rfl
@[simp] theorem opPD_extract {x : Operand} {i : Nat} : opPD C W vs fr dst (.extract x i) ty k st = opP C dst (.extract x i) ty k st := rfl
@[simp] theorem opPD_field {s : TypeId} {x : Operand} {f : Nat} : opPD C W vs fr dst (.fieldAddr s x f) ty k st = opP C dst (.fieldAddr s x f) ty k st := rfl
@[simp] theorem opPD_index {t : TypeId} {x i : Operand} : opPD C W vs fr dst (.indexAddr t x i) ty k st = opP C dst (.indexAddr t x i) ty k st := rfl
@[simp] theorem opPD_build {t : TypeId} {parts : Array (Nat × Operand)} : opPD C W vs fr dst (.build t parts) ty k st = opP C dst (.build t parts) ty k st := rfl
@[simp] theorem opPD_buildSlice {t : TypeId} {n : Nat} {parts : Array (Nat × Operand)} : opPD C W vs fr dst (.buildSlice t n parts) ty k st = opP C dst (.buildSlice t n parts) ty k st := rfl
@[simp] theorem opPD_slice {t : TypeId} {x : Operand} {lo hi mx : Option Operand} : opPD C W vs fr dst (.slice t x lo hi mx) ty k st = opP C dst (.slice t x lo hi mx) ty k st := rfl
@[simp] theorem opPD_nilCheck {x : Operand} : opPD C W vs fr dst (.nilCheck x) ty k st = opP C dst (.nilCheck x) ty k st := rfl
@[simp] theorem opPD_len {xs : Array Operand} {ts : Array TypeId} : opPD C W vs fr dst (.call ⟨.builtin .len, xs, ts⟩) ty k st = opP C dst (.call ⟨.builtin .len, xs, ts⟩) ty k st := rfl
@[simp] theorem opPD_append {xs : Array Operand} {ts : Array TypeId} : opPD C W vs fr dst (.call ⟨.builtin .append, xs, ts⟩) ty k st = opP C dst (.call ⟨.builtin .append, xs, ts⟩) ty k st := rfl
@[simp] theorem opP_call {f : Operand} {xs : Array Operand} {ts : Array TypeId} : opP C dst (.call ⟨.value f, xs, ts⟩) ty k st = opV C ⟨dst, .call ⟨.value f, xs, ts⟩, ty, "", #[], none⟩ k st := rfl
@[simp] theorem opPD_call {f : Operand} {xs : Array Operand} {ts : Array TypeId} : opPD C W vs fr dst (.call ⟨.value f, xs, ts⟩) ty k st = stepD C W vs fr ⟨dst, .call ⟨.value f, xs, ts⟩, ty, "", #[], none⟩ k st := rfl
theorem stepD_call {f : Nat} {xs : Array Operand} {ts : Array TypeId} {p : String} {af : Array Edge} {g : Option (Nat × Bool)} {v : PV} {ps : List PV} (h : CallsV C f ps (st.σ ++ [st.loc]) (.val v) (st.σ ++ [st.loc])) (ha : argsT C st.env ts.toList xs.toList = ps) (hk : K (put st dst v)) : stepD C W vs fr ⟨dst, .call ⟨.value (.func f), xs, ts⟩, ty, p, af, g⟩ K st := by
  simp only [stepD]
  exact opV_call h ha ⟨fun _ => ⟨by simp, fun d t v _ => by simp [readBox]⟩, hk⟩
@[simp] theorem binF_int {op : BinOp} {xt : TypeId} {k : IntKind} {x y : Int} : binF C op xt (.one (.int k x)) (.one (.int k y)) = (intC op k x y).map .one := by
  simp only [binF, if_true]
  cases intC op k x y <;> rfl
@[simp] theorem intC_lss {k : IntKind} {a b : Int} : intC .lss k a b = some (.bool (decide (a < b))) := rfl
@[simp] theorem intC_leq {k : IntKind} {a b : Int} : intC .leq k a b = some (.bool (decide (a ≤ b))) := rfl
@[simp] theorem intC_gtr {k : IntKind} {a b : Int} : intC .gtr k a b = some (.bool (decide (a > b))) := rfl
@[simp] theorem intC_geq {k : IntKind} {a b : Int} : intC .geq k a b = some (.bool (decide (a ≥ b))) := rfl
@[simp] theorem intC_eql {k : IntKind} {a b : Int} : intC .eql k a b = some (.bool (a == b)) := rfl
@[simp] theorem intC_neq {k : IntKind} {a b : Int} : intC .neq k a b = some (.bool (a != b)) := rfl
@[simp] theorem intC_add {k : IntKind} {a b : Int} : intC .add k a b = some (.int k (k.wrap (a + b))) := rfl
@[simp] theorem intC_sub {k : IntKind} {a b : Int} : intC .sub k a b = some (.int k (k.wrap (a - b))) := rfl
@[simp] theorem intC_mul {k : IntKind} {a b : Int} : intC .mul k a b = some (.int k (k.wrap (a * b))) := rfl
end
@[simp] theorem mkPV_agg {cs : List Cell} : mkPV true cs = .agg cs := rfl
@[simp] theorem mkPV_one {c : Cell} : mkPV false [c] = .one c := rfl
@[simp] theorem cells_one {c : Cell} : (PV.one c).cells = some [c] := rfl
@[simp] theorem cells_agg {cs : List Cell} : (PV.agg cs).cells = some cs := rfl
@[simp] theorem isAgg_struct {fs : List (Nat × Nat)} {a b : Nat} {z : List Cell} : TyD.isAgg ⟨.struct fs, a, b, z⟩ = true := rfl
@[simp] theorem isAgg_array {n : Nat} {e : TypeId} {a b : Nat} {z : List Cell} : TyD.isAgg ⟨.array n e, a, b, z⟩ = true := rfl
@[simp] theorem isAgg_slice {e : TypeId} {a b : Nat} {z : List Cell} : TyD.isAgg ⟨.slice e, a, b, z⟩ = false := rfl
@[simp] theorem isAgg_bool {a b : Nat} {z : List Cell} : TyD.isAgg ⟨.bool, a, b, z⟩ = false := rfl
@[simp] theorem isAgg_other {a b : Nat} {z : List Cell} : TyD.isAgg ⟨.other, a, b, z⟩ = false := rfl
@[simp] theorem addrP_box {d t v off o : Nat} : addrP (.one (.box d t v off)) o = some (.one (.box d t v (off + o))) := rfl
@[simp] theorem addrP_cptr {cs : List Cell} {off o : Nat} : addrP (.one (.cptr cs off)) o = some (.one (.cptr cs (off + o))) := rfl
@[simp] theorem initEnv_eq {ps : List PV} {t : Nat} : initEnv ps t = erV (ps.getD t .undef) := rfl
@[simp] theorem SOp_oper {dst : Option Nat} {op : Op} {ty : TypeId} {g : SG} : SOp.oper ⟨dst, op, ty, g⟩ = ⟨dst, op, ty, "", #[], none⟩ := rfl
@[simp] theorem reserve_nil {C : Cfg} {l : Frm} : reserve C [] l = l := rfl
@[simp] theorem reserve_alloc {C : Cfg} {d : Nat} {t ty : TypeId} {p : String} {a : Array Edge} {g : Option (Nat × Bool)} {rest : List Oper} {l : Frm} : reserve C (⟨some d, .alloc t, ty, p, a, g⟩ :: rest) l = match C.T t with
    | some td => reserve C rest (upd l d (l d ++ [td.zero]))
    | none => reserve C rest l := rfl
theorem reserve_other {C : Cfg} {o : Oper} {rest : List Oper} {l : Frm} (h : isAlloc o = false) : reserve C (o :: rest) l = reserve C rest l := by
  cases ho : o.op <;> simp [isAlloc, ho] at h <;> simp [reserve, ho]
section
variable {C : Cfg} {rest : List Oper} {l : Frm} {dst : Option Nat} {ty : TypeId} {p : String} {af : Array Edge} {g : Option (Nat × Bool)}
@[simp] theorem reserve_move {x : Operand} : reserve C (⟨dst, .move x, ty, p, af, g⟩ :: rest) l = reserve C rest l := reserve_other rfl
@[simp] theorem reserve_assign {x : Operand} : reserve C (⟨dst, .assign x, ty, p, af, g⟩ :: rest) l = reserve C rest l := reserve_other rfl
@[simp] theorem reserve_pick {a b c : Operand} : reserve C (⟨dst, .pick c a b, ty, p, af, g⟩ :: rest) l = reserve C rest l := reserve_other rfl
@[simp] theorem reserve_bin {op : BinOp} {xt yt : TypeId} {x y : Operand} : reserve C (⟨dst, .binOp op xt x y yt, ty, p, af, g⟩ :: rest) l = reserve C rest l := reserve_other rfl
@[simp] theorem reserve_un {op : UnOp} {xt : TypeId} {x : Operand} : reserve C (⟨dst, .unOp op xt x, ty, p, af, g⟩ :: rest) l = reserve C rest l := reserve_other rfl
@[simp] theorem reserve_extract {x : Operand} {i : Nat} : reserve C (⟨dst, .extract x i, ty, p, af, g⟩ :: rest) l = reserve C rest l := reserve_other rfl
@[simp] theorem reserve_field {s : TypeId} {x : Operand} {f : Nat} : reserve C (⟨dst, .fieldAddr s x f, ty, p, af, g⟩ :: rest) l = reserve C rest l := reserve_other rfl
@[simp] theorem reserve_index {t : TypeId} {x i : Operand} : reserve C (⟨dst, .indexAddr t x i, ty, p, af, g⟩ :: rest) l = reserve C rest l := reserve_other rfl
@[simp] theorem reserve_build {t : TypeId} {parts : Array (Nat × Operand)} : reserve C (⟨dst, .build t parts, ty, p, af, g⟩ :: rest) l = reserve C rest l := reserve_other rfl
@[simp] theorem reserve_buildSlice {t : TypeId} {n : Nat} {parts : Array (Nat × Operand)} : reserve C (⟨dst, .buildSlice t n parts, ty, p, af, g⟩ :: rest) l = reserve C rest l := reserve_other rfl
@[simp] theorem reserve_load {t : TypeId} {x : Operand} : reserve C (⟨dst, .load t x, ty, p, af, g⟩ :: rest) l = reserve C rest l := reserve_other rfl
@[simp] theorem reserve_store {t : TypeId} {x y : Operand} : reserve C (⟨dst, .store t x y, ty, p, af, g⟩ :: rest) l = reserve C rest l := reserve_other rfl
@[simp] theorem reserve_call {c : Call} : reserve C (⟨dst, .call c, ty, p, af, g⟩ :: rest) l = reserve C rest l := reserve_other rfl
@[simp] theorem reserve_nilCheck {x : Operand} : reserve C (⟨dst, .nilCheck x, ty, p, af, g⟩ :: rest) l = reserve C rest l := reserve_other rfl
@[simp] theorem reserve_slice {t : TypeId} {x : Operand} {lo hi mx : Option Operand} : reserve C (⟨dst, .slice t x lo hi mx, ty, p, af, g⟩ :: rest) l = reserve C rest l := reserve_other rfl
end
def loopK (I : Nat → St → Prop) (Q : Ex → St → Prop) (m : Nat) : Ex → St → Prop := fun e s' => match e with
  | .normal => ∃ k, k < m ∧ I k s'
  | e => Q e s'
@[simp] theorem loopK_exit {I : Nat → St → Prop} {Q : Ex → St → Prop} {m id : Nat} {st : St} : loopK I Q m (.exit id) st = Q (.exit id) st := rfl
@[simp] theorem loopK_ret {I : Nat → St → Prop} {Q : Ex → St → Prop} {m : Nat} {st : St} : loopK I Q m .ret st = Q .ret st := rfl
theorem loopK_normal {I : Nat → St → Prop} {Q : Ex → St → Prop} {m : Nat} {st : St} (k : Nat) (hk : k < m) (h : I k st) : loopK I Q m .normal st := ⟨k, hk, h⟩
def resP (C : Cfg) (st : St) : List ResultVar → (List PV → Prop) → Prop
  | [], k => k []
  | .tmp t :: rs, k => resP C st rs fun ps => k (st.env t :: ps)
  | .cell x t :: rs, k => match C.T t with
    | some d => match st.env x with
      | .one (.box fd tt v off) => match readBox st fd tt v with
        | some cs => off + d.size ≤ cs.length ∧ resP C st rs fun ps => k ((if fd = st.σ.length then mkPV d.isAgg ((cs.drop off).take d.size) else erV (mkPV d.isAgg ((cs.drop off).take d.size))) :: ps)
        | none => False
      | _ => False
    | none => False
theorem resP_sound {C : Cfg} {st : St} : ∀ (rs : List ResultVar) (k : List PV → Prop), resP C st rs k → ∃ ps, resAll C st rs ps ∧ k ps
  | [], k, h => ⟨[], rfl, h⟩
  | .tmp t :: rs, k, h => by
    obtain ⟨ps, h1, h2⟩ := resP_sound rs _ h
    exact ⟨_, ⟨_, ps, rfl, h1, rfl⟩, h2⟩
  | .cell x t :: rs, k, h => by
    simp only [resP] at h
    split at h
    · rename_i d hd
      split at h
      · rename_i fd tt v off hx
        split at h
        · rename_i cs hcs
          obtain ⟨h0, h⟩ := h
          obtain ⟨ps, h1, h2⟩ := resP_sound rs _ h
          refine ⟨_, ⟨_, ps, ?_, h1, rfl⟩, h2⟩
          simp only [resOne, loadR, hx]
          exact ⟨d, hd, cs, hcs, h0, rfl⟩
        · exact h.elim
      · exact h.elim
    · exact h.elim
@[simp] theorem endOk_val {st : St} {q p : PV} : endOk st q (.val p) = (flatV q = true ∧ p = erV q) := rfl
@[simp] theorem resP_nil {C : Cfg} {st : St} {k : List PV → Prop} : resP C st [] k = k [] := rfl
@[simp] theorem resP_tmp {C : Cfg} {st : St} {k : List PV → Prop} {t : Nat} {rs : List ResultVar} : resP C st (.tmp t :: rs) k = resP C st rs fun ps => k (st.env t :: ps) := rfl
@[simp] theorem resP_cell {C : Cfg} {st : St} {k : List PV → Prop} {x : Nat} {t : TypeId} {rs : List ResultVar} : resP C st (.cell x t :: rs) k = match C.T t with
    | some d => match st.env x with
      | .one (.box fd tt v off) => match readBox st fd tt v with
        | some cs => off + d.size ≤ cs.length ∧ resP C st rs fun ps => k ((if fd = st.σ.length then mkPV d.isAgg ((cs.drop off).take d.size) else erV (mkPV d.isAgg ((cs.drop off).take d.size))) :: ps)
        | none => False
      | _ => False
    | none => False := rfl
@[simp] theorem resPV_one {p : PV} : resPV [p] = p := rfl
@[simp] theorem resPV_two {p q : PV} : resPV [p, q] = .tup [p, q] := rfl
@[simp] theorem resPV_three {p q r : PV} : resPV [p, q, r] = .tup [p, q, r] := rfl
@[simp] theorem flatC_int (k : IntKind) (n : Int) : flatC (.int k n) = true := by simp [flatC]
@[simp] theorem flatC_bool (b : Bool) : flatC (.bool b) = true := by simp [flatC]
@[simp] theorem flatC_slice (o : Own) (sz : Nat) (es : List (List Cell)) : flatC (.slice o sz es) = flatLL es := by simp [flatC]
@[simp] theorem flatL_nil : flatL [] = true := rfl
@[simp] theorem flatL_cons (c : Cell) (cs : List Cell) : flatL (c :: cs) = (flatC c && flatL cs) := rfl
@[simp] theorem flatLL_nil : flatLL [] = true := rfl
@[simp] theorem flatLL_cons (c : List Cell) (cs : List (List Cell)) : flatLL (c :: cs) = (flatL c && flatLL cs) := rfl
@[simp] theorem flatL_enc (t : Ty) : flatL (enc t) = true := enc_flat t
@[simp] theorem flatLL_enc (l : List Ty) : flatLL (l.map enc) = true := flatLL_of fun e he => by
  obtain ⟨x, _, rfl⟩ := List.mem_map.1 he
  exact enc_flat x
theorem flatLL_append (a b : List (List Cell)) : flatLL (a ++ b) = (flatLL a && flatLL b) := by
  induction a with
  | nil => simp
  | cons x a ih => simp [ih, Bool.and_assoc]
@[simp] theorem fillC_nil {fs : List (Nat × Nat)} {cs : List Cell} : fillC fs cs [] = some cs := rfl
@[simp] theorem fillC_cons {fs : List (Nat × Nat)} {cs : List Cell} {i : Nat} {p : PV} {rest : List (Nat × PV)} : fillC fs cs ((i, p) :: rest) = match fs[i]?, p.cells with
    | some (off, size), some ns => if ns.length = size ∧ off + ns.length ≤ cs.length then fillC fs (splice cs off ns) rest else none
    | _, _ => none := rfl
@[simp] theorem elemsOf_nil {j : Nat} : elemsOf j [] = some [] := rfl
@[simp] theorem elemsOf_cons {j i : Nat} {p : PV} {rest : List (Nat × PV)} : elemsOf j ((i, p) :: rest) = match p.cells, elemsOf (j + 1) rest with
    | some ns, some es => if i = j then some (ns.map erC :: es) else none
    | _, _ => none := rfl
@[simp] theorem splice_eq (cs : List Cell) (off : Nat) (ns : List Cell) : splice cs off ns = cs.take off ++ ns ++ cs.drop (off + ns.length) := rfl
@[simp] theorem okOwn_full {l : Live} : okOwn l .full = True := rfl
@[simp] theorem okOwn_tip {l : Live} {k : Nat} : okOwn l (.tip k) = (l.on k = true) := rfl
@[simp] theorem grown_on {l : Live} {ow : Own} : (grownLive l ow).on l.nx = true := by simp [grownLive]
def wpP (C : Cfg) : SC → (Ex → St → Prop) → St → Prop
  | .skip, Q, st => Q .normal st
  | .ops l keep, Q, st => opsP C (nextK Q keep) l st
  | .draw l fl keep, Q, st => ∃ W, opsPD C W (fun d => (st.loc d).length) (nextK Q keep) fl l { st with loc := reserve C (l.map SOp.oper) st.loc }
  | .seq a b, Q, st => wpP C a (fun e s => match e with
    | .normal => wpP C b Q s
    | e => Q e s) st
  | .cond c a b, Q, st => match oper C st.env c with
    | .one (.bool t) => if t = true then wpP C a Q st else wpP C b Q st
    | _ => False
  | .block id c, Q, st => wpP C c (blockEx id Q) st
  | .exit id, Q, st => Q (.exit id) st
  | .ret, Q, st => Q .ret st
  | .loop b, Q, st => wpS C (.loop b) Q st
  | .bad, _, _ => False
theorem wpP_sound {C : Cfg} : ∀ (c : SC) (Q : Ex → St → Prop) (st : St), wpP C c Q st → wpS C c Q st := by
  intro c
  induction c with
  | skip => exact fun Q st h => h
  | ops l keep => exact fun Q st h => opsP_sound _ _ h
  | draw l fl keep => exact fun Q st ⟨W, h⟩ => ⟨W, opsPD_sound _ _ _ h⟩
  | seq a b iha ihb =>
    intro Q st h
    refine wpS_mono a (fun e s hs => ?_) (iha _ _ h)
    cases e with
    | normal => exact ihb _ _ hs
    | exit id => exact hs
    | ret => exact hs
  | cond c a b iha ihb =>
    intro Q st h
    simp only [wpP] at h
    split at h
    · rename_i t ht
      refine ⟨t, ht, ?_⟩
      split at h
      · rename_i e; rw [if_pos e]; exact iha _ _ h
      · rename_i e; rw [if_neg e]; exact ihb _ _ h
    · exact h.elim
  | block id c ih => exact fun Q st h => ih _ _ h
  | loop c ih => exact fun Q st h => h
  | exit id => exact fun Q st h => h
  | ret => exact fun Q st h => h
  | bad => exact fun Q st h => h
def seqP (C : Cfg) (b : SC) (Q : Ex → St → Prop) : Ex → St → Prop := fun e s => match e with
  | .normal => wpP C b Q s
  | e => Q e s
section
variable {C : Cfg} {Q : Ex → St → Prop} {st : St}
@[simp] theorem seqP_normal {b : SC} : seqP C b Q .normal st = wpP C b Q st := rfl
@[simp] theorem seqP_exit {b : SC} {id : Nat} : seqP C b Q (.exit id) st = Q (.exit id) st := rfl
@[simp] theorem seqP_ret {b : SC} : seqP C b Q .ret st = Q .ret st := rfl
@[simp] theorem wpP_ops {l : List SOp} {keep : List Nat} : wpP C (.ops l keep) Q st = opsP C (nextK Q keep) l st := rfl
@[simp] theorem wpP_seq {a b : SC} : wpP C (.seq a b) Q st = wpP C a (seqP C b Q) st := rfl
@[simp] theorem wpP_skip : wpP C .skip Q st = Q .normal st := rfl
@[simp] theorem wpP_exit {id : Nat} : wpP C (.exit id) Q st = Q (.exit id) st := rfl
@[simp] theorem wpP_ret : wpP C .ret Q st = Q .ret st := rfl
@[simp] theorem wpP_cond {c : Operand} {a b : SC} : wpP C (.cond c a b) Q st = match oper C st.env c with
    | .one (.bool t) => if t = true then wpP C a Q st else wpP C b Q st
    | _ => False := rfl
@[simp] theorem wpP_block {id : Nat} {c : SC} : wpP C (.block id c) Q st = wpP C c (blockEx id Q) st := rfl
theorem wpP_draw (W : Nat → Nat → Nat → Bool) {l : List SOp} {fl : List Bool} {keep : List Nat} (h : opsPD C W (fun d => (st.loc d).length) (nextK Q keep) fl l { st with loc := reserve C (l.map SOp.oper) st.loc }) : wpP C (.draw l fl keep) Q st := ⟨W, h⟩
theorem callP_mono {k k' : St → Prop} {dst : Option Nat} {c : Call} {ty : TypeId} (hi : ∀ s, k s → k' s) (h : callP C dst c ty k st) : callP C dst c ty k' st := by
  unfold callP at h ⊢
  split at h
  · unfold lenP at h ⊢
    split at h
    · repeat' (split at h)
      all_goals simp_all
    · exact h.elim
  · unfold appendP at h ⊢
    split at h
    · obtain ⟨h0, h⟩ := h
      refine ⟨h0, ?_⟩
      repeat' (split at h)
      all_goals simp_all
    · exact h.elim
  · exact opV_mono hi h
theorem opP_mono {k k' : St → Prop} {dst : Option Nat} {op : Op} {ty : TypeId} (hi : ∀ s, k s → k' s) (h : opP C dst op ty k st) : opP C dst op ty k' st := by
  cases op <;> simp only [opP] at h ⊢ <;> first
    | exact hi _ h
    | exact callP_mono hi h
    | exact opV_mono hi h
    | skip
  all_goals repeat' (split at h)
  all_goals first
    | (exact h.elim; done)
    | (simp_all; done)
    | skip
  all_goals first
    | exact ⟨h.1, h.2.1, h.2.2.1, hi _ h.2.2.2⟩
    | exact opV_mono hi h
theorem opsP_mono {K K' : St → Prop} (hi : ∀ s, K s → K' s) : ∀ (l : List SOp) (st : St), opsP C K l st → opsP C K' l st
  | [], _, h => hi _ h
  | ⟨dst, op, ty, .always⟩ :: l, st, h => opP_mono (fun s hs => opsP_mono hi l s hs) h
  | ⟨dst, op, ty, .tmp t want⟩ :: l, st, h => by
    rw [opsP_guard] at h ⊢
    split at h
    · split at h
      · rename_i e; simp only [e]; exact opP_mono (fun s hs => opsP_mono hi l s hs) (by simpa [e] using h)
      · rename_i e; simp only [if_neg e]; exact opsP_mono hi l _ h
    · exact opsP_mono hi l _ h
    · exact h.elim
  | ⟨_, _, _, .bad⟩ :: _, _, h => h.elim
theorem opPD_mono {k k' : St → Prop} {W : Nat → Nat → Nat → Bool} {vs : Nat → Nat} {fr : Bool} {dst : Option Nat} {op : Op} {ty : TypeId} (hi : ∀ s, k s → k' s) (h : opPD C W vs fr dst op ty k st) : opPD C W vs fr dst op ty k' st := by
  cases op <;> simp only [opPD] at h ⊢ <;> first
    | exact opP_mono hi h
    | exact ⟨h.1, opP_mono hi h.2⟩
    | skip
  · split at h
    · exact ⟨h.1, h.2.1, hi _ h.2.2⟩
    · exact h.elim
  · split at h
    · exact opP_mono hi h
    · exact opP_mono hi h
    · exact stepD_mono hi h
theorem opsPD_mono {K K' : St → Prop} {W : Nat → Nat → Nat → Bool} {vs : Nat → Nat} (hi : ∀ s, K s → K' s) : ∀ (l : List SOp) (fl : List Bool) (st : St), opsPD C W vs K fl l st → opsPD C W vs K' fl l st
  | [], fl, _, h => by simp only [opsPD] at h ⊢; exact hi _ h
  | s :: l, [], st, h => by simp only [opsPD] at h
  | ⟨dst, op, ty, .always⟩ :: l, fr :: fl, st, h => opPD_mono (fun s hs => opsPD_mono hi l fl s hs) h
  | ⟨dst, op, ty, .tmp t want⟩ :: l, fr :: fl, st, h => by
    rw [opsPD_guard] at h ⊢
    split at h
    · split at h
      · rename_i e; simp only [e]; exact opPD_mono (fun s hs => opsPD_mono hi l fl s hs) (by simpa [e] using h)
      · rename_i e; simp only [if_neg e]; exact opsPD_mono hi l fl _ h
    · exact opsPD_mono hi l fl _ h
    · exact h.elim
  | ⟨_, _, _, .bad⟩ :: _, fr :: _, _, h => by simp only [opsPD] at h
theorem wpP_mono : ∀ (c : SC) {Q Q' : Ex → St → Prop} {st : St}, (∀ e s, Q e s → Q' e s) → wpP C c Q st → wpP C c Q' st := by
  intro c
  induction c with
  | skip => exact fun hi h => hi _ _ h
  | ops l keep => exact fun hi h => opsP_mono (fun s hs => hi _ _ hs) l _ h
  | draw l fl keep => exact fun hi ⟨W, h⟩ => ⟨W, opsPD_mono (fun s hs => hi _ _ hs) l fl _ h⟩
  | seq a b iha ihb =>
    intro Q Q' st hi h
    refine iha (fun e s hs => ?_) h
    cases e with
    | normal => exact ihb hi hs
    | exit id => exact hi _ _ hs
    | ret => exact hi _ _ hs
  | cond c a b iha ihb =>
    intro Q Q' st hi h
    simp only [wpP] at h ⊢
    split at h
    · split at h
      · rename_i e; rw [if_pos e]; exact iha hi h
      · rename_i e; rw [if_neg e]; exact ihb hi h
    · exact h.elim
  | block id c ih =>
    intro Q Q' st hi h
    refine ih (fun e s hs => ?_) h
    cases e with
    | normal => exact hi _ _ hs
    | ret => exact hi _ _ hs
    | exit i =>
      simp only [blockEx] at hs ⊢
      split at hs
      · rename_i e; rw [if_pos e]; exact hi _ _ hs
      · rename_i e; rw [if_neg e]; exact hi _ _ hs
  | loop c ih => exact fun hi h => wpS_mono (.loop c) hi h
  | exit id => exact fun hi h => hi _ _ h
  | ret => exact fun hi h => hi _ _ h
  | bad => exact fun _ h => h
def cutK (R : St → Prop) (Q : Ex → St → Prop) : Ex → St → Prop
  | .normal, s => R s
  | e, s => Q e s
@[simp] theorem cutK_normal {R : St → Prop} {Q : Ex → St → Prop} : cutK R Q .normal st = R st := rfl
@[simp] theorem cutK_ret {R : St → Prop} {Q : Ex → St → Prop} : cutK R Q .ret st = Q .ret st := rfl
@[simp] theorem cutK_exit {R : St → Prop} {Q : Ex → St → Prop} {id : Nat} : cutK R Q (.exit id) st = Q (.exit id) st := rfl
theorem wpP_cut (R : St → Prop) {a b : SC} {Q : Ex → St → Prop} (h1 : wpP C a (cutK R Q) st) (h2 : ∀ s, R s → wpP C b Q s) : wpP C (.seq a b) Q st :=
  wpP_mono a (fun e s hs => by
    cases e with
    | normal => exact h2 s hs
    | ret => exact hs
    | exit id => exact hs) h1
theorem wpP_assoc {a b c : SC} {Q : Ex → St → Prop} (h : wpP C (.seq (.seq a b) c) Q st) : wpP C (.seq a (.seq b c)) Q st := by
  simp only [wpP_seq] at h ⊢
  refine wpP_mono a (fun e s hs => ?_) h
  cases e with
  | normal => exact hs
  | ret => exact hs
  | exit id => exact hs
theorem cut2 (R : St → Prop) {a b c : SC} {Q : Ex → St → Prop} (h1 : wpP C (.seq a b) (cutK R Q) st) (h2 : ∀ s, R s → wpP C c Q s) : wpP C (.seq a (.seq b c)) Q st := wpP_assoc (wpP_cut R h1 h2)
theorem cut3 (R : St → Prop) {a b c d : SC} {Q : Ex → St → Prop} (h1 : wpP C (.seq (.seq a b) c) (cutK R Q) st) (h2 : ∀ s, R s → wpP C d Q s) : wpP C (.seq a (.seq b (.seq c d))) Q st := wpP_assoc (cut2 R h1 h2)
theorem cut4 (R : St → Prop) {a b c d e : SC} {Q : Ex → St → Prop} (h1 : wpP C (.seq (.seq (.seq a b) c) d) (cutK R Q) st) (h2 : ∀ s, R s → wpP C e Q s) : wpP C (.seq a (.seq b (.seq c (.seq d e)))) Q st := wpP_assoc (cut3 R h1 h2)
theorem cut (R : St → Prop) {a b : SC} {Q : Ex → St → Prop} (h1 : wpP C a (cutK R Q) st) (h2 : ∀ s, R s → wpP C b Q s) : wpP C a (seqP C b Q) st := wpP_cut R h1 h2
theorem wpP_loop (I : Nat → St → Prop) (n : Nat) {c : SC} (h0 : I n st) (hI : ∀ m s, I m s → wpP C c (loopK I Q m) s) : wpP C (.loop c) Q st := by
  refine wpS_loop I n h0 fun m s hs => ?_
  exact wpS_mono c (fun e s' h => by cases e <;> exact h) (wpP_sound _ _ _ (hI m s hs))
def QEndP (C : Cfg) (rs : List ResultVar) (σ' : List Frm) (r : Ret) (ex : Ex) (st : St) : Prop := match ex with
  | .exit _ => False
  | _ => resP C st rs fun ps => st.σ = σ' ∧ endOk st (resPV ps) r
@[simp] theorem QEndP_ret {rs : List ResultVar} {σ' : List Frm} {r : Ret} : QEndP C rs σ' r .ret st = resP C st rs fun ps => st.σ = σ' ∧ endOk st (resPV ps) r := rfl
@[simp] theorem QEndP_normal {rs : List ResultVar} {σ' : List Frm} {r : Ret} : QEndP C rs σ' r .normal st = resP C st rs fun ps => st.σ = σ' ∧ endOk st (resPV ps) r := rfl
theorem wpP_end {sc : SC} {rs : List ResultVar} {σ' : List Frm} {r : Ret} (h : wpP C sc (QEndP C rs σ' r) st) : wpS C sc (QEnd C rs σ' r) st := by
  refine wpS_mono sc (fun e s hs => ?_) (wpP_sound _ _ _ h)
  cases e with
  | exit id => exact hs
  | ret => exact resP_sound _ _ hs
  | normal => exact resP_sound _ _ hs
end
theorem callsV_of_p {C : Cfg} (hm : C.P.follows .mixedOrders = true) (hT : ∀ t d, C.T t = some d → TyFits C.P t d) (ann : List Ann) {f : FuncId} {fn : Func} {c : Code} {sc : SC} {ps : List PV} {σ σ' : List Frm} {r : Ret} (hf : C.P.funcs[f]? = some fn) (hb : fn.body = some c)
    (hname : (fn.name == "runtime.NumGoroutine") = false) (hok : codeOk fn.ntmps c = true) (hd : drawsOk ann c = true) (hsc : strip ann c = sc) (rs : List ResultVar) (hrs : fn.results.toList = rs) (hr : ∀ p, r = .val p → erV p = p)
    (h : wpP C sc (QEndP C rs σ' r) ⟨initEnv ps, fun _ => [], σ, ⟨fun _ => false, 0⟩⟩) : CallsV C f ps σ r σ' :=
  callsV_of_sc hm hT ann hf hb hname hok hd hsc rs hrs hr (wpP_end h)
@[simp] theorem enc_app_take2 (t : Ty) (l : List Cell) : (enc t ++ l).take 2 = enc t := by rw [enc_eq]; try rfl
@[simp] theorem enc_app_take1 (t : Ty) (l : List Cell) : (enc t ++ l).take 1 = [.int .i64 t.kind] := by rw [enc_eq]; try rfl
@[simp] theorem enc_app_drop2 (t : Ty) (l : List Cell) : (enc t ++ l).drop 2 = l := by rw [enc_eq]; try rfl
@[simp] theorem enc_app_drop1 (t : Ty) (l : List Cell) : (enc t ++ l).drop 1 = .slice .no 2 (t.args.map enc) :: l := by rw [enc_eq]; try rfl
@[simp] theorem enc_app_drop3 (t : Ty) (l : List Cell) : (enc t ++ l).drop 3 = l.drop 1 := by rw [enc_eq]; try rfl
@[simp] theorem enc_app_drop4 (t : Ty) (l : List Cell) : (enc t ++ l).drop 4 = l.drop 2 := by rw [enc_eq]; try rfl
@[simp] theorem enc_app_take3 (t : Ty) (l : List Cell) : (enc t ++ l).take 3 = enc t ++ l.take 1 := by rw [enc_eq]; try rfl
@[simp] theorem enc_take1 (t : Ty) : (enc t).take 1 = [.int .i64 t.kind] := by rw [enc_eq]; try rfl
@[simp] theorem enc_drop1 (t : Ty) : (enc t).drop 1 = [.slice .no 2 (t.args.map enc)] := by rw [enc_eq]; try rfl
@[simp] theorem Ty.kind_mk (k : Int) (l : List Ty) : (Ty.mk k l).kind = k := rfl
@[simp] theorem Ty.args_mk (k : Int) (l : List Ty) : (Ty.mk k l).args = l := rfl
theorem flatL_append (a b : List Cell) : flatL (a ++ b) = (flatL a && flatL b) := by
  induction a with
  | nil => simp
  | cons x a ih => simp [ih, Bool.and_assoc]
inductive Tm where
  | mk (kind index : Int) (type : Ty) (args : List Tm)
def Tm.kind : Tm → Int | .mk k _ _ _ => k
def Tm.index : Tm → Int | .mk _ i _ _ => i
def Tm.type : Tm → Ty | .mk _ _ t _ => t
def Tm.args : Tm → List Tm | .mk _ _ _ l => l
@[simp] theorem Tm.kind_mk (k i : Int) (t : Ty) (l : List Tm) : (Tm.mk k i t l).kind = k := rfl
@[simp] theorem Tm.index_mk (k i : Int) (t : Ty) (l : List Tm) : (Tm.mk k i t l).index = i := rfl
@[simp] theorem Tm.type_mk (k i : Int) (t : Ty) (l : List Tm) : (Tm.mk k i t l).type = t := rfl
@[simp] theorem Tm.args_mk (k i : Int) (t : Ty) (l : List Tm) : (Tm.mk k i t l).args = l := rfl
theorem Tm.ind {P : Tm → Prop} (h : ∀ k i t l, (∀ x ∈ l, P x) → P (.mk k i t l)) : ∀ t, P t
  | .mk k i t l => h k i t l fun x _ => Tm.ind h x
mutual
def encT : Tm → List Cell
  | .mk k i t l => .int .i64 k :: .int .i64 i :: (enc t ++ [.slice .no 5 (encTs l)])
def encTs : List Tm → List (List Cell)
  | [] => []
  | x :: l => encT x :: encTs l
end
theorem encTs_eq (l : List Tm) : encTs l = l.map encT := by
  induction l with
  | nil => rfl
  | cons x l ih => simp only [encTs, List.map_cons, ih]
@[simp] theorem encT_mk (k i : Int) (t : Ty) (l : List Tm) : encT (.mk k i t l) = .int .i64 k :: .int .i64 i :: (enc t ++ [.slice .no 5 (l.map encT)]) := by rw [encT, encTs_eq]
@[simp] theorem encT_length (t : Tm) : (encT t).length = 5 := by cases t; simp
@[simp] theorem encT_er (t : Tm) : (encT t).map erC = encT t := by cases t; simp
@[simp] theorem encT_er' (t : Tm) : List.map (fun c => erC c) (encT t) = encT t := encT_er t
@[simp] theorem encT_take (t : Tm) : (encT t).take 5 = encT t := List.take_of_length_le (by simp)
@[simp] theorem encT_flat (t : Tm) : flatL (encT t) = true := by
  induction t using Tm.ind with
  | _ k i t l ih =>
    rw [encT_mk]
    simp [flatL_append]
    exact flatLL_of fun e he => by
      obtain ⟨x, hx, rfl⟩ := List.mem_map.1 he
      exact ih x hx
@[simp] theorem flatLL_encT (l : List Tm) : flatLL (l.map encT) = true := flatLL_of fun e he => by
  obtain ⟨x, _, rfl⟩ := List.mem_map.1 he
  exact encT_flat x
mutual
def Tm.size : Tm → Nat
  | .mk _ _ t l => 1 + t.size + Tm.sizes l
def Tm.sizes : List Tm → Nat
  | [] => 0
  | x :: l => x.size + Tm.sizes l
end
@[simp] theorem Tm.size_mk (k i : Int) (t : Ty) (l : List Tm) : (Tm.mk k i t l).size = 1 + t.size + Tm.sizes l := by rw [Tm.size]
@[simp] theorem Tm.sizes_nil : Tm.sizes [] = 0 := rfl
@[simp] theorem Tm.sizes_cons (x : Tm) (l : List Tm) : Tm.sizes (x :: l) = x.size + Tm.sizes l := by rw [Tm.sizes]
@[simp] theorem Tm.sizes_append (l m : List Tm) : Tm.sizes (l ++ m) = Tm.sizes l + Tm.sizes m := by
  induction l with
  | nil => simp
  | cons x l ih => simp [ih]; omega
theorem Tm.size_pos (t : Tm) : 1 ≤ t.size := by cases t; simp; omega
theorem Tm.length_le (l : List Tm) : l.length ≤ Tm.sizes l := by
  induction l with
  | nil => simp
  | cons x l ih => have := x.size_pos; simp; omega
theorem Tm.sizes_mem {x : Tm} {l : List Tm} (h : x ∈ l) : x.size ≤ Tm.sizes l := by
  induction l with
  | nil => simp at h
  | cons y l ih =>
    rcases List.mem_cons.1 h with rfl | h
    · simp
    · have := ih h; simp; omega
theorem Tm.sizes_take {l : List Tm} {j : Nat} {x : Tm} (hx : l[j]? = some x) : Tm.sizes (l.take (j + 1)) = Tm.sizes (l.take j) + x.size := by
  rw [List.take_add_one, hx]
  simp
theorem Tm.sizes_take_le (l : List Tm) (j : Nat) : Tm.sizes (l.take j) ≤ Tm.sizes l := by
  have h := Tm.sizes_append (l.take j) (l.drop j)
  rw [List.take_append_drop] at h
  omega
inductive Fm where
  | mk (kind : Int) (type : Ty) (terms : List Tm) (args : List Fm)
def Fm.kind : Fm → Int | .mk k _ _ _ => k
def Fm.type : Fm → Ty | .mk _ t _ _ => t
def Fm.terms : Fm → List Tm | .mk _ _ m _ => m
def Fm.args : Fm → List Fm | .mk _ _ _ l => l
@[simp] theorem Fm.kind_mk (k : Int) (t : Ty) (m : List Tm) (l : List Fm) : (Fm.mk k t m l).kind = k := rfl
@[simp] theorem Fm.type_mk (k : Int) (t : Ty) (m : List Tm) (l : List Fm) : (Fm.mk k t m l).type = t := rfl
@[simp] theorem Fm.terms_mk (k : Int) (t : Ty) (m : List Tm) (l : List Fm) : (Fm.mk k t m l).terms = m := rfl
@[simp] theorem Fm.args_mk (k : Int) (t : Ty) (m : List Tm) (l : List Fm) : (Fm.mk k t m l).args = l := rfl
theorem Fm.ind {P : Fm → Prop} (h : ∀ k t m l, (∀ x ∈ l, P x) → P (.mk k t m l)) : ∀ t, P t
  | .mk k t m l => h k t m l fun x _ => Fm.ind h x
mutual
def encF : Fm → List Cell
  | .mk k t m l => .int .i64 k :: (enc t ++ [.slice .no 5 (m.map encT), .slice .no 5 (encFs l)])
def encFs : List Fm → List (List Cell)
  | [] => []
  | x :: l => encF x :: encFs l
end
theorem encFs_eq (l : List Fm) : encFs l = l.map encF := by
  induction l with
  | nil => rfl
  | cons x l ih => simp only [encFs, List.map_cons, ih]
@[simp] theorem encF_mk (k : Int) (t : Ty) (m : List Tm) (l : List Fm) : encF (.mk k t m l) = .int .i64 k :: (enc t ++ [.slice .no 5 (m.map encT), .slice .no 5 (l.map encF)]) := by rw [encF, encFs_eq]
@[simp] theorem encF_length (t : Fm) : (encF t).length = 5 := by cases t; simp
@[simp] theorem encF_er (t : Fm) : (encF t).map erC = encF t := by cases t; simp
@[simp] theorem encF_er' (t : Fm) : List.map (fun c => erC c) (encF t) = encF t := encF_er t
@[simp] theorem encF_take (t : Fm) : (encF t).take 5 = encF t := List.take_of_length_le (by simp)
@[simp] theorem encF_flat (t : Fm) : flatL (encF t) = true := by
  induction t using Fm.ind with
  | _ k t m l ih =>
    rw [encF_mk]
    simp [flatL_append]
    exact flatLL_of fun e he => by
      obtain ⟨x, hx, rfl⟩ := List.mem_map.1 he
      exact ih x hx
@[simp] theorem flatLL_encF (l : List Fm) : flatLL (l.map encF) = true := flatLL_of fun e he => by
  obtain ⟨x, _, rfl⟩ := List.mem_map.1 he
  exact encF_flat x
mutual
def Fm.size : Fm → Nat
  | .mk _ t m l => 1 + t.size + Tm.sizes m + Fm.sizes l
def Fm.sizes : List Fm → Nat
  | [] => 0
  | x :: l => x.size + Fm.sizes l
end
@[simp] theorem Fm.size_mk (k : Int) (t : Ty) (m : List Tm) (l : List Fm) : (Fm.mk k t m l).size = 1 + t.size + Tm.sizes m + Fm.sizes l := by rw [Fm.size]
@[simp] theorem Fm.sizes_nil : Fm.sizes [] = 0 := rfl
@[simp] theorem Fm.sizes_cons (x : Fm) (l : List Fm) : Fm.sizes (x :: l) = x.size + Fm.sizes l := by rw [Fm.sizes]
@[simp] theorem Fm.sizes_append (l m : List Fm) : Fm.sizes (l ++ m) = Fm.sizes l + Fm.sizes m := by
  induction l with
  | nil => simp
  | cons x l ih => simp [ih]; omega
theorem Fm.size_pos (t : Fm) : 1 ≤ t.size := by cases t; simp; omega
theorem Fm.length_le (l : List Fm) : l.length ≤ Fm.sizes l := by
  induction l with
  | nil => simp
  | cons x l ih => have := x.size_pos; simp; omega
theorem Fm.sizes_mem {x : Fm} {l : List Fm} (h : x ∈ l) : x.size ≤ Fm.sizes l := by
  induction l with
  | nil => simp at h
  | cons y l ih =>
    rcases List.mem_cons.1 h with rfl | h
    · simp
    · have := ih h; simp; omega
theorem Fm.sizes_take {l : List Fm} {j : Nat} {x : Fm} (hx : l[j]? = some x) : Fm.sizes (l.take (j + 1)) = Fm.sizes (l.take j) + x.size := by
  rw [List.take_add_one, hx]
  simp
theorem Fm.sizes_take_le (l : List Fm) (j : Nat) : Fm.sizes (l.take j) ≤ Fm.sizes l := by
  have h := Fm.sizes_append (l.take j) (l.drop j)
  rw [List.take_append_drop] at h
  omega
end Go.Proofs.YtcgmhnlmgomlgaaGreatDoor.V

namespace Go.Proofs.YtcgmhnlmgomlgaaGreatDoor.V
open Go
def rangeK (b b2 : Nat) (P : St → Prop) (Q : Ex → St → Prop) : Ex → St → Prop
  | .normal, s => P s
  | .exit i, s => if i = b2 then P s else if i = b then Q .normal s else Q (.exit i) s
  | .ret, s => Q .ret s
section
variable {b b2 : Nat} {P : St → Prop} {Q : Ex → St → Prop} {s : St}
@[simp] theorem rangeK_normal : rangeK b b2 P Q .normal s = P s := rfl
@[simp] theorem rangeK_ret : rangeK b b2 P Q .ret s = Q .ret s := rfl
@[simp] theorem rangeK_exit {i : Nat} : rangeK b b2 P Q (.exit i) s = if i = b2 then P s else if i = b then Q .normal s else Q (.exit i) s := rfl
theorem wpP_range {C : Cfg} {ti tn tc ta : Nat} {k1 k2 : List Nat} {x1 x2 y1 y2 t1 t2 t3 : TypeId} {body : SC} {st : St} (N : Nat) (I : Nat → St → Prop) (hN : (N : Int) ≤ 4611686018427387904)
    (h0 : I 0 st) (hI : ∀ j s, I j s → s.env ti = .one (.int .i64 j) ∧ s.env tn = .one (.int .i64 N))
    (hstep : ∀ j s, j < N → I j s → wpP C body (rangeK b b2 (fun s2 => s2.env ti = .one (.int .i64 j) ∧ I (j + 1) (keepE (put (put s2 (some ta) (.one (.int .i64 ((j : Int) + 1)))) (some ti) (.one (.int .i64 ((j : Int) + 1)))) k2)) Q) (keepE (put s (some tc) (.one (.bool true))) k1))
    (hk : tc ∈ k1 := by simp)
    (hend : ∀ s, I N s → Q .normal (keepE (put s (some tc) (.one (.bool false))) k1)) :
    wpP C (.loop (.seq (.ops [⟨some tc, .binOp .lss x1 (.tmp ti) (.tmp tn) x2, t1, .always⟩] k1) (.seq (.cond (.tmp tc) .skip (.exit b)) (.seq (.block b2 body)
      (.ops [⟨some ta, .binOp .add y1 (.tmp ti) (.const (.int .i64 1)) y2, t2, .always⟩, ⟨some ti, .move (.tmp ta), t3, .always⟩] k2))))) (blockEx b Q) st := by
  have hkeep : ∀ (l : List Nat) (env : Nat → PV) (t : Nat), t ∈ l → mkE (l.map fun k => (k, env k)) t = env t := by
    intro l env t
    induction l with
    | nil => intro h; simp at h
    | cons x l ih =>
      intro h
      simp only [List.map_cons, mkE_cons]
      by_cases e : t = x
      · subst e; simp
      · rw [if_neg e]; exact ih ((List.mem_cons.1 h).resolve_left e)
  show wpS C (.loop _) (blockEx b Q) st
  refine wpS_loop (fun m s => ∃ j, j ≤ N ∧ m = N - j ∧ I j s) N ⟨0, Nat.zero_le _, rfl, h0⟩ ?_
  rintro m s ⟨j, hj, rfl, hs⟩
  obtain ⟨h1, h2⟩ := hI j s hs
  obtain ⟨env, loc, σ, live⟩ := s
  simp only at h1 h2
  rw [wpS_seq]
  refine opsP_sound _ _ ?_
  simp only [opsP_cons, opsP_nil, opP_bin, oper_tmp, h1, h2, binF_int, intC_lss, Option.map_some, seqK_normal, put_some]
  rw [wpS_seq]
  refine ⟨decide ((j : Int) < N), ?_, ?_⟩
  · simp only [oper_tmp, keepE]
    rw [hkeep _ _ _ hk]
    simp
  by_cases hlt : j < N
  · have hd : decide ((j : Int) < N) = true := by simpa using hlt
    rw [hd, if_pos rfl, wpS_skip, seqK_normal, wpS_seq, wpS_block]
    have key : ∀ s' : St, (s'.env ti = .one (.int .i64 j) ∧ I (j + 1) (keepE (put (put s' (some ta) (.one (.int .i64 ((j : Int) + 1)))) (some ti) (.one (.int .i64 ((j : Int) + 1)))) k2)) →
        wpS C (.ops [⟨some ta, .binOp .add y1 (.tmp ti) (.const (.int .i64 1)) y2, t2, .always⟩, ⟨some ti, .move (.tmp ta), t3, .always⟩] k2) (loopK (fun m s => ∃ j, j ≤ N ∧ m = N - j ∧ I j s) (blockEx b Q) (N - j)) s' := by
      rintro ⟨env', loc', σ', live'⟩ ⟨e1, e2⟩
      refine opsP_sound _ _ ?_
      simp only at e1
      simp only [opsP_cons, opsP_nil, opP_bin, opP_move, oper_tmp, oper_int, operT_tmp, e1, binF_int, intC_add, Option.map_some, put_some, upd_same]
      rw [wrap_id (by omega) (by omega)]
      exact loopK_normal (N - (j + 1)) (by omega) ⟨j + 1, hlt, rfl, e2⟩
    refine wpS_mono body ?_ (wpP_sound _ _ _ (hstep j _ hlt hs))
    intro e s' hs'
    cases e with
    | normal => exact key s' hs'
    | ret => exact hs'
    | exit i =>
      simp only [rangeK_exit] at hs'
      show blockEx b2 _ (.exit i) s'
      simp only [blockEx_exit]
      split at hs'
      · rename_i e; rw [if_pos e]; exact key s' hs'
      · rename_i e
        rw [if_neg e]
        exact hs'
  · have hd : decide ((j : Int) < N) = false := by simpa using hlt
    obtain rfl : j = N := by omega
    rw [hd, if_neg (by simp), wpS_exit, seqK_exit]
    show blockEx b Q (.exit b) _
    simp only [blockEx_exit, if_true]
    rw [← hd]
    rw [hd]
    exact hend _ hs
end
end Go.Proofs.YtcgmhnlmgomlgaaGreatDoor.V

namespace Go.Proofs.YtcgmhnlmgomlgaaGreatDoor.V
open Go
theorem Ty.sizes_take {l : List Ty} {j : Nat} {x : Ty} (hx : l[j]? = some x) : Ty.sizes (l.take (j + 1)) = Ty.sizes (l.take j) + x.size := by
  rw [List.take_add_one, hx]
  simp
theorem Ty.sizes_take_le (l : List Ty) (j : Nat) : Ty.sizes (l.take j) ≤ Ty.sizes l := by
  have h := Ty.sizes_append (l.take j) (l.drop j)
  rw [List.take_append_drop] at h
  omega
def Ty.check (t : Ty) : Int := if t.ok = true then if t.size ≤ 64 then 0 else 4 else 2
def tmArity (k : Int) : Option Nat := if 1 ≤ k ∧ k < 14 then some ([0, 0, 1, 2, 0, 1, 3, 0, 2, 3, 2, 1, 1, 0].getD k.toNat 0) else none
def tmTyped (k : Int) : Bool := k == 2 || k == 6 || k == 9
def Ty.none : Ty → Bool
  | .mk k l => k == 0 && l.isEmpty
def Tm.head (k i : Int) (t : Ty) (n : Nat) : Bool := tmArity k == some n && decide (0 ≤ i) && (i == 0 || k == 1) && (if tmTyped k = true then t.check == 0 else t.none)
mutual
def Tm.ok : Tm → Bool
  | .mk k i t l => Tm.head k i t l.length && Tm.oks l
def Tm.oks : List Tm → Bool
  | [] => true
  | x :: l => x.ok && Tm.oks l
end
mutual
def Tm.count : Tm → Nat
  | .mk _ _ _ l => 1 + Tm.counts l
def Tm.counts : List Tm → Nat
  | [] => 0
  | x :: l => x.count + Tm.counts l
end
@[simp] theorem Tm.ok_mk (k i : Int) (t : Ty) (l : List Tm) : (Tm.mk k i t l).ok = (Tm.head k i t l.length && Tm.oks l) := by rw [Tm.ok]
@[simp] theorem Tm.oks_nil : Tm.oks [] = true := rfl
@[simp] theorem Tm.oks_cons (x : Tm) (l : List Tm) : Tm.oks (x :: l) = (x.ok && Tm.oks l) := by rw [Tm.oks]
@[simp] theorem Tm.count_mk (k i : Int) (t : Ty) (l : List Tm) : (Tm.mk k i t l).count = 1 + Tm.counts l := by rw [Tm.count]
@[simp] theorem Tm.counts_nil : Tm.counts [] = 0 := rfl
@[simp] theorem Tm.counts_cons (x : Tm) (l : List Tm) : Tm.counts (x :: l) = x.count + Tm.counts l := by rw [Tm.counts]
@[simp] theorem Tm.counts_append (l m : List Tm) : Tm.counts (l ++ m) = Tm.counts l + Tm.counts m := by
  induction l with
  | nil => simp
  | cons x l ih => simp [ih]; omega
theorem Tm.counts_take {l : List Tm} {j : Nat} {x : Tm} (hx : l[j]? = some x) : Tm.counts (l.take (j + 1)) = Tm.counts (l.take j) + x.count := by
  rw [List.take_add_one, hx]
  simp
theorem Tm.counts_take_le (l : List Tm) (j : Nat) : Tm.counts (l.take j) ≤ Tm.counts l := by
  have h := Tm.counts_append (l.take j) (l.drop j)
  rw [List.take_append_drop] at h
  omega
theorem Tm.count_le (t : Tm) : t.count ≤ t.size := by
  induction t using Tm.ind with
  | _ k i t l ih =>
    simp
    have : Tm.counts l ≤ Tm.sizes l := by
      clear k i t
      induction l with
      | nil => simp
      | cons x l ihl =>
        have := ih x (by simp)
        have := ihl fun y hy => ih y (by simp [hy])
        simp
        omega
    omega
theorem Tm.counts_le (l : List Tm) : Tm.counts l ≤ Tm.sizes l := by
  induction l with
  | nil => simp
  | cons x l ih =>
    have := x.count_le
    simp
    omega
def fmArity (k : Int) : Option (Nat × Nat × Bool) := if k = 1 then some (2, 0, false) else if k = 2 ∨ k = 3 then some (0, 2, false) else if k = 4 ∨ k = 5 ∨ k = 6 ∨ k = 7 then some (0, 1, true) else none
def Fm.head (k : Int) (t : Ty) (nt na : Nat) : Bool := match fmArity k with
  | some (a, b, ty) => (if ty = true then t.check == 0 else t.none) && (nt == a && na == b)
  | none => false
mutual
def Fm.ok : Fm → Bool
  | .mk k t m l => Fm.head k t m.length l.length && (Tm.oks m && Fm.oks l)
def Fm.oks : List Fm → Bool
  | [] => true
  | x :: l => x.ok && Fm.oks l
end
mutual
def Fm.count : Fm → Nat
  | .mk _ _ m l => 1 + Tm.counts m + Fm.counts l
def Fm.counts : List Fm → Nat
  | [] => 0
  | x :: l => x.count + Fm.counts l
end
@[simp] theorem Fm.ok_mk (k : Int) (t : Ty) (m : List Tm) (l : List Fm) : (Fm.mk k t m l).ok = (Fm.head k t m.length l.length && (Tm.oks m && Fm.oks l)) := by rw [Fm.ok]
@[simp] theorem Fm.oks_nil : Fm.oks [] = true := rfl
@[simp] theorem Fm.oks_cons (x : Fm) (l : List Fm) : Fm.oks (x :: l) = (x.ok && Fm.oks l) := by rw [Fm.oks]
@[simp] theorem Fm.count_mk (k : Int) (t : Ty) (m : List Tm) (l : List Fm) : (Fm.mk k t m l).count = 1 + Tm.counts m + Fm.counts l := by rw [Fm.count]
@[simp] theorem Fm.counts_nil : Fm.counts [] = 0 := rfl
@[simp] theorem Fm.counts_cons (x : Fm) (l : List Fm) : Fm.counts (x :: l) = x.count + Fm.counts l := by rw [Fm.counts]
@[simp] theorem Fm.counts_append (l m : List Fm) : Fm.counts (l ++ m) = Fm.counts l + Fm.counts m := by
  induction l with
  | nil => simp
  | cons x l ih => simp [ih]; omega
theorem Fm.counts_take {l : List Fm} {j : Nat} {x : Fm} (hx : l[j]? = some x) : Fm.counts (l.take (j + 1)) = Fm.counts (l.take j) + x.count := by
  rw [List.take_add_one, hx]
  simp
theorem Fm.counts_take_le (l : List Fm) (j : Nat) : Fm.counts (l.take j) ≤ Fm.counts l := by
  have h := Fm.counts_append (l.take j) (l.drop j)
  rw [List.take_append_drop] at h
  omega
theorem Fm.count_le (f : Fm) : f.count ≤ f.size := by
  induction f using Fm.ind with
  | _ k t m l ih =>
    simp
    have h1 := Tm.counts_le m
    have : Fm.counts l ≤ Fm.sizes l := by
      clear h1 k t m
      induction l with
      | nil => simp
      | cons x l ihl =>
        have := ih x (by simp)
        have := ihl fun y hy => ih y (by simp [hy])
        simp
        omega
    omega
theorem Fm.counts_le (l : List Fm) : Fm.counts l ≤ Fm.sizes l := by
  induction l with
  | nil => simp
  | cons x l ih =>
    have := x.count_le
    simp
    omega
def Fm.check (f : Fm) : Int := if f.ok = true then if f.count ≤ 4096 then 0 else 4 else 2
def Ty.zero : Ty := .mk 0 []
def join (k : Int) (a b : Ty) : Ty × Bool × Int := if (Ty.mk k [a, b]).check = 0 then (.mk k [a, b], true, 0) else (.zero, false, (Ty.mk k [a, b]).check)
def ofStep (k : Int) (t : Ty) (fst lst : Ty × Bool × Int) : Ty × Bool × Int :=
  if k = 1 then (.zero, false, 0)
  else if lst.2.2 ≠ 0 then (.zero, false, lst.2.2)
  else if k = 2 then
    if fst.2.2 ≠ 0 ∨ fst.2.1 = false then (lst.1, lst.2.1, fst.2.2)
    else if lst.2.1 = false then (fst.1, true, 0) else join 3 fst.1 lst.1
  else if k = 5 then if lst.2.1 = false then (t, true, 0) else join 3 t lst.1
  else if lst.2.1 = false then (.zero, false, 0)
  else if k = 3 then if fst.2.2 ≠ 0 ∨ fst.2.1 = false then (lst.1, true, fst.2.2) else join 4 fst.1 lst.1
  else if k = 4 then join 4 t lst.1
  else (lst.1, true, 0)
mutual
def Fm.cof : Fm → Ty × Bool × Int
  | .mk k t _ l => ofStep k t ((Fm.cofs l).headD (.zero, false, 0)) ((Fm.cofs l).getLastD (.zero, false, 0))
def Fm.cofs : List Fm → List (Ty × Bool × Int)
  | [] => []
  | x :: l => x.cof :: Fm.cofs l
end
theorem Fm.shape {k : Int} {t : Ty} {m : List Tm} {l : List Fm} (h : (Fm.mk k t m l).ok = true) :
    (k = 1 ∧ l = []) ∨ ((k = 2 ∨ k = 3) ∧ ∃ y x, l = [y, x] ∧ y.ok = true ∧ x.ok = true) ∨ ((k = 4 ∨ k = 5 ∨ k = 6 ∨ k = 7) ∧ t.check = 0 ∧ ∃ x, l = [x] ∧ x.ok = true) := by
  simp only [Fm.ok_mk, Bool.and_eq_true] at h
  obtain ⟨h1, _, h3⟩ := h
  unfold Fm.head fmArity at h1
  by_cases a1 : k = 1
  · rw [if_pos a1] at h1
    simp at h1
    exact .inl ⟨a1, h1.2.2⟩
  rw [if_neg a1] at h1
  by_cases a2 : k = 2 ∨ k = 3
  · rw [if_pos a2] at h1
    simp at h1
    obtain ⟨y, x, rfl⟩ : ∃ y x, l = [y, x] := by
      match l, h1.2.2 with
      | [y, x], _ => exact ⟨y, x, rfl⟩
    simp at h3
    exact .inr (.inl ⟨a2, y, x, rfl, h3.1, h3.2⟩)
  rw [if_neg a2] at h1
  by_cases a3 : k = 4 ∨ k = 5 ∨ k = 6 ∨ k = 7
  · rw [if_pos a3] at h1
    simp at h1
    obtain ⟨x, rfl⟩ := List.length_eq_one_iff.1 h1.2.2
    simp at h3
    exact .inr (.inr ⟨a3, h1.1, x, rfl, h3⟩)
  · rw [if_neg a3] at h1
    simp at h1
theorem Fm.check_ok {f : Fm} (h : f.check = 0) : f.ok = true := by
  unfold Fm.check at h
  split at h
  · assumption
  · cases h
def checks : List Ty → Int
  | [] => 0
  | x :: l => if x.check = 0 then checks l else x.check
def ctxCheck (l : List Ty) : Int := if 16 < l.length then 3 else checks l
def look : List Ty → List Int → List Fm → List Ty × List Int × Int
  | ts, ps, [] => (ts, ps, 0)
  | ts, ps, f :: fs => if f.check = 0 then if f.cof.2.2 = 0 then if f.cof.2.1 = true then look (ts ++ [f.cof.1]) (ps ++ [(ts.length : Int)]) fs else look ts (ps ++ [-1]) fs else ([], [], f.cof.2.2) else ([], [], f.check)
def looks (ts : List Ty) (hs : List Fm) : List Ty × List Int × Int := if ctxCheck ts = 0 then if 16 < hs.length then ([], [], 3) else look ts [] hs else ([], [], ctxCheck ts)
end Go.Proofs.YtcgmhnlmgomlgaaGreatDoor.V

namespace Go.Proofs.YtcgmhnlmgomlgaaGreatDoor.V
open Go Go.Proofs
def arity : List Cell := [.int .i64 0, .int .i64 0, .int .i64 1, .int .i64 2, .int .i64 0, .int .i64 1, .int .i64 3, .int .i64 0, .int .i64 2, .int .i64 3, .int .i64 2, .int .i64 1, .int .i64 1, .int .i64 0]
noncomputable def cfg : Cfg := ⟨Tryz.prog, tyOf Tryz.prog, fun g => if g = 0 then some arity else none⟩
theorem follows : cfg.P.follows .mixedOrders = true := by kernel_rfl
theorem cfgP : cfg.P = Tryz.prog := by kernel_rfl
theorem cfgTy : cfg.T = tyOf Tryz.prog := by kernel_rfl
theorem cfgT : ∀ t d, cfg.T t = some d → TyFits cfg.P t d := fun t d h => by rw [cfgP]; rw [cfgTy] at h; exact tyOf_fits h
@[simp] theorem T1 : cfg.T 1 = some ⟨.other, 1, 8, [.nilf]⟩ := by kernel_rfl
@[simp] theorem T2 : cfg.T 2 = some ⟨.other, 1, 8, [.int .i64 0]⟩ := by kernel_rfl
@[simp] theorem T3 : cfg.T 3 = some ⟨.other, 1, 8, [.int .i64 0]⟩ := by kernel_rfl
@[simp] theorem T4 : cfg.T 4 = some ⟨.bool, 1, 1, [.bool false]⟩ := by kernel_rfl
@[simp] theorem T5 : cfg.T 5 = some ⟨.other, 1, 1, [.int .u8 0]⟩ := by kernel_rfl
@[simp] theorem T6 : cfg.T 6 = some ⟨.other, 1, 1, [.int .u8 0]⟩ := by kernel_rfl
@[simp] theorem T7 : cfg.T 7 = some ⟨.struct [(0, 1), (1, 1), (2, 1), (3, 1)], 4, 24, [.int .i64 0, .int .i64 0, .bool false, .int .u8 0]⟩ := by kernel_rfl
@[simp] theorem T8 : cfg.T 8 = some ⟨.struct [(0, 1), (1, 1), (2, 1), (3, 1)], 4, 24, [.int .i64 0, .int .i64 0, .bool false, .int .u8 0]⟩ := by kernel_rfl
@[simp] theorem T12 : cfg.T 12 = some ⟨.other, 1, 8, [.int .u64 0]⟩ := by kernel_rfl
@[simp] theorem T15 : cfg.T 15 = some ⟨.other, 1, 8, [.nilp]⟩ := by kernel_rfl
@[simp] theorem T16 : cfg.T 16 = some ⟨.other, 1, 8, [.nilp]⟩ := by kernel_rfl
@[simp] theorem T17 : cfg.T 17 = some ⟨.other, 1, 8, [.nilp]⟩ := by kernel_rfl
@[simp] theorem T18 : cfg.T 18 = some ⟨.struct [(0, 1)], 1, 8, [.nilp]⟩ := by kernel_rfl
@[simp] theorem T19 : cfg.T 19 = some ⟨.struct [(0, 1)], 1, 8, [.nilp]⟩ := by kernel_rfl
@[simp] theorem T21 : cfg.T 21 = some ⟨.other, 1, 4, [.int .i32 0]⟩ := by kernel_rfl
@[simp] theorem T22 : cfg.T 22 = some ⟨.slice 3, 1, 24, [.slice .full 1 []]⟩ := by kernel_rfl
@[simp] theorem T23 : cfg.T 23 = some ⟨.other, 1, 8, [.nilf]⟩ := by kernel_rfl
@[simp] theorem T24 : cfg.T 24 = some ⟨.other, 1, 8, [.nilf]⟩ := by kernel_rfl
@[simp] theorem T25 : cfg.T 25 = some ⟨.other, 1, 8, [.nilp]⟩ := by kernel_rfl
@[simp] theorem T26 : cfg.T 26 = some ⟨.other, 1, 8, [.nilf]⟩ := by kernel_rfl
@[simp] theorem T27 : cfg.T 27 = some ⟨.slice 30, 1, 24, [.slice .full 2 []]⟩ := by kernel_rfl
@[simp] theorem T28 : cfg.T 28 = some ⟨.other, 1, 8, [.nilf]⟩ := by kernel_rfl
@[simp] theorem T29 : cfg.T 29 = some ⟨.struct [(0, 1), (1, 1)], 2, 32, [.int .i64 0, .slice .full 2 []]⟩ := by kernel_rfl
@[simp] theorem T30 : cfg.T 30 = some ⟨.struct [(0, 1), (1, 1)], 2, 32, [.int .i64 0, .slice .full 2 []]⟩ := by kernel_rfl
@[simp] theorem T31 : cfg.T 31 = some ⟨.other, 1, 8, [.nilf]⟩ := by kernel_rfl
@[simp] theorem T32 : cfg.T 32 = some ⟨.slice 51, 1, 24, [.slice .full 5 []]⟩ := by kernel_rfl
@[simp] theorem T33 : cfg.T 33 = some ⟨.slice 35, 1, 24, [.slice .full 5 []]⟩ := by kernel_rfl
@[simp] theorem T34 : cfg.T 34 = some ⟨.struct [(0, 1), (1, 2), (3, 1), (4, 1)], 5, 88, [.int .i64 0, .int .i64 0, .slice .full 2 [], .slice .full 5 [], .slice .full 5 []]⟩ := by kernel_rfl
@[simp] theorem T35 : cfg.T 35 = some ⟨.struct [(0, 1), (1, 2), (3, 1), (4, 1)], 5, 88, [.int .i64 0, .int .i64 0, .slice .full 2 [], .slice .full 5 [], .slice .full 5 []]⟩ := by kernel_rfl
@[simp] theorem T36 : cfg.T 36 = some ⟨.other, 1, 8, [.nilf]⟩ := by kernel_rfl
@[simp] theorem T37 : cfg.T 37 = some ⟨.other, 1, 8, [.nilf]⟩ := by kernel_rfl
@[simp] theorem T39 : cfg.T 39 = some ⟨.other, 1, 8, [.nilf]⟩ := by kernel_rfl
@[simp] theorem T40 : cfg.T 40 = some ⟨.other, 1, 8, [.nilf]⟩ := by kernel_rfl
@[simp] theorem T41 : cfg.T 41 = some ⟨.other, 1, 8, [.nilf]⟩ := by kernel_rfl
@[simp] theorem T42 : cfg.T 42 = some ⟨.other, 1, 8, [.nilf]⟩ := by kernel_rfl
@[simp] theorem T43 : cfg.T 43 = some ⟨.other, 1, 8, [.int .i64 0]⟩ := by kernel_rfl
@[simp] theorem T45 : cfg.T 45 = some ⟨.other, 1, 8, [.nilf]⟩ := by kernel_rfl
@[simp] theorem T46 : cfg.T 46 = some ⟨.other, 1, 8, [.nilf]⟩ := by kernel_rfl
@[simp] theorem T48 : cfg.T 48 = some ⟨.other, 1, 8, [.nilf]⟩ := by kernel_rfl
@[simp] theorem T49 : cfg.T 49 = some ⟨.other, 1, 8, [.nilf]⟩ := by kernel_rfl
@[simp] theorem T50 : cfg.T 50 = some ⟨.struct [(0, 1), (1, 1), (2, 2), (4, 1)], 5, 72, [.int .i64 0, .int .i64 0, .int .i64 0, .slice .full 2 [], .slice .full 5 []]⟩ := by kernel_rfl
@[simp] theorem T51 : cfg.T 51 = some ⟨.struct [(0, 1), (1, 1), (2, 2), (4, 1)], 5, 72, [.int .i64 0, .int .i64 0, .int .i64 0, .slice .full 2 [], .slice .full 5 []]⟩ := by kernel_rfl
@[simp] theorem T52 : cfg.T 52 = some ⟨.other, 1, 8, [.nilf]⟩ := by kernel_rfl
@[simp] theorem T54 : cfg.T 54 = some ⟨.other, 1, 8, [.nilf]⟩ := by kernel_rfl
@[simp] theorem T55 : cfg.T 55 = some ⟨.other, 1, 8, [.nilf]⟩ := by kernel_rfl
@[simp] theorem T56 : cfg.T 56 = some ⟨.other, 1, 8, [.nilf]⟩ := by kernel_rfl
@[simp] theorem T57 : cfg.T 57 = some ⟨.other, 1, 8, [.nilf]⟩ := by kernel_rfl
@[simp] theorem T59 : cfg.T 59 = some ⟨.other, 1, 8, [.nilf]⟩ := by kernel_rfl
@[simp] theorem T60 : cfg.T 60 = some ⟨.other, 1, 8, [.nilf]⟩ := by kernel_rfl
@[simp] theorem T61 : cfg.T 61 = some ⟨.other, 1, 8, [.nilf]⟩ := by kernel_rfl
@[simp] theorem T62 : cfg.T 62 = some ⟨.other, 1, 8, [.nilf]⟩ := by kernel_rfl
@[simp] theorem T63 : cfg.T 63 = some ⟨.other, 1, 8, [.nilf]⟩ := by kernel_rfl
@[simp] theorem T64 : cfg.T 64 = some ⟨.other, 1, 8, [.nilf]⟩ := by kernel_rfl
@[simp] theorem T65 : cfg.T 65 = some ⟨.other, 1, 8, [.nilf]⟩ := by kernel_rfl
@[simp] theorem T66 : cfg.T 66 = some ⟨.other, 1, 8, [.nilf]⟩ := by kernel_rfl
@[simp] theorem T67 : cfg.T 67 = some ⟨.other, 1, 8, [.nilf]⟩ := by kernel_rfl
@[simp] theorem T68 : cfg.T 68 = some ⟨.other, 1, 8, [.nilf]⟩ := by kernel_rfl
@[simp] theorem T69 : cfg.T 69 = some ⟨.other, 1, 8, [.nilf]⟩ := by kernel_rfl
@[simp] theorem T70 : cfg.T 70 = some ⟨.struct [(0, 1), (1, 1)], 2, 32, [.slice .full 1 [], .int .i64 0]⟩ := by kernel_rfl
@[simp] theorem T71 : cfg.T 71 = some ⟨.struct [(0, 1), (1, 1)], 2, 32, [.slice .full 1 [], .int .i64 0]⟩ := by kernel_rfl
@[simp] theorem T72 : cfg.T 72 = some ⟨.other, 1, 8, [.nilf]⟩ := by kernel_rfl
@[simp] theorem T73 : cfg.T 73 = some ⟨.other, 1, 8, [.nilf]⟩ := by kernel_rfl
@[simp] theorem T74 : cfg.T 74 = some ⟨.other, 1, 8, [.nilf]⟩ := by kernel_rfl
@[simp] theorem T75 : cfg.T 75 = some ⟨.other, 1, 8, [.nilf]⟩ := by kernel_rfl
@[simp] theorem T76 : cfg.T 76 = some ⟨.other, 1, 8, [.nilf]⟩ := by kernel_rfl
@[simp] theorem T78 : cfg.T 78 = some ⟨.other, 1, 8, [.nilf]⟩ := by kernel_rfl
@[simp] theorem T79 : cfg.T 79 = some ⟨.other, 1, 1, [.int .u8 0]⟩ := by kernel_rfl
@[simp] theorem T80 : cfg.T 80 = some ⟨.other, 1, 8, [.nilf]⟩ := by kernel_rfl
@[simp] theorem T81 : cfg.T 81 = some ⟨.other, 1, 8, [.nilf]⟩ := by kernel_rfl
@[simp] theorem T82 : cfg.T 82 = some ⟨.other, 1, 8, [.nilf]⟩ := by kernel_rfl
@[simp] theorem T83 : cfg.T 83 = some ⟨.other, 1, 8, [.nilf]⟩ := by kernel_rfl
@[simp] theorem T84 : cfg.T 84 = some ⟨.other, 1, 8, [.nilf]⟩ := by kernel_rfl
@[simp] theorem T85 : cfg.T 85 = some ⟨.other, 1, 8, [.nilf]⟩ := by kernel_rfl
@[simp] theorem T86 : cfg.T 86 = some ⟨.other, 1, 8, [.nilf]⟩ := by kernel_rfl
@[simp] theorem T87 : cfg.T 87 = some ⟨.other, 1, 8, [.nilf]⟩ := by kernel_rfl
@[simp] theorem T88 : cfg.T 88 = some ⟨.other, 1, 8, [.nilf]⟩ := by kernel_rfl
@[simp] theorem T89 : cfg.T 89 = some ⟨.other, 1, 8, [.nilf]⟩ := by kernel_rfl
@[simp] theorem T90 : cfg.T 90 = some ⟨.other, 1, 8, [.nilf]⟩ := by kernel_rfl
@[simp] theorem T91 : cfg.T 91 = some ⟨.other, 1, 8, [.nilf]⟩ := by kernel_rfl
@[simp] theorem T92 : cfg.T 92 = some ⟨.other, 1, 8, [.nilf]⟩ := by kernel_rfl
@[simp] theorem T93 : cfg.T 93 = some ⟨.other, 1, 8, [.nilf]⟩ := by kernel_rfl
@[simp] theorem T94 : cfg.T 94 = some ⟨.other, 1, 8, [.nilf]⟩ := by kernel_rfl
@[simp] theorem T96 : cfg.T 96 = some ⟨.other, 1, 8, [.nilf]⟩ := by kernel_rfl
@[simp] theorem T98 : cfg.T 98 = some ⟨.other, 1, 8, [.nilf]⟩ := by kernel_rfl
@[simp] theorem T99 : cfg.T 99 = some ⟨.other, 1, 8, [.nilf]⟩ := by kernel_rfl
@[simp] theorem T100 : cfg.T 100 = some ⟨.other, 1, 8, [.nilf]⟩ := by kernel_rfl
@[simp] theorem T101 : cfg.T 101 = some ⟨.other, 1, 8, [.nilf]⟩ := by kernel_rfl
@[simp] theorem T102 : cfg.T 102 = some ⟨.other, 1, 8, [.nilf]⟩ := by kernel_rfl
@[simp] theorem T103 : cfg.T 103 = some ⟨.other, 1, 8, [.nilp]⟩ := by kernel_rfl
@[simp] theorem T104 : cfg.T 104 = some ⟨.other, 1, 8, [.nilf]⟩ := by kernel_rfl
@[simp] theorem T105 : cfg.T 105 = some ⟨.array 2 51, 10, 144, [.int .i64 0, .int .i64 0, .int .i64 0, .slice .full 2 [], .slice .full 5 [], .int .i64 0, .int .i64 0, .int .i64 0, .slice .full 2 [], .slice .full 5 []]⟩ := by kernel_rfl
@[simp] theorem T106 : cfg.T 106 = some ⟨.other, 1, 8, [.nilf]⟩ := by kernel_rfl
@[simp] theorem T108 : cfg.T 108 = some ⟨.other, 1, 8, [.nilf]⟩ := by kernel_rfl
@[simp] theorem T109 : cfg.T 109 = some ⟨.other, 1, 8, [.nilf]⟩ := by kernel_rfl
@[simp] theorem T110 : cfg.T 110 = some ⟨.other, 1, 8, [.nilf]⟩ := by kernel_rfl
@[simp] theorem T111 : cfg.T 111 = some ⟨.other, 1, 8, [.nilf]⟩ := by kernel_rfl
@[simp] theorem T112 : cfg.T 112 = some ⟨.other, 1, 8, [.nilf]⟩ := by kernel_rfl
@[simp] theorem T113 : cfg.T 113 = some ⟨.other, 1, 8, [.nilf]⟩ := by kernel_rfl
@[simp] theorem T114 : cfg.T 114 = some ⟨.other, 1, 8, [.nilf]⟩ := by kernel_rfl
@[simp] theorem T115 : cfg.T 115 = some ⟨.other, 1, 8, [.nilf]⟩ := by kernel_rfl
@[simp] theorem T116 : cfg.T 116 = some ⟨.other, 1, 8, [.nilf]⟩ := by kernel_rfl
@[simp] theorem T117 : cfg.T 117 = some ⟨.other, 1, 8, [.nilf]⟩ := by kernel_rfl
@[simp] theorem T118 : cfg.T 118 = some ⟨.other, 1, 8, [.nilf]⟩ := by kernel_rfl
@[simp] theorem T119 : cfg.T 119 = some ⟨.other, 1, 8, [.nilf]⟩ := by kernel_rfl
@[simp] theorem T120 : cfg.T 120 = some ⟨.other, 1, 8, [.nilf]⟩ := by kernel_rfl
@[simp] theorem T121 : cfg.T 121 = some ⟨.other, 1, 8, [.nilf]⟩ := by kernel_rfl
@[simp] theorem T123 : cfg.T 123 = some ⟨.other, 1, 8, [.nilf]⟩ := by kernel_rfl
@[simp] theorem T124 : cfg.T 124 = some ⟨.other, 1, 8, [.nilf]⟩ := by kernel_rfl
@[simp] theorem T125 : cfg.T 125 = some ⟨.other, 1, 8, [.nilf]⟩ := by kernel_rfl
@[simp] theorem T126 : cfg.T 126 = some ⟨.other, 1, 8, [.nilf]⟩ := by kernel_rfl
@[simp] theorem T127 : cfg.T 127 = some ⟨.other, 1, 8, [.nilf]⟩ := by kernel_rfl
@[simp] theorem T128 : cfg.T 128 = some ⟨.other, 1, 8, [.nilf]⟩ := by kernel_rfl
@[simp] theorem T130 : cfg.T 130 = some ⟨.other, 1, 8, [.nilf]⟩ := by kernel_rfl
@[simp] theorem T131 : cfg.T 131 = some ⟨.other, 1, 8, [.nilf]⟩ := by kernel_rfl
@[simp] theorem T132 : cfg.T 132 = some ⟨.other, 1, 8, [.nilf]⟩ := by kernel_rfl
@[simp] theorem T133 : cfg.T 133 = some ⟨.other, 1, 8, [.nilf]⟩ := by kernel_rfl
@[simp] theorem T134 : cfg.T 134 = some ⟨.other, 1, 8, [.nilf]⟩ := by kernel_rfl
@[simp] theorem T135 : cfg.T 135 = some ⟨.other, 1, 8, [.nilf]⟩ := by kernel_rfl
@[simp] theorem T136 : cfg.T 136 = some ⟨.other, 1, 8, [.nilf]⟩ := by kernel_rfl
@[simp] theorem T137 : cfg.T 137 = some ⟨.other, 1, 8, [.nilf]⟩ := by kernel_rfl
@[simp] theorem T138 : cfg.T 138 = some ⟨.array 14 3, 14, 112, [.int .i64 0, .int .i64 0, .int .i64 0, .int .i64 0, .int .i64 0, .int .i64 0, .int .i64 0, .int .i64 0, .int .i64 0, .int .i64 0, .int .i64 0, .int .i64 0, .int .i64 0, .int .i64 0]⟩ := by kernel_rfl
@[simp] theorem T139 : cfg.T 139 = some ⟨.other, 1, 8, [.nilf]⟩ := by kernel_rfl
@[simp] theorem T140 : cfg.T 140 = some ⟨.other, 1, 8, [.nilf]⟩ := by kernel_rfl
@[simp] theorem T143 : cfg.T 143 = some ⟨.array 0 16, 0, 0, []⟩ := by kernel_rfl
@[simp] theorem T144 : cfg.T 144 = some ⟨.struct [(0, 0)], 0, 0, []⟩ := by kernel_rfl
@[simp] theorem T145 : cfg.T 145 = some ⟨.struct [(0, 0)], 0, 0, []⟩ := by kernel_rfl
@[simp] theorem T146 : cfg.T 146 = some ⟨.other, 1, 8, [.nilf]⟩ := by kernel_rfl
@[simp] theorem T147 : cfg.T 147 = some ⟨.other, 1, 4, [.int .u32 0]⟩ := by kernel_rfl
@[simp] theorem T148 : cfg.T 148 = some ⟨.other, 1, 1, [.int .u8 0]⟩ := by kernel_rfl
@[simp] theorem T149 : cfg.T 149 = some ⟨.other, 1, 1, [.int .u8 0]⟩ := by kernel_rfl
@[simp] theorem T150 : cfg.T 150 = some ⟨.other, 1, 8, [.nilf]⟩ := by kernel_rfl
@[simp] theorem T151 : cfg.T 151 = some ⟨.other, 1, 8, [.nilp]⟩ := by kernel_rfl
@[simp] theorem T152 : cfg.T 152 = some ⟨.other, 1, 4, [.int .i32 0]⟩ := by kernel_rfl
@[simp] theorem T153 : cfg.T 153 = some ⟨.other, 1, 4, [.int .i32 0]⟩ := by kernel_rfl
@[simp] theorem T154 : cfg.T 154 = some ⟨.struct [(0, 1), (1, 1), (2, 1), (3, 1), (4, 1), (5, 1), (6, 1), (7, 1), (8, 1), (9, 1), (10, 1)], 11, 48, [.int .u64 0, .int .u64 0, .int .u32 0, .int .u8 0, .int .u8 0, .int .u8 0, .int .u8 0, .nilf, .nilp, .int .i32 0, .int .i32 0]⟩ := by kernel_rfl
@[simp] theorem T155 : cfg.T 155 = some ⟨.struct [(0, 1), (1, 1), (2, 1), (3, 1), (4, 1), (5, 1), (6, 1), (7, 1), (8, 1), (9, 1), (10, 1)], 11, 48, [.int .u64 0, .int .u64 0, .int .u32 0, .int .u8 0, .int .u8 0, .int .u8 0, .int .u8 0, .nilf, .nilp, .int .i32 0, .int .i32 0]⟩ := by kernel_rfl
@[simp] theorem T156 : cfg.T 156 = some ⟨.other, 1, 8, [.nilp]⟩ := by kernel_rfl
@[simp] theorem es22 : esize cfg 22 = 1 := by simp [esize]
@[simp] theorem es27 : esize cfg 27 = 2 := by simp [esize]
@[simp] theorem es32 : esize cfg 32 = 5 := by simp [esize]
@[simp] theorem es33 : esize cfg 33 = 5 := by simp [esize]
end Go.Proofs.YtcgmhnlmgomlgaaGreatDoor.V

set_option maxRecDepth 100000
namespace Go.Proofs.YtcgmhnlmgomlgaaGreatDoor.V
open Go Go.Proofs
noncomputable section
def a27 : List Ann := [⟨[0], [], []⟩,
 ⟨[0], [], []⟩]
def s27 : SC := .seq (.ops [⟨some 0, .alloc 30, 0, .always⟩] [0])
 (.seq (.ops [⟨some 1, .build 30 #[(0, .const (.int .i64 1))], 30, .always⟩,
 ⟨none, .store 30 (.tmp 0) (.tmp 1), 0, .always⟩] [0])
 (.ret))
theorem w27 {args : List PV} {σ σ' : List Frm} {r : Ret} (hr : ∀ p, r = .val p → erV p = p) (h : wpP cfg s27 (QEndP cfg [.cell 0 30] σ' r) ⟨initEnv args, fun _ => [], σ, ⟨fun _ => false, 0⟩⟩) : CallsV cfg 27 args σ r σ' :=
 callsV_of_p follows cfgT a27 (fn := Tryz.f27) (c := Tryz.f27.body.getD .skip) (by kernel_rfl) (by kernel_rfl) (by kernel_rfl) (by kernel_rfl) (by kernel_rfl) (sc := s27) (by kernel_rfl) [.cell 0 30] (by kernel_rfl) hr h
def a77 : List Ann := [⟨[0, 1], [], []⟩,
 ⟨[4], [], []⟩]
def s77 : SC := .seq (.ops [⟨some 4, .assign (.const (.int .i64 0)), 3, .always⟩] [0, 1])
 (.seq (.ops [⟨some 5, .move (.tmp 0), 3, .always⟩,
 ⟨some 6, .move (.tmp 1), 3, .always⟩,
 ⟨some 7, .binOp .rem 3 (.tmp 5) (.tmp 6) 3, 3, .always⟩,
 ⟨some 8, .move (.tmp 1), 3, .always⟩,
 ⟨some 9, .binOp .add 3 (.tmp 7) (.tmp 8) 3, 3, .always⟩,
 ⟨some 10, .move (.tmp 1), 3, .always⟩,
 ⟨some 11, .binOp .rem 3 (.tmp 9) (.tmp 10) 3, 3, .always⟩,
 ⟨some 4, .assign (.tmp 11), 3, .always⟩] [4])
 (.ret))
theorem w77 {args : List PV} {σ σ' : List Frm} {r : Ret} (hr : ∀ p, r = .val p → erV p = p) (h : wpP cfg s77 (QEndP cfg [.tmp 4] σ' r) ⟨initEnv args, fun _ => [], σ, ⟨fun _ => false, 0⟩⟩) : CallsV cfg 77 args σ r σ' :=
 callsV_of_p follows cfgT a77 (fn := Tryz.f77) (c := Tryz.f77.body.getD .skip) (by kernel_rfl) (by kernel_rfl) (by kernel_rfl) (by kernel_rfl) (by kernel_rfl) (sc := s77) (by kernel_rfl) [.tmp 4] (by kernel_rfl) hr h
def a28 : List Ann := [⟨[0, 1], [], []⟩,
 ⟨[0, 1, 19], [0, 1, 3, 7, 15, 31, 63, 7, 135, 391, 903, 1927, 4095, 8191], [false, false, false, false, false, false, false, false, false, false, false, false, false, false]⟩,
 ⟨[4], [], []⟩,
 ⟨[0, 1, 5], [0, 1, 3, 7, 0, 16, 48, 112, 255, 511, 1023], [false, false, false, false, false, false, false, false, false, false, false]⟩,
 ⟨[1, 5], [], []⟩,
 ⟨[4], [], []⟩]
def s28 : SC := .seq (.ops [⟨some 4, .assign (.const (.int .i64 0)), 3, .always⟩] [0, 1])
 (.seq (.seq (.draw [⟨some 6, .move (.tmp 1), 3, .always⟩,
 ⟨some 7, .binOp .lss 3 (.tmp 6) (.const (.int .i64 1)) 3, 4, .always⟩,
 ⟨some 8, .move (.tmp 7), 4, .always⟩,
 ⟨some 9, .move (.tmp 0), 25, .tmp 8 false⟩,
 ⟨some 10, .nilCheck (.tmp 9), 0, .tmp 8 false⟩,
 ⟨some 11, .fieldAddr 71 (.tmp 10) 1, 0, .tmp 8 false⟩,
 ⟨some 12, .load 3 (.tmp 11), 3, .tmp 8 false⟩,
 ⟨some 13, .move (.tmp 0), 25, .tmp 8 false⟩,
 ⟨some 14, .nilCheck (.tmp 13), 0, .tmp 8 false⟩,
 ⟨some 15, .fieldAddr 71 (.tmp 14) 0, 0, .tmp 8 false⟩,
 ⟨some 16, .load 22 (.tmp 15), 22, .tmp 8 false⟩,
 ⟨some 17, .call { callee := .builtin .len, args := #[.tmp 16], argTypes := #[22] }, 3, .tmp 8 false⟩,
 ⟨some 18, .binOp .geq 3 (.tmp 12) (.tmp 17) 3, 4, .tmp 8 false⟩,
 ⟨some 19, .pick (.tmp 8) (.const (.bool true)) (.tmp 18), 4, .always⟩] [false, false, false, false, false, false, false, false, false, false, false, false, false, false] [0, 1, 19])
 (.cond (.tmp 19)
 (.seq (.ops [⟨some 4, .assign (.const (.int .i64 0)), 3, .always⟩] [4])
 (.ret))
 (.skip)))
 (.seq (.draw [⟨some 20, .move (.tmp 0), 25, .always⟩,
 ⟨some 21, .nilCheck (.tmp 20), 0, .always⟩,
 ⟨some 22, .fieldAddr 71 (.tmp 21) 0, 0, .always⟩,
 ⟨some 23, .load 22 (.tmp 22), 22, .always⟩,
 ⟨some 24, .move (.tmp 0), 25, .always⟩,
 ⟨some 25, .nilCheck (.tmp 24), 0, .always⟩,
 ⟨some 26, .fieldAddr 71 (.tmp 25) 1, 0, .always⟩,
 ⟨some 27, .load 3 (.tmp 26), 3, .always⟩,
 ⟨some 28, .indexAddr 22 (.tmp 23) (.tmp 27), 0, .always⟩,
 ⟨some 29, .load 3 (.tmp 28), 3, .always⟩,
 ⟨some 5, .assign (.tmp 29), 3, .always⟩] [false, false, false, false, false, false, false, false, false, false, false] [0, 1, 5])
 (.seq (.ops [⟨some 30, .move (.tmp 0), 25, .always⟩,
 ⟨some 31, .nilCheck (.tmp 30), 0, .always⟩,
 ⟨some 32, .fieldAddr 71 (.tmp 31) 1, 0, .always⟩,
 ⟨some 33, .load 3 (.tmp 32), 3, .always⟩,
 ⟨some 34, .binOp .add 3 (.tmp 33) (.const (.int .i64 1)) 3, 3, .always⟩,
 ⟨some 35, .nilCheck (.tmp 30), 0, .always⟩,
 ⟨some 36, .fieldAddr 71 (.tmp 35) 1, 0, .always⟩,
 ⟨none, .store 3 (.tmp 36) (.tmp 34), 0, .always⟩] [1, 5])
 (.seq (.ops [⟨some 37, .move (.tmp 5), 3, .always⟩,
 ⟨some 38, .move (.tmp 1), 3, .always⟩,
 ⟨some 39, .call { callee := .value (.func 77), args := #[.tmp 37, .tmp 38], argTypes := #[3, 3] }, 3, .always⟩,
 ⟨some 4, .assign (.tmp 39), 3, .always⟩] [4])
 (.ret)))))
theorem w28 {args : List PV} {σ σ' : List Frm} {r : Ret} (hr : ∀ p, r = .val p → erV p = p) (h : wpP cfg s28 (QEndP cfg [.tmp 4] σ' r) ⟨initEnv args, fun _ => [], σ, ⟨fun _ => false, 0⟩⟩) : CallsV cfg 28 args σ r σ' :=
 callsV_of_p follows cfgT a28 (fn := Tryz.f28) (c := Tryz.f28.body.getD .skip) (by kernel_rfl) (by kernel_rfl) (by kernel_rfl) (by kernel_rfl) (by kernel_rfl) (sc := s28) (by kernel_rfl) [.tmp 4] (by kernel_rfl) hr h
def a47 : List Ann := [⟨[0], [], []⟩,
 ⟨[0], [], []⟩]
def s47 : SC := .seq (.ops [⟨some 0, .alloc 30, 0, .always⟩] [0])
 (.seq (.ops [⟨some 1, .build 30 #[(0, .const (.int .i64 2))], 30, .always⟩,
 ⟨none, .store 30 (.tmp 0) (.tmp 1), 0, .always⟩] [0])
 (.ret))
theorem w47 {args : List PV} {σ σ' : List Frm} {r : Ret} (hr : ∀ p, r = .val p → erV p = p) (h : wpP cfg s47 (QEndP cfg [.cell 0 30] σ' r) ⟨initEnv args, fun _ => [], σ, ⟨fun _ => false, 0⟩⟩) : CallsV cfg 47 args σ r σ' :=
 callsV_of_p follows cfgT a47 (fn := Tryz.f47) (c := Tryz.f47.body.getD .skip) (by kernel_rfl) (by kernel_rfl) (by kernel_rfl) (by kernel_rfl) (by kernel_rfl) (sc := s47) (by kernel_rfl) [.cell 0 30] (by kernel_rfl) hr h
def a48 : List Ann := [⟨[0], [], []⟩,
 ⟨[0], [], []⟩]
def s48 : SC := .seq (.ops [⟨some 0, .alloc 30, 0, .always⟩] [0])
 (.seq (.ops [⟨some 1, .build 30 #[(0, .const (.int .i64 5))], 30, .always⟩,
 ⟨none, .store 30 (.tmp 0) (.tmp 1), 0, .always⟩] [0])
 (.ret))
theorem w48 {args : List PV} {σ σ' : List Frm} {r : Ret} (hr : ∀ p, r = .val p → erV p = p) (h : wpP cfg s48 (QEndP cfg [.cell 0 30] σ' r) ⟨initEnv args, fun _ => [], σ, ⟨fun _ => false, 0⟩⟩) : CallsV cfg 48 args σ r σ' :=
 callsV_of_p follows cfgT a48 (fn := Tryz.f48) (c := Tryz.f48.body.getD .skip) (by kernel_rfl) (by kernel_rfl) (by kernel_rfl) (by kernel_rfl) (by kernel_rfl) (sc := s48) (by kernel_rfl) [.cell 0 30] (by kernel_rfl) hr h
def a52 : List Ann := [⟨[1, 2], [], []⟩,
 ⟨[1, 2, 3], [], []⟩,
 ⟨[1, 2, 3, 7, 8, 9], [], []⟩,
 ⟨[1, 2, 3, 7, 8, 9, 10], [], []⟩,
 ⟨[1, 2, 3, 5, 7, 8, 9], [], []⟩,
 ⟨[1, 2, 3, 7, 8, 9], [], []⟩,
 ⟨[1, 2, 3, 7, 8, 9], [], []⟩,
 ⟨[2], [], []⟩]
def s52 : SC := .seq (.ops [⟨some 1, .box 30 (.tmp 0), 0, .always⟩,
 ⟨some 2, .alloc 30, 0, .always⟩] [1, 2])
 (.seq (.ops [⟨some 3, .assign (.const (.slice none 0 0)), 27, .always⟩] [1, 2, 3])
 (.seq (.seq (.ops [⟨some 6, .fieldAddr 30 (.tmp 1) 1, 0, .always⟩,
 ⟨some 7, .load 27 (.tmp 6), 27, .always⟩,
 ⟨some 8, .call { callee := .builtin .len, args := #[.tmp 7], argTypes := #[27] }, 3, .always⟩,
 ⟨some 9, .move (.const (.int .i64 0)), 3, .always⟩] [1, 2, 3, 7, 8, 9])
 (.block 0
 (.loop
 (.seq (.ops [⟨some 10, .binOp .lss 3 (.tmp 9) (.tmp 8) 3, 0, .always⟩] [1, 2, 3, 7, 8, 9, 10])
 (.seq (.cond (.tmp 10)
 (.skip)
 (.exit 0))
 (.seq (.block 1
 (.seq (.ops [⟨some 11, .indexAddr 27 (.tmp 7) (.tmp 9), 0, .always⟩,
 ⟨some 12, .load 30 (.tmp 11), 30, .always⟩,
 ⟨some 5, .alloc 30, 0, .always⟩,
 ⟨none, .store 30 (.tmp 5) (.tmp 12), 0, .always⟩] [1, 2, 3, 5, 7, 8, 9])
 (.ops [⟨some 13, .move (.tmp 3), 27, .always⟩,
 ⟨some 14, .load 30 (.tmp 5), 30, .always⟩,
 ⟨some 15, .call { callee := .value (.func 52), args := #[.tmp 14], argTypes := #[30] }, 30, .always⟩,
 ⟨some 16, .buildSlice 27 1 #[(0, .tmp 15)], 27, .always⟩,
 ⟨some 17, .call { callee := .builtin .append, args := #[.tmp 13, .tmp 16], argTypes := #[27, 27] }, 27, .always⟩,
 ⟨some 3, .assign (.tmp 17), 27, .always⟩] [1, 2, 3, 7, 8, 9])))
 (.ops [⟨some 18, .binOp .add 3 (.tmp 9) (.const (.int .i64 1)) 3, 3, .always⟩,
 ⟨some 9, .move (.tmp 18), 3, .always⟩] [1, 2, 3, 7, 8, 9])))))))
 (.seq (.ops [⟨some 19, .fieldAddr 30 (.tmp 1) 0, 0, .always⟩,
 ⟨some 20, .load 3 (.tmp 19), 3, .always⟩,
 ⟨some 21, .move (.tmp 3), 27, .always⟩,
 ⟨some 22, .build 30 #[(0, .tmp 20), (1, .tmp 21)], 30, .always⟩,
 ⟨none, .store 30 (.tmp 2) (.tmp 22), 0, .always⟩] [2])
 (.ret))))
theorem w52 {args : List PV} {σ σ' : List Frm} {r : Ret} (hr : ∀ p, r = .val p → erV p = p) (h : wpP cfg s52 (QEndP cfg [.cell 2 30] σ' r) ⟨initEnv args, fun _ => [], σ, ⟨fun _ => false, 0⟩⟩) : CallsV cfg 52 args σ r σ' :=
 callsV_of_p follows cfgT a52 (fn := Tryz.f52) (c := Tryz.f52.body.getD .skip) (by kernel_rfl) (by kernel_rfl) (by kernel_rfl) (by kernel_rfl) (by kernel_rfl) (sc := s52) (by kernel_rfl) [.cell 2 30] (by kernel_rfl) hr h
def a49 : List Ann := [⟨[2, 3, 4], [], []⟩,
 ⟨[4], [0, 1, 0, 7, 15, 31, 63], [false, true, true, false, false, false, false]⟩]
def s49 : SC := .seq (.ops [⟨some 2, .box 30 (.tmp 0), 0, .always⟩,
 ⟨some 3, .box 30 (.tmp 1), 0, .always⟩,
 ⟨some 4, .alloc 30, 0, .always⟩] [2, 3, 4])
 (.seq (.draw [⟨some 5, .load 30 (.tmp 2), 30, .always⟩,
 ⟨some 6, .call { callee := .value (.func 52), args := #[.tmp 5], argTypes := #[30] }, 30, .always⟩,
 ⟨some 7, .load 30 (.tmp 3), 30, .always⟩,
 ⟨some 8, .call { callee := .value (.func 52), args := #[.tmp 7], argTypes := #[30] }, 30, .always⟩,
 ⟨some 9, .buildSlice 27 2 #[(0, .tmp 6), (1, .tmp 8)], 27, .always⟩,
 ⟨some 10, .build 30 #[(0, .const (.int .i64 3)), (1, .tmp 9)], 30, .always⟩,
 ⟨none, .store 30 (.tmp 4) (.tmp 10), 0, .always⟩] [false, true, true, false, false, false, false] [4])
 (.ret))
theorem w49 {args : List PV} {σ σ' : List Frm} {r : Ret} (hr : ∀ p, r = .val p → erV p = p) (h : wpP cfg s49 (QEndP cfg [.cell 4 30] σ' r) ⟨initEnv args, fun _ => [], σ, ⟨fun _ => false, 0⟩⟩) : CallsV cfg 49 args σ r σ' :=
 callsV_of_p follows cfgT a49 (fn := Tryz.f49) (c := Tryz.f49.body.getD .skip) (by kernel_rfl) (by kernel_rfl) (by kernel_rfl) (by kernel_rfl) (by kernel_rfl) (sc := s49) (by kernel_rfl) [.cell 4 30] (by kernel_rfl) hr h
def a50 : List Ann := [⟨[2, 3, 4], [], []⟩,
 ⟨[4], [0, 1, 0, 7, 15, 31, 63], [false, true, true, false, false, false, false]⟩]
def s50 : SC := .seq (.ops [⟨some 2, .box 30 (.tmp 0), 0, .always⟩,
 ⟨some 3, .box 30 (.tmp 1), 0, .always⟩,
 ⟨some 4, .alloc 30, 0, .always⟩] [2, 3, 4])
 (.seq (.draw [⟨some 5, .load 30 (.tmp 2), 30, .always⟩,
 ⟨some 6, .call { callee := .value (.func 52), args := #[.tmp 5], argTypes := #[30] }, 30, .always⟩,
 ⟨some 7, .load 30 (.tmp 3), 30, .always⟩,
 ⟨some 8, .call { callee := .value (.func 52), args := #[.tmp 7], argTypes := #[30] }, 30, .always⟩,
 ⟨some 9, .buildSlice 27 2 #[(0, .tmp 6), (1, .tmp 8)], 27, .always⟩,
 ⟨some 10, .build 30 #[(0, .const (.int .i64 4)), (1, .tmp 9)], 30, .always⟩,
 ⟨none, .store 30 (.tmp 4) (.tmp 10), 0, .always⟩] [false, true, true, false, false, false, false] [4])
 (.ret))
theorem w50 {args : List PV} {σ σ' : List Frm} {r : Ret} (hr : ∀ p, r = .val p → erV p = p) (h : wpP cfg s50 (QEndP cfg [.cell 4 30] σ' r) ⟨initEnv args, fun _ => [], σ, ⟨fun _ => false, 0⟩⟩) : CallsV cfg 50 args σ r σ' :=
 callsV_of_p follows cfgT a50 (fn := Tryz.f50) (c := Tryz.f50.body.getD .skip) (by kernel_rfl) (by kernel_rfl) (by kernel_rfl) (by kernel_rfl) (by kernel_rfl) (sc := s50) (by kernel_rfl) [.cell 4 30] (by kernel_rfl) hr h
def a11 : List Ann := [⟨[0, 1, 4], [], []⟩,
 ⟨[0, 1, 4, 6], [], []⟩,
 ⟨[0, 1, 4, 6, 7], [], []⟩,
 ⟨[0, 1, 4, 6, 7], [], []⟩,
 ⟨[0, 1, 4, 6, 7], [], []⟩,
 ⟨[4], [], []⟩,
 ⟨[0, 1, 4, 6, 12], [], []⟩,
 ⟨[4], [], []⟩,
 ⟨[0, 1, 4, 6, 15], [], []⟩,
 ⟨[4], [], []⟩,
 ⟨[0, 1, 4, 6, 18], [], []⟩,
 ⟨[0, 1, 4, 21], [], []⟩,
 ⟨[4], [], []⟩,
 ⟨[0, 1, 4, 31], [], []⟩,
 ⟨[0, 1, 4, 34], [], []⟩,
 ⟨[4], [], []⟩,
 ⟨[4], [], []⟩]
def s11 : SC := .seq (.ops [⟨some 4, .alloc 30, 0, .always⟩] [0, 1, 4])
 (.seq (.seq (.ops [⟨some 5, .move (.tmp 0), 25, .always⟩,
 ⟨some 6, .call { callee := .value (.func 28), args := #[.tmp 5, .const (.int .i64 7)], argTypes := #[25, 3] }, 3, .always⟩] [0, 1, 4, 6])
 (.block 0
 (.seq (.seq (.ops [⟨some 8, .binOp .eql 3 (.tmp 6) (.const (.int .i64 0)) 3, 4, .always⟩,
 ⟨some 7, .assign (.tmp 8), 4, .always⟩] [0, 1, 4, 6, 7])
 (.cond (.tmp 7)
 (.skip)
 (.seq (.ops [⟨some 9, .binOp .eql 3 (.tmp 6) (.const (.int .i64 1)) 3, 4, .always⟩,
 ⟨some 7, .assign (.tmp 9), 4, .always⟩] [0, 1, 4, 6, 7])
 (.cond (.tmp 7)
 (.skip)
 (.ops [⟨some 10, .binOp .eql 3 (.tmp 6) (.const (.int .i64 2)) 3, 4, .always⟩,
 ⟨some 7, .assign (.tmp 10), 4, .always⟩] [0, 1, 4, 6, 7])))))
 (.cond (.tmp 7)
 (.seq (.ops [⟨some 11, .call { callee := .value (.func 27), args := #[], argTypes := #[] }, 30, .always⟩,
 ⟨none, .store 30 (.tmp 4) (.tmp 11), 0, .always⟩] [4])
 (.ret))
 (.seq (.ops [⟨some 13, .binOp .eql 3 (.tmp 6) (.const (.int .i64 3)) 3, 4, .always⟩,
 ⟨some 12, .assign (.tmp 13), 4, .always⟩] [0, 1, 4, 6, 12])
 (.cond (.tmp 12)
 (.seq (.ops [⟨some 14, .call { callee := .value (.func 47), args := #[], argTypes := #[] }, 30, .always⟩,
 ⟨none, .store 30 (.tmp 4) (.tmp 14), 0, .always⟩] [4])
 (.ret))
 (.seq (.ops [⟨some 16, .binOp .eql 3 (.tmp 6) (.const (.int .i64 4)) 3, 4, .always⟩,
 ⟨some 15, .assign (.tmp 16), 4, .always⟩] [0, 1, 4, 6, 15])
 (.cond (.tmp 15)
 (.seq (.ops [⟨some 17, .call { callee := .value (.func 48), args := #[], argTypes := #[] }, 30, .always⟩,
 ⟨none, .store 30 (.tmp 4) (.tmp 17), 0, .always⟩] [4])
 (.ret))
 (.seq (.ops [⟨some 19, .binOp .eql 3 (.tmp 6) (.const (.int .i64 5)) 3, 4, .always⟩,
 ⟨some 18, .assign (.tmp 19), 4, .always⟩] [0, 1, 4, 6, 18])
 (.cond (.tmp 18)
 (.seq (.ops [⟨some 20, .move (.tmp 1), 3, .always⟩,
 ⟨some 21, .binOp .gtr 3 (.tmp 20) (.const (.int .i64 0)) 3, 4, .always⟩] [0, 1, 4, 21])
 (.cond (.tmp 21)
 (.seq (.ops [⟨some 22, .move (.tmp 0), 25, .always⟩,
 ⟨some 23, .move (.tmp 1), 3, .always⟩,
 ⟨some 24, .binOp .sub 3 (.tmp 23) (.const (.int .i64 1)) 3, 3, .always⟩,
 ⟨some 25, .call { callee := .value (.func 11), args := #[.tmp 22, .tmp 24], argTypes := #[25, 3] }, 30, .always⟩,
 ⟨some 26, .move (.tmp 0), 25, .always⟩,
 ⟨some 27, .move (.tmp 1), 3, .always⟩,
 ⟨some 28, .binOp .sub 3 (.tmp 27) (.const (.int .i64 1)) 3, 3, .always⟩,
 ⟨some 29, .call { callee := .value (.func 11), args := #[.tmp 26, .tmp 28], argTypes := #[25, 3] }, 30, .always⟩,
 ⟨some 30, .call { callee := .value (.func 49), args := #[.tmp 25, .tmp 29], argTypes := #[30, 30] }, 30, .always⟩,
 ⟨none, .store 30 (.tmp 4) (.tmp 30), 0, .always⟩] [4])
 (.ret))
 (.skip)))
 (.seq (.ops [⟨some 32, .binOp .eql 3 (.tmp 6) (.const (.int .i64 6)) 3, 4, .always⟩,
 ⟨some 31, .assign (.tmp 32), 4, .always⟩] [0, 1, 4, 31])
 (.cond (.tmp 31)
 (.seq (.ops [⟨some 33, .move (.tmp 1), 3, .always⟩,
 ⟨some 34, .binOp .gtr 3 (.tmp 33) (.const (.int .i64 0)) 3, 4, .always⟩] [0, 1, 4, 34])
 (.cond (.tmp 34)
 (.seq (.ops [⟨some 35, .move (.tmp 0), 25, .always⟩,
 ⟨some 36, .move (.tmp 1), 3, .always⟩,
 ⟨some 37, .binOp .sub 3 (.tmp 36) (.const (.int .i64 1)) 3, 3, .always⟩,
 ⟨some 38, .call { callee := .value (.func 11), args := #[.tmp 35, .tmp 37], argTypes := #[25, 3] }, 30, .always⟩,
 ⟨some 39, .move (.tmp 0), 25, .always⟩,
 ⟨some 40, .move (.tmp 1), 3, .always⟩,
 ⟨some 41, .binOp .sub 3 (.tmp 40) (.const (.int .i64 1)) 3, 3, .always⟩,
 ⟨some 42, .call { callee := .value (.func 11), args := #[.tmp 39, .tmp 41], argTypes := #[25, 3] }, 30, .always⟩,
 ⟨some 43, .call { callee := .value (.func 50), args := #[.tmp 38, .tmp 42], argTypes := #[30, 30] }, 30, .always⟩,
 ⟨none, .store 30 (.tmp 4) (.tmp 43), 0, .always⟩] [4])
 (.ret))
 (.skip)))
 (.skip)))))))))))))
 (.seq (.ops [⟨some 44, .call { callee := .value (.func 27), args := #[], argTypes := #[] }, 30, .always⟩,
 ⟨none, .store 30 (.tmp 4) (.tmp 44), 0, .always⟩] [4])
 (.ret)))
theorem w11 {args : List PV} {σ σ' : List Frm} {r : Ret} (hr : ∀ p, r = .val p → erV p = p) (h : wpP cfg s11 (QEndP cfg [.cell 4 30] σ' r) ⟨initEnv args, fun _ => [], σ, ⟨fun _ => false, 0⟩⟩) : CallsV cfg 11 args σ r σ' :=
 callsV_of_p follows cfgT a11 (fn := Tryz.f11) (c := Tryz.f11.body.getD .skip) (by kernel_rfl) (by kernel_rfl) (by kernel_rfl) (by kernel_rfl) (by kernel_rfl) (sc := s11) (by kernel_rfl) [.cell 4 30] (by kernel_rfl) hr h
def a99 : List Ann := [⟨[1, 2], [], []⟩,
 ⟨[1, 2, 3], [], []⟩,
 ⟨[1, 2, 3, 7, 8, 9], [], []⟩,
 ⟨[1, 2, 3, 7, 8, 9, 10], [], []⟩,
 ⟨[1, 2, 3, 5, 7, 8, 9], [], []⟩,
 ⟨[1, 2, 3, 7, 8, 9], [], []⟩,
 ⟨[1, 2, 3, 7, 8, 9], [], []⟩,
 ⟨[2], [0, 1, 0, 4, 0, 16, 48, 0, 255, 511], [false, true, false, true, false, false, true, false, false, false]⟩]
def s99 : SC := .seq (.ops [⟨some 1, .box 51 (.tmp 0), 0, .always⟩,
 ⟨some 2, .alloc 51, 0, .always⟩] [1, 2])
 (.seq (.ops [⟨some 3, .assign (.const (.slice none 0 0)), 32, .always⟩] [1, 2, 3])
 (.seq (.seq (.ops [⟨some 6, .fieldAddr 51 (.tmp 1) 3, 0, .always⟩,
 ⟨some 7, .load 32 (.tmp 6), 32, .always⟩,
 ⟨some 8, .call { callee := .builtin .len, args := #[.tmp 7], argTypes := #[32] }, 3, .always⟩,
 ⟨some 9, .move (.const (.int .i64 0)), 3, .always⟩] [1, 2, 3, 7, 8, 9])
 (.block 0
 (.loop
 (.seq (.ops [⟨some 10, .binOp .lss 3 (.tmp 9) (.tmp 8) 3, 0, .always⟩] [1, 2, 3, 7, 8, 9, 10])
 (.seq (.cond (.tmp 10)
 (.skip)
 (.exit 0))
 (.seq (.block 1
 (.seq (.ops [⟨some 11, .indexAddr 32 (.tmp 7) (.tmp 9), 0, .always⟩,
 ⟨some 12, .load 51 (.tmp 11), 51, .always⟩,
 ⟨some 5, .alloc 51, 0, .always⟩,
 ⟨none, .store 51 (.tmp 5) (.tmp 12), 0, .always⟩] [1, 2, 3, 5, 7, 8, 9])
 (.ops [⟨some 13, .move (.tmp 3), 32, .always⟩,
 ⟨some 14, .load 51 (.tmp 5), 51, .always⟩,
 ⟨some 15, .call { callee := .value (.func 99), args := #[.tmp 14], argTypes := #[51] }, 51, .always⟩,
 ⟨some 16, .buildSlice 32 1 #[(0, .tmp 15)], 32, .always⟩,
 ⟨some 17, .call { callee := .builtin .append, args := #[.tmp 13, .tmp 16], argTypes := #[32, 32] }, 32, .always⟩,
 ⟨some 3, .assign (.tmp 17), 32, .always⟩] [1, 2, 3, 7, 8, 9])))
 (.ops [⟨some 18, .binOp .add 3 (.tmp 9) (.const (.int .i64 1)) 3, 3, .always⟩,
 ⟨some 9, .move (.tmp 18), 3, .always⟩] [1, 2, 3, 7, 8, 9])))))))
 (.seq (.draw [⟨some 19, .fieldAddr 51 (.tmp 1) 0, 0, .always⟩,
 ⟨some 20, .load 3 (.tmp 19), 3, .always⟩,
 ⟨some 21, .fieldAddr 51 (.tmp 1) 1, 0, .always⟩,
 ⟨some 22, .load 3 (.tmp 21), 3, .always⟩,
 ⟨some 23, .fieldAddr 51 (.tmp 1) 2, 0, .always⟩,
 ⟨some 24, .load 30 (.tmp 23), 30, .always⟩,
 ⟨some 25, .call { callee := .value (.func 52), args := #[.tmp 24], argTypes := #[30] }, 30, .always⟩,
 ⟨some 26, .move (.tmp 3), 32, .always⟩,
 ⟨some 27, .build 51 #[(0, .tmp 20), (1, .tmp 22), (2, .tmp 25), (3, .tmp 26)], 51, .always⟩,
 ⟨none, .store 51 (.tmp 2) (.tmp 27), 0, .always⟩] [false, true, false, true, false, false, true, false, false, false] [2])
 (.ret))))
theorem w99 {args : List PV} {σ σ' : List Frm} {r : Ret} (hr : ∀ p, r = .val p → erV p = p) (h : wpP cfg s99 (QEndP cfg [.cell 2 51] σ' r) ⟨initEnv args, fun _ => [], σ, ⟨fun _ => false, 0⟩⟩) : CallsV cfg 99 args σ r σ' :=
 callsV_of_p follows cfgT a99 (fn := Tryz.f99) (c := Tryz.f99.body.getD .skip) (by kernel_rfl) (by kernel_rfl) (by kernel_rfl) (by kernel_rfl) (by kernel_rfl) (sc := s99) (by kernel_rfl) [.cell 2 51] (by kernel_rfl) hr h
def a53 : List Ann := [⟨[1, 2], [], []⟩,
 ⟨[1, 2, 3], [0, 1, 0, 4, 12, 31, 0, 127], [false, true, false, false, true, false, true, false]⟩,
 ⟨[1, 2, 3, 15, 16, 17], [], []⟩,
 ⟨[1, 2, 3, 15, 16, 17, 18], [], []⟩,
 ⟨[1, 2, 3, 5, 15, 16, 17], [], []⟩,
 ⟨[1, 2, 3, 15, 16, 17], [0, 1, 0, 4, 12, 31, 63, 127], [false, true, false, true, false, false, false, false]⟩,
 ⟨[1, 2, 3, 15, 16, 17], [], []⟩,
 ⟨[2, 3, 30, 31, 32], [], []⟩,
 ⟨[2, 3, 30, 31, 32, 33], [], []⟩,
 ⟨[2, 3, 7, 30, 31, 32], [], []⟩,
 ⟨[2, 3, 30, 31, 32], [0, 1, 0, 4, 12, 31, 63, 127], [false, true, false, true, false, false, false, false]⟩,
 ⟨[2, 3, 30, 31, 32], [], []⟩,
 ⟨[2], [], []⟩]
def s53 : SC := .seq (.ops [⟨some 1, .box 35 (.tmp 0), 0, .always⟩,
 ⟨some 2, .alloc 35, 0, .always⟩] [1, 2])
 (.seq (.draw [⟨some 8, .fieldAddr 35 (.tmp 1) 0, 0, .always⟩,
 ⟨some 9, .load 3 (.tmp 8), 3, .always⟩,
 ⟨some 10, .fieldAddr 35 (.tmp 1) 1, 0, .always⟩,
 ⟨some 11, .load 30 (.tmp 10), 30, .always⟩,
 ⟨some 12, .call { callee := .value (.func 52), args := #[.tmp 11], argTypes := #[30] }, 30, .always⟩,
 ⟨some 13, .build 35 #[(0, .tmp 9), (1, .tmp 12)], 35, .always⟩,
 ⟨some 3, .alloc 35, 0, .always⟩,
 ⟨none, .store 35 (.tmp 3) (.tmp 13), 0, .always⟩] [false, true, false, false, true, false, true, false] [1, 2, 3])
 (.seq (.seq (.ops [⟨some 14, .fieldAddr 35 (.tmp 1) 2, 0, .always⟩,
 ⟨some 15, .load 32 (.tmp 14), 32, .always⟩,
 ⟨some 16, .call { callee := .builtin .len, args := #[.tmp 15], argTypes := #[32] }, 3, .always⟩,
 ⟨some 17, .move (.const (.int .i64 0)), 3, .always⟩] [1, 2, 3, 15, 16, 17])
 (.block 0
 (.loop
 (.seq (.ops [⟨some 18, .binOp .lss 3 (.tmp 17) (.tmp 16) 3, 0, .always⟩] [1, 2, 3, 15, 16, 17, 18])
 (.seq (.cond (.tmp 18)
 (.skip)
 (.exit 0))
 (.seq (.block 1
 (.seq (.ops [⟨some 19, .indexAddr 32 (.tmp 15) (.tmp 17), 0, .always⟩,
 ⟨some 20, .load 51 (.tmp 19), 51, .always⟩,
 ⟨some 5, .alloc 51, 0, .always⟩,
 ⟨none, .store 51 (.tmp 5) (.tmp 20), 0, .always⟩] [1, 2, 3, 5, 15, 16, 17])
 (.draw [⟨some 21, .fieldAddr 35 (.tmp 3) 2, 0, .always⟩,
 ⟨some 22, .load 32 (.tmp 21), 32, .always⟩,
 ⟨some 23, .load 51 (.tmp 5), 51, .always⟩,
 ⟨some 24, .call { callee := .value (.func 99), args := #[.tmp 23], argTypes := #[51] }, 51, .always⟩,
 ⟨some 25, .buildSlice 32 1 #[(0, .tmp 24)], 32, .always⟩,
 ⟨some 26, .call { callee := .builtin .append, args := #[.tmp 22, .tmp 25], argTypes := #[32, 32] }, 32, .always⟩,
 ⟨some 27, .fieldAddr 35 (.tmp 3) 2, 0, .always⟩,
 ⟨none, .store 32 (.tmp 27) (.tmp 26), 0, .always⟩] [false, true, false, true, false, false, false, false] [1, 2, 3, 15, 16, 17])))
 (.ops [⟨some 28, .binOp .add 3 (.tmp 17) (.const (.int .i64 1)) 3, 3, .always⟩,
 ⟨some 17, .move (.tmp 28), 3, .always⟩] [1, 2, 3, 15, 16, 17])))))))
 (.seq (.seq (.ops [⟨some 29, .fieldAddr 35 (.tmp 1) 3, 0, .always⟩,
 ⟨some 30, .load 33 (.tmp 29), 33, .always⟩,
 ⟨some 31, .call { callee := .builtin .len, args := #[.tmp 30], argTypes := #[33] }, 3, .always⟩,
 ⟨some 32, .move (.const (.int .i64 0)), 3, .always⟩] [2, 3, 30, 31, 32])
 (.block 2
 (.loop
 (.seq (.ops [⟨some 33, .binOp .lss 3 (.tmp 32) (.tmp 31) 3, 0, .always⟩] [2, 3, 30, 31, 32, 33])
 (.seq (.cond (.tmp 33)
 (.skip)
 (.exit 2))
 (.seq (.block 3
 (.seq (.ops [⟨some 34, .indexAddr 33 (.tmp 30) (.tmp 32), 0, .always⟩,
 ⟨some 35, .load 35 (.tmp 34), 35, .always⟩,
 ⟨some 7, .alloc 35, 0, .always⟩,
 ⟨none, .store 35 (.tmp 7) (.tmp 35), 0, .always⟩] [2, 3, 7, 30, 31, 32])
 (.draw [⟨some 36, .fieldAddr 35 (.tmp 3) 3, 0, .always⟩,
 ⟨some 37, .load 33 (.tmp 36), 33, .always⟩,
 ⟨some 38, .load 35 (.tmp 7), 35, .always⟩,
 ⟨some 39, .call { callee := .value (.func 53), args := #[.tmp 38], argTypes := #[35] }, 35, .always⟩,
 ⟨some 40, .buildSlice 33 1 #[(0, .tmp 39)], 33, .always⟩,
 ⟨some 41, .call { callee := .builtin .append, args := #[.tmp 37, .tmp 40], argTypes := #[33, 33] }, 33, .always⟩,
 ⟨some 42, .fieldAddr 35 (.tmp 3) 3, 0, .always⟩,
 ⟨none, .store 33 (.tmp 42) (.tmp 41), 0, .always⟩] [false, true, false, true, false, false, false, false] [2, 3, 30, 31, 32])))
 (.ops [⟨some 43, .binOp .add 3 (.tmp 32) (.const (.int .i64 1)) 3, 3, .always⟩,
 ⟨some 32, .move (.tmp 43), 3, .always⟩] [2, 3, 30, 31, 32])))))))
 (.seq (.ops [⟨some 44, .load 35 (.tmp 3), 35, .always⟩,
 ⟨none, .store 35 (.tmp 2) (.tmp 44), 0, .always⟩] [2])
 (.ret)))))
theorem w53 {args : List PV} {σ σ' : List Frm} {r : Ret} (hr : ∀ p, r = .val p → erV p = p) (h : wpP cfg s53 (QEndP cfg [.cell 2 35] σ' r) ⟨initEnv args, fun _ => [], σ, ⟨fun _ => false, 0⟩⟩) : CallsV cfg 53 args σ r σ' :=
 callsV_of_p follows cfgT a53 (fn := Tryz.f53) (c := Tryz.f53.body.getD .skip) (by kernel_rfl) (by kernel_rfl) (by kernel_rfl) (by kernel_rfl) (by kernel_rfl) (sc := s53) (by kernel_rfl) [.cell 2 35] (by kernel_rfl) hr h
def a13 : List Ann := [⟨[0, 4, 5, 6], [], []⟩,
 ⟨[6], [0, 0, 2, 0, 14, 30, 63, 127], [false, false, true, true, false, false, false, false]⟩]
def s13 : SC := .seq (.ops [⟨some 4, .box 30 (.tmp 1), 0, .always⟩,
 ⟨some 5, .box 35 (.tmp 2), 0, .always⟩,
 ⟨some 6, .alloc 35, 0, .always⟩] [0, 4, 5, 6])
 (.seq (.draw [⟨some 7, .move (.tmp 0), 3, .always⟩,
 ⟨some 8, .load 30 (.tmp 4), 30, .always⟩,
 ⟨some 9, .call { callee := .value (.func 52), args := #[.tmp 8], argTypes := #[30] }, 30, .always⟩,
 ⟨some 10, .load 35 (.tmp 5), 35, .always⟩,
 ⟨some 11, .call { callee := .value (.func 53), args := #[.tmp 10], argTypes := #[35] }, 35, .always⟩,
 ⟨some 12, .buildSlice 33 1 #[(0, .tmp 11)], 33, .always⟩,
 ⟨some 13, .build 35 #[(0, .tmp 7), (1, .tmp 9), (3, .tmp 12)], 35, .always⟩,
 ⟨none, .store 35 (.tmp 6) (.tmp 13), 0, .always⟩] [false, false, true, true, false, false, false, false] [6])
 (.ret))
theorem w13 {args : List PV} {σ σ' : List Frm} {r : Ret} (hr : ∀ p, r = .val p → erV p = p) (h : wpP cfg s13 (QEndP cfg [.cell 6 35] σ' r) ⟨initEnv args, fun _ => [], σ, ⟨fun _ => false, 0⟩⟩) : CallsV cfg 13 args σ r σ' :=
 callsV_of_p follows cfgT a13 (fn := Tryz.f13) (c := Tryz.f13.body.getD .skip) (by kernel_rfl) (by kernel_rfl) (by kernel_rfl) (by kernel_rfl) (by kernel_rfl) (sc := s13) (by kernel_rfl) [.cell 6 35] (by kernel_rfl) hr h
def a19 : List Ann := [⟨[0, 4, 5, 6], [], []⟩,
 ⟨[6], [0, 0, 2, 0, 14, 30, 63, 127], [false, false, true, true, false, false, false, false]⟩]
def s19 : SC := .seq (.ops [⟨some 4, .box 35 (.tmp 1), 0, .always⟩,
 ⟨some 5, .box 35 (.tmp 2), 0, .always⟩,
 ⟨some 6, .alloc 35, 0, .always⟩] [0, 4, 5, 6])
 (.seq (.draw [⟨some 7, .move (.tmp 0), 3, .always⟩,
 ⟨some 8, .load 35 (.tmp 4), 35, .always⟩,
 ⟨some 9, .call { callee := .value (.func 53), args := #[.tmp 8], argTypes := #[35] }, 35, .always⟩,
 ⟨some 10, .load 35 (.tmp 5), 35, .always⟩,
 ⟨some 11, .call { callee := .value (.func 53), args := #[.tmp 10], argTypes := #[35] }, 35, .always⟩,
 ⟨some 12, .buildSlice 33 2 #[(0, .tmp 9), (1, .tmp 11)], 33, .always⟩,
 ⟨some 13, .build 35 #[(0, .tmp 7), (3, .tmp 12)], 35, .always⟩,
 ⟨none, .store 35 (.tmp 6) (.tmp 13), 0, .always⟩] [false, false, true, true, false, false, false, false] [6])
 (.ret))
theorem w19 {args : List PV} {σ σ' : List Frm} {r : Ret} (hr : ∀ p, r = .val p → erV p = p) (h : wpP cfg s19 (QEndP cfg [.cell 6 35] σ' r) ⟨initEnv args, fun _ => [], σ, ⟨fun _ => false, 0⟩⟩) : CallsV cfg 19 args σ r σ' :=
 callsV_of_p follows cfgT a19 (fn := Tryz.f19) (c := Tryz.f19.body.getD .skip) (by kernel_rfl) (by kernel_rfl) (by kernel_rfl) (by kernel_rfl) (by kernel_rfl) (sc := s19) (by kernel_rfl) [.cell 6 35] (by kernel_rfl) hr h
def a16 : List Ann := [⟨[2, 3], [], []⟩,
 ⟨[2, 3, 19], [], []⟩,
 ⟨[4], [], []⟩,
 ⟨[2, 3, 22, 23], [], []⟩,
 ⟨[2, 3, 22, 23, 24], [], []⟩,
 ⟨[2, 3, 5, 22, 23], [], []⟩,
 ⟨[2, 3, 22, 23, 37], [0, 1, 0, 7, 15, 0, 32, 0, 224, 480, 1023, 2047], [false, false, false, false, false, false, false, false, false, false, false, false]⟩,
 ⟨[4], [], []⟩,
 ⟨[2, 3, 22, 23], [], []⟩,
 ⟨[4], [], []⟩]
def s16 : SC := .seq (.ops [⟨some 2, .box 30 (.tmp 0), 0, .always⟩,
 ⟨some 3, .box 30 (.tmp 1), 0, .always⟩,
 ⟨some 4, .assign (.const (.bool false)), 4, .always⟩] [2, 3])
 (.seq (.seq (.ops [⟨some 6, .fieldAddr 30 (.tmp 2) 0, 0, .always⟩,
 ⟨some 7, .load 3 (.tmp 6), 3, .always⟩,
 ⟨some 8, .fieldAddr 30 (.tmp 3) 0, 0, .always⟩,
 ⟨some 9, .load 3 (.tmp 8), 3, .always⟩,
 ⟨some 10, .binOp .neq 3 (.tmp 7) (.tmp 9) 3, 4, .always⟩,
 ⟨some 11, .move (.tmp 10), 4, .always⟩,
 ⟨some 12, .fieldAddr 30 (.tmp 2) 1, 0, .tmp 11 false⟩,
 ⟨some 13, .load 27 (.tmp 12), 27, .tmp 11 false⟩,
 ⟨some 14, .call { callee := .builtin .len, args := #[.tmp 13], argTypes := #[27] }, 3, .tmp 11 false⟩,
 ⟨some 15, .fieldAddr 30 (.tmp 3) 1, 0, .tmp 11 false⟩,
 ⟨some 16, .load 27 (.tmp 15), 27, .tmp 11 false⟩,
 ⟨some 17, .call { callee := .builtin .len, args := #[.tmp 16], argTypes := #[27] }, 3, .tmp 11 false⟩,
 ⟨some 18, .binOp .neq 3 (.tmp 14) (.tmp 17) 3, 4, .tmp 11 false⟩,
 ⟨some 19, .pick (.tmp 11) (.const (.bool true)) (.tmp 18), 4, .always⟩] [2, 3, 19])
 (.cond (.tmp 19)
 (.seq (.ops [⟨some 4, .assign (.const (.bool false)), 4, .always⟩] [4])
 (.ret))
 (.skip)))
 (.seq (.seq (.ops [⟨some 20, .fieldAddr 30 (.tmp 2) 1, 0, .always⟩,
 ⟨some 21, .load 27 (.tmp 20), 27, .always⟩,
 ⟨some 22, .call { callee := .builtin .len, args := #[.tmp 21], argTypes := #[27] }, 3, .always⟩,
 ⟨some 23, .move (.const (.int .i64 0)), 3, .always⟩] [2, 3, 22, 23])
 (.block 0
 (.loop
 (.seq (.ops [⟨some 24, .binOp .lss 3 (.tmp 23) (.tmp 22) 3, 0, .always⟩] [2, 3, 22, 23, 24])
 (.seq (.cond (.tmp 24)
 (.skip)
 (.exit 0))
 (.seq (.block 1
 (.seq (.ops [⟨some 25, .move (.tmp 23), 3, .always⟩,
 ⟨some 5, .assign (.tmp 25), 3, .always⟩] [2, 3, 5, 22, 23])
 (.seq (.draw [⟨some 26, .fieldAddr 30 (.tmp 2) 1, 0, .always⟩,
 ⟨some 27, .load 27 (.tmp 26), 27, .always⟩,
 ⟨some 28, .move (.tmp 5), 3, .always⟩,
 ⟨some 29, .indexAddr 27 (.tmp 27) (.tmp 28), 0, .always⟩,
 ⟨some 30, .load 30 (.tmp 29), 30, .always⟩,
 ⟨some 31, .fieldAddr 30 (.tmp 3) 1, 0, .always⟩,
 ⟨some 32, .load 27 (.tmp 31), 27, .always⟩,
 ⟨some 33, .move (.tmp 5), 3, .always⟩,
 ⟨some 34, .indexAddr 27 (.tmp 32) (.tmp 33), 0, .always⟩,
 ⟨some 35, .load 30 (.tmp 34), 30, .always⟩,
 ⟨some 36, .call { callee := .value (.func 16), args := #[.tmp 30, .tmp 35], argTypes := #[30, 30] }, 4, .always⟩,
 ⟨some 37, .unOp .not 4 (.tmp 36), 4, .always⟩] [false, false, false, false, false, false, false, false, false, false, false, false] [2, 3, 22, 23, 37])
 (.cond (.tmp 37)
 (.seq (.ops [⟨some 4, .assign (.const (.bool false)), 4, .always⟩] [4])
 (.ret))
 (.skip)))))
 (.ops [⟨some 38, .binOp .add 3 (.tmp 23) (.const (.int .i64 1)) 3, 3, .always⟩,
 ⟨some 23, .move (.tmp 38), 3, .always⟩] [2, 3, 22, 23])))))))
 (.seq (.ops [⟨some 4, .assign (.const (.bool true)), 4, .always⟩] [4])
 (.ret))))
theorem w16 {args : List PV} {σ σ' : List Frm} {r : Ret} (hr : ∀ p, r = .val p → erV p = p) (h : wpP cfg s16 (QEndP cfg [.tmp 4] σ' r) ⟨initEnv args, fun _ => [], σ, ⟨fun _ => false, 0⟩⟩) : CallsV cfg 16 args σ r σ' :=
 callsV_of_p follows cfgT a16 (fn := Tryz.f16) (c := Tryz.f16.body.getD .skip) (by kernel_rfl) (by kernel_rfl) (by kernel_rfl) (by kernel_rfl) (by kernel_rfl) (sc := s16) (by kernel_rfl) [.tmp 4] (by kernel_rfl) hr h
def a46 : List Ann := [⟨[0, 2], [], []⟩,
 ⟨[2], [], []⟩]
def s46 : SC := .seq (.ops [⟨some 2, .alloc 51, 0, .always⟩] [0, 2])
 (.seq (.ops [⟨some 3, .move (.tmp 0), 3, .always⟩,
 ⟨some 4, .build 51 #[(0, .const (.int .i64 1)), (1, .tmp 3)], 51, .always⟩,
 ⟨none, .store 51 (.tmp 2) (.tmp 4), 0, .always⟩] [2])
 (.ret))
theorem w46 {args : List PV} {σ σ' : List Frm} {r : Ret} (hr : ∀ p, r = .val p → erV p = p) (h : wpP cfg s46 (QEndP cfg [.cell 2 51] σ' r) ⟨initEnv args, fun _ => [], σ, ⟨fun _ => false, 0⟩⟩) : CallsV cfg 46 args σ r σ' :=
 callsV_of_p follows cfgT a46 (fn := Tryz.f46) (c := Tryz.f46.body.getD .skip) (by kernel_rfl) (by kernel_rfl) (by kernel_rfl) (by kernel_rfl) (by kernel_rfl) (sc := s46) (by kernel_rfl) [.cell 2 51] (by kernel_rfl) hr h
def a51 : List Ann := [⟨[0, 1], [], []⟩,
 ⟨[4], [], []⟩]
def s51 : SC := .seq (.ops [⟨some 4, .assign (.const (.slice none 0 0)), 27, .always⟩] [0, 1])
 (.seq (.ops [⟨some 5, .move (.tmp 0), 27, .always⟩,
 ⟨some 6, .call { callee := .builtin .append, args := #[.const (.slice none 0 0), .tmp 5], argTypes := #[27, 27] }, 27, .always⟩,
 ⟨some 7, .move (.tmp 1), 27, .always⟩,
 ⟨some 8, .call { callee := .builtin .append, args := #[.tmp 6, .tmp 7], argTypes := #[27, 27] }, 27, .always⟩,
 ⟨some 4, .assign (.tmp 8), 27, .always⟩] [4])
 (.ret))
theorem w51 {args : List PV} {σ σ' : List Frm} {r : Ret} (hr : ∀ p, r = .val p → erV p = p) (h : wpP cfg s51 (QEndP cfg [.tmp 4] σ' r) ⟨initEnv args, fun _ => [], σ, ⟨fun _ => false, 0⟩⟩) : CallsV cfg 51 args σ r σ' :=
 callsV_of_p follows cfgT a51 (fn := Tryz.f51) (c := Tryz.f51.body.getD .skip) (by kernel_rfl) (by kernel_rfl) (by kernel_rfl) (by kernel_rfl) (by kernel_rfl) (sc := s51) (by kernel_rfl) [.tmp 4] (by kernel_rfl) hr h
def a69 : List Ann := [⟨[0, 3], [], []⟩,
 ⟨[0, 3, 5], [], []⟩,
 ⟨[0, 3, 5, 8, 9], [], []⟩,
 ⟨[0, 3, 5, 8, 9, 10], [], []⟩,
 ⟨[0, 3, 5, 6, 8, 9], [], []⟩,
 ⟨[0, 3, 5, 6, 8, 9, 21], [0, 0, 2, 6, 0, 30, 63, 127, 0, 511], [false, false, false, false, false, false, false, false, false, false]⟩,
 ⟨[0, 3, 5, 8, 9], [], []⟩,
 ⟨[0, 3, 5, 8, 9], [], []⟩,
 ⟨[4], [], []⟩]
def s69 : SC := .seq (.ops [⟨some 3, .box 30 (.tmp 1), 0, .always⟩,
 ⟨some 4, .assign (.const (.slice none 0 0)), 22, .always⟩] [0, 3])
 (.seq (.ops [⟨some 5, .assign (.const (.slice none 0 0)), 22, .always⟩] [0, 3, 5])
 (.seq (.seq (.ops [⟨some 7, .move (.tmp 0), 27, .always⟩,
 ⟨some 8, .call { callee := .builtin .len, args := #[.tmp 7], argTypes := #[27] }, 3, .always⟩,
 ⟨some 9, .move (.const (.int .i64 0)), 3, .always⟩] [0, 3, 5, 8, 9])
 (.block 0
 (.loop
 (.seq (.ops [⟨some 10, .binOp .lss 3 (.tmp 9) (.tmp 8) 3, 0, .always⟩] [0, 3, 5, 8, 9, 10])
 (.seq (.cond (.tmp 10)
 (.skip)
 (.exit 0))
 (.seq (.block 1
 (.seq (.ops [⟨some 11, .move (.tmp 9), 3, .always⟩,
 ⟨some 6, .assign (.tmp 11), 3, .always⟩] [0, 3, 5, 6, 8, 9])
 (.seq (.draw [⟨some 12, .move (.tmp 0), 27, .always⟩,
 ⟨some 13, .move (.tmp 0), 27, .always⟩,
 ⟨some 14, .call { callee := .builtin .len, args := #[.tmp 13], argTypes := #[27] }, 3, .always⟩,
 ⟨some 15, .binOp .sub 3 (.tmp 14) (.const (.int .i64 1)) 3, 3, .always⟩,
 ⟨some 16, .move (.tmp 6), 3, .always⟩,
 ⟨some 17, .binOp .sub 3 (.tmp 15) (.tmp 16) 3, 3, .always⟩,
 ⟨some 18, .indexAddr 27 (.tmp 12) (.tmp 17), 0, .always⟩,
 ⟨some 19, .load 30 (.tmp 18), 30, .always⟩,
 ⟨some 20, .load 30 (.tmp 3), 30, .always⟩,
 ⟨some 21, .call { callee := .value (.func 16), args := #[.tmp 19, .tmp 20], argTypes := #[30, 30] }, 4, .always⟩] [false, false, false, false, false, false, false, false, false, false] [0, 3, 5, 6, 8, 9, 21])
 (.cond (.tmp 21)
 (.ops [⟨some 22, .move (.tmp 5), 22, .always⟩,
 ⟨some 23, .move (.tmp 6), 3, .always⟩,
 ⟨some 24, .buildSlice 22 1 #[(0, .tmp 23)], 22, .always⟩,
 ⟨some 25, .call { callee := .builtin .append, args := #[.tmp 22, .tmp 24], argTypes := #[22, 22] }, 22, .always⟩,
 ⟨some 5, .assign (.tmp 25), 22, .always⟩] [0, 3, 5, 8, 9])
 (.skip)))))
 (.ops [⟨some 26, .binOp .add 3 (.tmp 9) (.const (.int .i64 1)) 3, 3, .always⟩,
 ⟨some 9, .move (.tmp 26), 3, .always⟩] [0, 3, 5, 8, 9])))))))
 (.seq (.ops [⟨some 27, .move (.tmp 5), 22, .always⟩,
 ⟨some 4, .assign (.tmp 27), 22, .always⟩] [4])
 (.ret))))
theorem w69 {args : List PV} {σ σ' : List Frm} {r : Ret} (hr : ∀ p, r = .val p → erV p = p) (h : wpP cfg s69 (QEndP cfg [.tmp 4] σ' r) ⟨initEnv args, fun _ => [], σ, ⟨fun _ => false, 0⟩⟩) : CallsV cfg 69 args σ r σ' :=
 callsV_of_p follows cfgT a69 (fn := Tryz.f69) (c := Tryz.f69.body.getD .skip) (by kernel_rfl) (by kernel_rfl) (by kernel_rfl) (by kernel_rfl) (by kernel_rfl) (sc := s69) (by kernel_rfl) [.tmp 4] (by kernel_rfl) hr h
def a70 : List Ann := [⟨[0, 1, 4], [], []⟩,
 ⟨[0, 1, 4, 5], [], []⟩,
 ⟨[0, 4, 5, 8, 9, 10], [], []⟩,
 ⟨[0, 4, 5, 8, 9, 10, 11], [], []⟩,
 ⟨[0, 4, 5, 7, 8, 9, 10], [], []⟩,
 ⟨[0, 4, 5, 8, 9, 10], [], []⟩,
 ⟨[0, 4, 5, 8, 9, 10], [], []⟩,
 ⟨[4], [], []⟩]
def s70 : SC := .seq (.ops [⟨some 4, .alloc 51, 0, .always⟩] [0, 1, 4])
 (.seq (.ops [⟨some 5, .assign (.const (.slice none 0 0)), 32, .always⟩] [0, 1, 4, 5])
 (.seq (.seq (.ops [⟨some 8, .move (.tmp 1), 32, .always⟩,
 ⟨some 9, .call { callee := .builtin .len, args := #[.tmp 8], argTypes := #[32] }, 3, .always⟩,
 ⟨some 10, .move (.const (.int .i64 0)), 3, .always⟩] [0, 4, 5, 8, 9, 10])
 (.block 0
 (.loop
 (.seq (.ops [⟨some 11, .binOp .lss 3 (.tmp 10) (.tmp 9) 3, 0, .always⟩] [0, 4, 5, 8, 9, 10, 11])
 (.seq (.cond (.tmp 11)
 (.skip)
 (.exit 0))
 (.seq (.block 1
 (.seq (.ops [⟨some 12, .indexAddr 32 (.tmp 8) (.tmp 10), 0, .always⟩,
 ⟨some 13, .load 51 (.tmp 12), 51, .always⟩,
 ⟨some 7, .alloc 51, 0, .always⟩,
 ⟨none, .store 51 (.tmp 7) (.tmp 13), 0, .always⟩] [0, 4, 5, 7, 8, 9, 10])
 (.ops [⟨some 14, .move (.tmp 5), 32, .always⟩,
 ⟨some 15, .load 51 (.tmp 7), 51, .always⟩,
 ⟨some 16, .call { callee := .value (.func 99), args := #[.tmp 15], argTypes := #[51] }, 51, .always⟩,
 ⟨some 17, .buildSlice 32 1 #[(0, .tmp 16)], 32, .always⟩,
 ⟨some 18, .call { callee := .builtin .append, args := #[.tmp 14, .tmp 17], argTypes := #[32, 32] }, 32, .always⟩,
 ⟨some 5, .assign (.tmp 18), 32, .always⟩] [0, 4, 5, 8, 9, 10])))
 (.ops [⟨some 19, .binOp .add 3 (.tmp 10) (.const (.int .i64 1)) 3, 3, .always⟩,
 ⟨some 10, .move (.tmp 19), 3, .always⟩] [0, 4, 5, 8, 9, 10])))))))
 (.seq (.ops [⟨some 20, .move (.tmp 0), 3, .always⟩,
 ⟨some 21, .move (.tmp 5), 32, .always⟩,
 ⟨some 22, .build 51 #[(0, .tmp 20), (3, .tmp 21)], 51, .always⟩,
 ⟨none, .store 51 (.tmp 4) (.tmp 22), 0, .always⟩] [4])
 (.ret))))
theorem w70 {args : List PV} {σ σ' : List Frm} {r : Ret} (hr : ∀ p, r = .val p → erV p = p) (h : wpP cfg s70 (QEndP cfg [.cell 4 51] σ' r) ⟨initEnv args, fun _ => [], σ, ⟨fun _ => false, 0⟩⟩) : CallsV cfg 70 args σ r σ' :=
 callsV_of_p follows cfgT a70 (fn := Tryz.f70) (c := Tryz.f70.body.getD .skip) (by kernel_rfl) (by kernel_rfl) (by kernel_rfl) (by kernel_rfl) (by kernel_rfl) (sc := s70) (by kernel_rfl) [.cell 4 51] (by kernel_rfl) hr h
def a71 : List Ann := [⟨[0, 2, 4, 6], [], []⟩,
 ⟨[4, 6, 7], [], []⟩,
 ⟨[6, 7], [], []⟩,
 ⟨[6], [], []⟩]
def s71 : SC := .seq (.ops [⟨some 4, .box 30 (.tmp 1), 0, .always⟩,
 ⟨some 6, .alloc 51, 0, .always⟩] [0, 2, 4, 6])
 (.seq (.ops [⟨some 8, .move (.tmp 0), 3, .always⟩,
 ⟨some 9, .move (.tmp 2), 32, .always⟩,
 ⟨some 10, .call { callee := .value (.func 70), args := #[.tmp 8, .tmp 9], argTypes := #[3, 32] }, 51, .always⟩,
 ⟨some 7, .alloc 51, 0, .always⟩,
 ⟨none, .store 51 (.tmp 7) (.tmp 10), 0, .always⟩] [4, 6, 7])
 (.seq (.ops [⟨some 11, .load 30 (.tmp 4), 30, .always⟩,
 ⟨some 12, .call { callee := .value (.func 52), args := #[.tmp 11], argTypes := #[30] }, 30, .always⟩,
 ⟨some 13, .fieldAddr 51 (.tmp 7) 2, 0, .always⟩,
 ⟨none, .store 30 (.tmp 13) (.tmp 12), 0, .always⟩] [6, 7])
 (.seq (.ops [⟨some 14, .load 51 (.tmp 7), 51, .always⟩,
 ⟨none, .store 51 (.tmp 6) (.tmp 14), 0, .always⟩] [6])
 (.ret))))
theorem w71 {args : List PV} {σ σ' : List Frm} {r : Ret} (hr : ∀ p, r = .val p → erV p = p) (h : wpP cfg s71 (QEndP cfg [.cell 6 51] σ' r) ⟨initEnv args, fun _ => [], σ, ⟨fun _ => false, 0⟩⟩) : CallsV cfg 71 args σ r σ' :=
 callsV_of_p follows cfgT a71 (fn := Tryz.f71) (c := Tryz.f71.body.getD .skip) (by kernel_rfl) (by kernel_rfl) (by kernel_rfl) (by kernel_rfl) (by kernel_rfl) (sc := s71) (by kernel_rfl) [.cell 6 51] (by kernel_rfl) hr h
def a135 : List Ann := [⟨[0, 2], [], []⟩,
 ⟨[0, 2, 3], [], []⟩,
 ⟨[0, 2, 3, 6], [], []⟩,
 ⟨[0, 2, 3], [], []⟩,
 ⟨[0, 2, 3], [], []⟩,
 ⟨[2], [], []⟩]
def s135 : SC := .seq (.ops [⟨some 2, .alloc 51, 0, .always⟩] [0, 2])
 (.seq (.ops [⟨some 4, .call { callee := .value (.func 70), args := #[.const (.int .i64 4), .const (.slice none 0 0)], argTypes := #[3, 32] }, 51, .always⟩,
 ⟨some 3, .alloc 51, 0, .always⟩,
 ⟨none, .store 51 (.tmp 3) (.tmp 4), 0, .always⟩] [0, 2, 3])
 (.seq (.block 0
 (.loop
 (.seq (.seq (.ops [⟨some 5, .move (.tmp 0), 3, .always⟩,
 ⟨some 6, .binOp .gtr 3 (.tmp 5) (.const (.int .i64 0)) 3, 4, .always⟩] [0, 2, 3, 6])
 (.cond (.tmp 6)
 (.skip)
 (.exit 0)))
 (.seq (.block 1
 (.ops [⟨some 9, .load 51 (.tmp 3), 51, .always⟩,
 ⟨some 10, .buildSlice 32 1 #[(0, .tmp 9)], 32, .always⟩,
 ⟨some 11, .build 51 #[(0, .const (.int .i64 5)), (3, .tmp 10)], 51, .always⟩,
 ⟨none, .store 51 (.tmp 3) (.tmp 11), 0, .always⟩] [0, 2, 3]))
 (.ops [⟨some 7, .move (.tmp 0), 3, .always⟩,
 ⟨some 8, .binOp .sub 3 (.tmp 7) (.const (.int .i64 1)) 3, 3, .always⟩,
 ⟨some 0, .assign (.tmp 8), 3, .always⟩] [0, 2, 3])))))
 (.seq (.ops [⟨some 12, .load 51 (.tmp 3), 51, .always⟩,
 ⟨none, .store 51 (.tmp 2) (.tmp 12), 0, .always⟩] [2])
 (.ret))))
theorem w135 {args : List PV} {σ σ' : List Frm} {r : Ret} (hr : ∀ p, r = .val p → erV p = p) (h : wpP cfg s135 (QEndP cfg [.cell 2 51] σ' r) ⟨initEnv args, fun _ => [], σ, ⟨fun _ => false, 0⟩⟩) : CallsV cfg 135 args σ r σ' :=
 callsV_of_p follows cfgT a135 (fn := Tryz.f135) (c := Tryz.f135.body.getD .skip) (by kernel_rfl) (by kernel_rfl) (by kernel_rfl) (by kernel_rfl) (by kernel_rfl) (sc := s135) (by kernel_rfl) [.cell 2 51] (by kernel_rfl) hr h
def a109 : List Ann := [⟨[0, 2], [], []⟩,
 ⟨[0, 2, 5], [], []⟩,
 ⟨[2, 3], [], []⟩,
 ⟨[0, 2, 8], [], []⟩,
 ⟨[2, 3], [], []⟩,
 ⟨[2, 3], [], []⟩]
def s109 : SC := .seq (.ops [⟨some 2, .alloc 51, 0, .always⟩,
 ⟨some 3, .assign (.const (.int .i64 0)), 43, .always⟩] [0, 2])
 (.seq (.seq (.ops [⟨some 4, .move (.tmp 0), 3, .always⟩,
 ⟨some 5, .binOp .lss 3 (.tmp 4) (.const (.int .i64 0)) 3, 4, .always⟩] [0, 2, 5])
 (.cond (.tmp 5)
 (.seq (.ops [⟨some 6, .build 51 #[], 51, .always⟩,
 ⟨none, .store 51 (.tmp 2) (.tmp 6), 0, .always⟩,
 ⟨some 3, .assign (.const (.int .i64 1)), 43, .always⟩] [2, 3])
 (.ret))
 (.skip)))
 (.seq (.seq (.ops [⟨some 7, .move (.tmp 0), 3, .always⟩,
 ⟨some 8, .binOp .geq 3 (.tmp 7) (.const (.int .i64 4096)) 3, 4, .always⟩] [0, 2, 8])
 (.cond (.tmp 8)
 (.seq (.ops [⟨some 9, .build 51 #[], 51, .always⟩,
 ⟨none, .store 51 (.tmp 2) (.tmp 9), 0, .always⟩,
 ⟨some 3, .assign (.const (.int .i64 4)), 43, .always⟩] [2, 3])
 (.ret))
 (.skip)))
 (.seq (.ops [⟨some 10, .move (.tmp 0), 3, .always⟩,
 ⟨some 11, .call { callee := .value (.func 135), args := #[.tmp 10], argTypes := #[3] }, 51, .always⟩,
 ⟨none, .store 51 (.tmp 2) (.tmp 11), 0, .always⟩,
 ⟨some 3, .assign (.const (.int .i64 0)), 43, .always⟩] [2, 3])
 (.ret))))
theorem w109 {args : List PV} {σ σ' : List Frm} {r : Ret} (hr : ∀ p, r = .val p → erV p = p) (h : wpP cfg s109 (QEndP cfg [.cell 2 51, .tmp 3] σ' r) ⟨initEnv args, fun _ => [], σ, ⟨fun _ => false, 0⟩⟩) : CallsV cfg 109 args σ r σ' :=
 callsV_of_p follows cfgT a109 (fn := Tryz.f109) (c := Tryz.f109.body.getD .skip) (by kernel_rfl) (by kernel_rfl) (by kernel_rfl) (by kernel_rfl) (by kernel_rfl) (sc := s109) (by kernel_rfl) [.cell 2 51, .tmp 3] (by kernel_rfl) hr h
def a72 : List Ann := [⟨[0, 2], [], []⟩,
 ⟨[2, 3], [], []⟩,
 ⟨[2], [], []⟩]
def s72 : SC := .seq (.ops [⟨some 2, .alloc 51, 0, .always⟩] [0, 2])
 (.seq (.ops [⟨some 6, .move (.tmp 0), 3, .always⟩,
 ⟨some 7, .call { callee := .value (.func 109), args := #[.tmp 6], argTypes := #[3] }, 95, .always⟩,
 ⟨some 5, .move (.tmp 7), 95, .always⟩,
 ⟨some 8, .extract (.tmp 5) 0, 51, .always⟩,
 ⟨some 9, .extract (.tmp 5) 1, 43, .always⟩,
 ⟨some 3, .alloc 51, 0, .always⟩,
 ⟨none, .store 51 (.tmp 3) (.tmp 8), 0, .always⟩,
 ⟨some 4, .assign (.tmp 9), 43, .always⟩] [2, 3])
 (.seq (.ops [⟨some 10, .load 51 (.tmp 3), 51, .always⟩,
 ⟨none, .store 51 (.tmp 2) (.tmp 10), 0, .always⟩] [2])
 (.ret)))
theorem w72 {args : List PV} {σ σ' : List Frm} {r : Ret} (hr : ∀ p, r = .val p → erV p = p) (h : wpP cfg s72 (QEndP cfg [.cell 2 51] σ' r) ⟨initEnv args, fun _ => [], σ, ⟨fun _ => false, 0⟩⟩) : CallsV cfg 72 args σ r σ' :=
 callsV_of_p follows cfgT a72 (fn := Tryz.f72) (c := Tryz.f72.body.getD .skip) (by kernel_rfl) (by kernel_rfl) (by kernel_rfl) (by kernel_rfl) (by kernel_rfl) (sc := s72) (by kernel_rfl) [.cell 2 51] (by kernel_rfl) hr h
def a73 : List Ann := [⟨[1, 2, 4], [], []⟩,
 ⟨[2, 4, 7, 8, 9], [], []⟩,
 ⟨[2, 4, 7, 8, 9, 10], [], []⟩,
 ⟨[2, 4, 6, 7, 8, 9], [], []⟩,
 ⟨[2, 4, 7, 8, 9], [], []⟩,
 ⟨[2, 4, 7, 8, 9], [], []⟩,
 ⟨[4], [], []⟩]
def s73 : SC := .seq (.ops [⟨some 2, .box 51 (.tmp 0), 0, .always⟩,
 ⟨some 4, .alloc 51, 0, .always⟩] [1, 2, 4])
 (.seq (.seq (.ops [⟨some 7, .move (.tmp 1), 32, .always⟩,
 ⟨some 8, .call { callee := .builtin .len, args := #[.tmp 7], argTypes := #[32] }, 3, .always⟩,
 ⟨some 9, .move (.const (.int .i64 0)), 3, .always⟩] [2, 4, 7, 8, 9])
 (.block 0
 (.loop
 (.seq (.ops [⟨some 10, .binOp .lss 3 (.tmp 9) (.tmp 8) 3, 0, .always⟩] [2, 4, 7, 8, 9, 10])
 (.seq (.cond (.tmp 10)
 (.skip)
 (.exit 0))
 (.seq (.block 1
 (.seq (.ops [⟨some 11, .indexAddr 32 (.tmp 7) (.tmp 9), 0, .always⟩,
 ⟨some 12, .load 51 (.tmp 11), 51, .always⟩,
 ⟨some 6, .alloc 51, 0, .always⟩,
 ⟨none, .store 51 (.tmp 6) (.tmp 12), 0, .always⟩] [2, 4, 6, 7, 8, 9])
 (.ops [⟨some 13, .load 51 (.tmp 2), 51, .always⟩,
 ⟨some 14, .load 51 (.tmp 6), 51, .always⟩,
 ⟨some 15, .buildSlice 32 2 #[(0, .tmp 13), (1, .tmp 14)], 32, .always⟩,
 ⟨some 16, .call { callee := .value (.func 70), args := #[.const (.int .i64 3), .tmp 15], argTypes := #[3, 32] }, 51, .always⟩,
 ⟨none, .store 51 (.tmp 2) (.tmp 16), 0, .always⟩] [2, 4, 7, 8, 9])))
 (.ops [⟨some 17, .binOp .add 3 (.tmp 9) (.const (.int .i64 1)) 3, 3, .always⟩,
 ⟨some 9, .move (.tmp 17), 3, .always⟩] [2, 4, 7, 8, 9])))))))
 (.seq (.ops [⟨some 18, .load 51 (.tmp 2), 51, .always⟩,
 ⟨none, .store 51 (.tmp 4) (.tmp 18), 0, .always⟩] [4])
 (.ret)))
theorem w73 {args : List PV} {σ σ' : List Frm} {r : Ret} (hr : ∀ p, r = .val p → erV p = p) (h : wpP cfg s73 (QEndP cfg [.cell 4 51] σ' r) ⟨initEnv args, fun _ => [], σ, ⟨fun _ => false, 0⟩⟩) : CallsV cfg 73 args σ r σ' :=
 callsV_of_p follows cfgT a73 (fn := Tryz.f73) (c := Tryz.f73.body.getD .skip) (by kernel_rfl) (by kernel_rfl) (by kernel_rfl) (by kernel_rfl) (by kernel_rfl) (sc := s73) (by kernel_rfl) [.cell 4 51] (by kernel_rfl) hr h
def a110 : List Ann := [⟨[1, 2], [], []⟩,
 ⟨[2], [0, 0, 2, 7, 15], [true, true, false, false, false]⟩]
def s110 : SC := .seq (.ops [⟨some 1, .box 51 (.tmp 0), 0, .always⟩,
 ⟨some 2, .alloc 51, 0, .always⟩] [1, 2])
 (.seq (.draw [⟨some 3, .call { callee := .value (.func 27), args := #[], argTypes := #[] }, 30, .always⟩,
 ⟨some 4, .load 51 (.tmp 1), 51, .always⟩,
 ⟨some 5, .buildSlice 32 1 #[(0, .tmp 4)], 32, .always⟩,
 ⟨some 6, .call { callee := .value (.func 71), args := #[.const (.int .i64 2), .tmp 3, .tmp 5], argTypes := #[3, 30, 32] }, 51, .always⟩,
 ⟨none, .store 51 (.tmp 2) (.tmp 6), 0, .always⟩] [true, true, false, false, false] [2])
 (.ret))
theorem w110 {args : List PV} {σ σ' : List Frm} {r : Ret} (hr : ∀ p, r = .val p → erV p = p) (h : wpP cfg s110 (QEndP cfg [.cell 2 51] σ' r) ⟨initEnv args, fun _ => [], σ, ⟨fun _ => false, 0⟩⟩) : CallsV cfg 110 args σ r σ' :=
 callsV_of_p follows cfgT a110 (fn := Tryz.f110) (c := Tryz.f110.body.getD .skip) (by kernel_rfl) (by kernel_rfl) (by kernel_rfl) (by kernel_rfl) (by kernel_rfl) (sc := s110) (by kernel_rfl) [.cell 2 51] (by kernel_rfl) hr h
def a111 : List Ann := [⟨[3, 4, 5, 6], [], []⟩,
 ⟨[6], [0, 0, 0, 0, 14, 31, 63], [true, true, true, true, false, false, false]⟩]
def s111 : SC := .seq (.ops [⟨some 3, .box 51 (.tmp 0), 0, .always⟩,
 ⟨some 4, .box 51 (.tmp 1), 0, .always⟩,
 ⟨some 5, .box 51 (.tmp 2), 0, .always⟩,
 ⟨some 6, .alloc 51, 0, .always⟩] [3, 4, 5, 6])
 (.seq (.draw [⟨some 7, .call { callee := .value (.func 27), args := #[], argTypes := #[] }, 30, .always⟩,
 ⟨some 8, .load 51 (.tmp 3), 51, .always⟩,
 ⟨some 9, .load 51 (.tmp 4), 51, .always⟩,
 ⟨some 10, .load 51 (.tmp 5), 51, .always⟩,
 ⟨some 11, .buildSlice 32 3 #[(0, .tmp 8), (1, .tmp 9), (2, .tmp 10)], 32, .always⟩,
 ⟨some 12, .call { callee := .value (.func 71), args := #[.const (.int .i64 6), .tmp 7, .tmp 11], argTypes := #[3, 30, 32] }, 51, .always⟩,
 ⟨none, .store 51 (.tmp 6) (.tmp 12), 0, .always⟩] [true, true, true, true, false, false, false] [6])
 (.ret))
theorem w111 {args : List PV} {σ σ' : List Frm} {r : Ret} (hr : ∀ p, r = .val p → erV p = p) (h : wpP cfg s111 (QEndP cfg [.cell 6 51] σ' r) ⟨initEnv args, fun _ => [], σ, ⟨fun _ => false, 0⟩⟩) : CallsV cfg 111 args σ r σ' :=
 callsV_of_p follows cfgT a111 (fn := Tryz.f111) (c := Tryz.f111.body.getD .skip) (by kernel_rfl) (by kernel_rfl) (by kernel_rfl) (by kernel_rfl) (by kernel_rfl) (sc := s111) (by kernel_rfl) [.cell 6 51] (by kernel_rfl) hr h
def a74 : List Ann := [⟨[0], [], []⟩,
 ⟨[0], [], []⟩]
def s74 : SC := .seq (.ops [⟨some 0, .alloc 51, 0, .always⟩] [0])
 (.seq (.ops [⟨some 1, .call { callee := .value (.func 46), args := #[.const (.int .i64 1)], argTypes := #[3] }, 51, .always⟩,
 ⟨some 2, .call { callee := .value (.func 46), args := #[.const (.int .i64 0)], argTypes := #[3] }, 51, .always⟩,
 ⟨some 3, .buildSlice 32 1 #[(0, .tmp 2)], 32, .always⟩,
 ⟨some 4, .call { callee := .value (.func 70), args := #[.const (.int .i64 5), .tmp 3], argTypes := #[3, 32] }, 51, .always⟩,
 ⟨some 5, .call { callee := .value (.func 110), args := #[.tmp 4], argTypes := #[51] }, 51, .always⟩,
 ⟨some 6, .call { callee := .value (.func 110), args := #[.tmp 5], argTypes := #[51] }, 51, .always⟩,
 ⟨some 7, .call { callee := .value (.func 46), args := #[.const (.int .i64 0)], argTypes := #[3] }, 51, .always⟩,
 ⟨some 8, .call { callee := .value (.func 111), args := #[.tmp 1, .tmp 6, .tmp 7], argTypes := #[51, 51, 51] }, 51, .always⟩,
 ⟨some 9, .call { callee := .value (.func 110), args := #[.tmp 8], argTypes := #[51] }, 51, .always⟩,
 ⟨some 10, .call { callee := .value (.func 110), args := #[.tmp 9], argTypes := #[51] }, 51, .always⟩,
 ⟨none, .store 51 (.tmp 0) (.tmp 10), 0, .always⟩] [0])
 (.ret))
theorem w74 {args : List PV} {σ σ' : List Frm} {r : Ret} (hr : ∀ p, r = .val p → erV p = p) (h : wpP cfg s74 (QEndP cfg [.cell 0 51] σ' r) ⟨initEnv args, fun _ => [], σ, ⟨fun _ => false, 0⟩⟩) : CallsV cfg 74 args σ r σ' :=
 callsV_of_p follows cfgT a74 (fn := Tryz.f74) (c := Tryz.f74.body.getD .skip) (by kernel_rfl) (by kernel_rfl) (by kernel_rfl) (by kernel_rfl) (by kernel_rfl) (sc := s74) (by kernel_rfl) [.cell 0 51] (by kernel_rfl) hr h
def a112 : List Ann := [⟨[0], [], []⟩,
 ⟨[0], [], []⟩]
def s112 : SC := .seq (.ops [⟨some 0, .alloc 51, 0, .always⟩] [0])
 (.seq (.ops [⟨some 1, .call { callee := .value (.func 70), args := #[.const (.int .i64 4), .const (.slice none 0 0)], argTypes := #[3, 32] }, 51, .always⟩,
 ⟨some 2, .call { callee := .value (.func 46), args := #[.const (.int .i64 1)], argTypes := #[3] }, 51, .always⟩,
 ⟨some 3, .call { callee := .value (.func 110), args := #[.tmp 2], argTypes := #[51] }, 51, .always⟩,
 ⟨some 4, .call { callee := .value (.func 110), args := #[.tmp 3], argTypes := #[51] }, 51, .always⟩,
 ⟨some 5, .call { callee := .value (.func 46), args := #[.const (.int .i64 0)], argTypes := #[3] }, 51, .always⟩,
 ⟨some 6, .call { callee := .value (.func 111), args := #[.tmp 1, .tmp 4, .tmp 5], argTypes := #[51, 51, 51] }, 51, .always⟩,
 ⟨some 7, .call { callee := .value (.func 110), args := #[.tmp 6], argTypes := #[51] }, 51, .always⟩,
 ⟨none, .store 51 (.tmp 0) (.tmp 7), 0, .always⟩] [0])
 (.ret))
theorem w112 {args : List PV} {σ σ' : List Frm} {r : Ret} (hr : ∀ p, r = .val p → erV p = p) (h : wpP cfg s112 (QEndP cfg [.cell 0 51] σ' r) ⟨initEnv args, fun _ => [], σ, ⟨fun _ => false, 0⟩⟩) : CallsV cfg 112 args σ r σ' :=
 callsV_of_p follows cfgT a112 (fn := Tryz.f112) (c := Tryz.f112.body.getD .skip) (by kernel_rfl) (by kernel_rfl) (by kernel_rfl) (by kernel_rfl) (by kernel_rfl) (sc := s112) (by kernel_rfl) [.cell 0 51] (by kernel_rfl) hr h
def a75 : List Ann := [⟨[0], [], []⟩,
 ⟨[0], [], []⟩]
def s75 : SC := .seq (.ops [⟨some 0, .alloc 51, 0, .always⟩] [0])
 (.seq (.ops [⟨some 1, .call { callee := .value (.func 46), args := #[.const (.int .i64 1)], argTypes := #[3] }, 51, .always⟩,
 ⟨some 2, .call { callee := .value (.func 112), args := #[], argTypes := #[] }, 51, .always⟩,
 ⟨some 3, .call { callee := .value (.func 46), args := #[.const (.int .i64 0)], argTypes := #[3] }, 51, .always⟩,
 ⟨some 4, .buildSlice 32 2 #[(0, .tmp 2), (1, .tmp 3)], 32, .always⟩,
 ⟨some 5, .call { callee := .value (.func 70), args := #[.const (.int .i64 3), .tmp 4], argTypes := #[3, 32] }, 51, .always⟩,
 ⟨some 6, .call { callee := .value (.func 110), args := #[.tmp 5], argTypes := #[51] }, 51, .always⟩,
 ⟨some 7, .call { callee := .value (.func 110), args := #[.tmp 6], argTypes := #[51] }, 51, .always⟩,
 ⟨some 8, .call { callee := .value (.func 46), args := #[.const (.int .i64 0)], argTypes := #[3] }, 51, .always⟩,
 ⟨some 9, .call { callee := .value (.func 111), args := #[.tmp 1, .tmp 7, .tmp 8], argTypes := #[51, 51, 51] }, 51, .always⟩,
 ⟨some 10, .call { callee := .value (.func 110), args := #[.tmp 9], argTypes := #[51] }, 51, .always⟩,
 ⟨some 11, .call { callee := .value (.func 110), args := #[.tmp 10], argTypes := #[51] }, 51, .always⟩,
 ⟨none, .store 51 (.tmp 0) (.tmp 11), 0, .always⟩] [0])
 (.ret))
theorem w75 {args : List PV} {σ σ' : List Frm} {r : Ret} (hr : ∀ p, r = .val p → erV p = p) (h : wpP cfg s75 (QEndP cfg [.cell 0 51] σ' r) ⟨initEnv args, fun _ => [], σ, ⟨fun _ => false, 0⟩⟩) : CallsV cfg 75 args σ r σ' :=
 callsV_of_p follows cfgT a75 (fn := Tryz.f75) (c := Tryz.f75.body.getD .skip) (by kernel_rfl) (by kernel_rfl) (by kernel_rfl) (by kernel_rfl) (by kernel_rfl) (sc := s75) (by kernel_rfl) [.cell 0 51] (by kernel_rfl) hr h
def a23 : List Ann := [⟨[0, 1, 3, 6, 8], [], []⟩,
 ⟨[0, 1, 3, 6, 8, 9], [], []⟩,
 ⟨[0, 1, 3, 6, 8, 9, 27], [], []⟩,
 ⟨[8], [], []⟩,
 ⟨[0, 1, 3, 6, 8, 37], [], []⟩,
 ⟨[0, 1, 3, 6, 8, 39], [], []⟩,
 ⟨[0, 1, 3, 6, 8, 39, 40], [], []⟩,
 ⟨[0, 1, 3, 6, 8, 10], [], []⟩,
 ⟨[8], [0, 0, 0, 0, 8, 28, 0, 0, 128, 510, 1022, 2047, 0, 0, 0, 0, 32768, 131071, 262143, 524287, 1048575], [true, false, false, false, false, true, true, false, false, true, false, true, false, false, true, false, false, false, false, false, false]⟩,
 ⟨[0, 1, 3, 6, 8, 39, 64], [], []⟩,
 ⟨[0, 1, 3, 6, 8, 11], [], []⟩,
 ⟨[8], [0, 0, 0, 0, 8, 31, 0, 0, 0, 0, 512, 2047, 4095, 8191, 16383, 32767, 65535], [false, false, false, false, false, true, false, false, true, false, false, false, false, false, false, false, false]⟩,
 ⟨[0, 1, 3, 6, 8, 39, 84], [], []⟩,
 ⟨[0, 1, 3, 6, 8, 12], [0, 0, 0, 0, 1, 0, 49, 121, 0, 0, 512, 2045, 4093, 8191, 16383, 32767, 0, 131071], [true, true, false, false, true, true, false, true, true, false, false, true, false, true, false, true, true, false]⟩,
 ⟨[8], [0, 0, 0, 0, 0, 16, 62, 0, 0, 382, 894, 2046, 4095, 8191], [true, false, false, false, false, false, true, true, false, true, true, false, false, false]⟩,
 ⟨[0, 1, 3, 6, 8, 39, 115], [], []⟩,
 ⟨[0, 1, 3, 6, 8, 13], [0, 1, 0, 0, 0, 3, 35, 0, 227, 499, 0, 0, 2048, 8187, 16379, 32767, 65535, 131071, 262143, 524287, 0, 2097151], [true, true, true, false, false, true, true, true, false, true, true, false, false, true, false, true, false, true, false, true, true, false]⟩,
 ⟨[8], [0, 0, 0, 0, 0, 16, 62, 0, 0, 0, 126, 0, 2048, 8062, 16382, 32767, 65535], [true, false, false, false, false, false, true, true, false, false, true, false, false, true, false, false, false]⟩,
 ⟨[0, 1, 3, 6, 8, 39, 153], [], []⟩,
 ⟨[0, 1, 3, 6, 8, 14], [], []⟩,
 ⟨[8], [0, 0, 0, 0, 8, 31, 0, 0, 0, 0, 512, 2047, 4095, 8191, 16383, 32767, 65535], [false, false, false, false, false, true, false, false, true, false, false, false, false, false, false, false, false]⟩,
 ⟨[0, 1, 3, 6, 8, 173], [], []⟩,
 ⟨[0, 1, 3, 6, 8, 176, 177], [], []⟩,
 ⟨[0, 1, 3, 6, 8, 176, 177, 178], [], []⟩,
 ⟨[0, 1, 3, 6, 8, 15, 176, 177], [], []⟩,
 ⟨[0, 1, 3, 6, 8, 15, 16, 176, 177], [], []⟩,
 ⟨[0, 1, 3, 6, 8, 15, 16, 176, 177, 198], [0, 1, 3, 7, 15, 31, 63, 127, 15, 511, 1023], [false, false, false, false, false, false, false, false, false, false, false]⟩,
 ⟨[8], [0, 1, 0, 0, 0, 16, 48, 112, 0, 256, 1023, 2047, 4095, 8191], [false, true, false, false, false, true, false, true, false, false, false, false, false, false]⟩,
 ⟨[0, 1, 3, 6, 8, 176, 177], [], []⟩,
 ⟨[0, 1, 3, 6, 8, 214], [], []⟩,
 ⟨[0, 1, 3, 6, 8, 214, 215], [], []⟩,
 ⟨[0, 1, 3, 6, 8, 218], [], []⟩,
 ⟨[0, 1, 3, 6, 8, 220], [], []⟩,
 ⟨[0, 1, 3, 6, 8, 220, 221], [], []⟩,
 ⟨[8], [], []⟩,
 ⟨[0, 1, 3, 6, 8, 220, 231], [], []⟩,
 ⟨[8], [0, 0, 0, 0, 0, 16, 63, 0, 0, 0, 0, 1024, 4095, 8191, 16383, 32767], [true, false, false, true, false, false, true, false, false, true, false, false, false, false, false, false]⟩,
 ⟨[0, 1, 3, 6, 8, 248], [], []⟩,
 ⟨[8], [0, 0, 0, 0, 0, 16, 63, 0, 0, 0, 0, 1024, 4095, 8191, 16383, 32767], [true, false, false, true, false, false, true, false, false, true, false, false, false, false, false, false]⟩,
 ⟨[8], [], []⟩,
 ⟨[0, 1, 3, 6, 8, 214, 268], [], []⟩,
 ⟨[0, 1, 3, 6, 8, 276], [], []⟩,
 ⟨[8], [0, 0, 0, 0, 8, 31, 0, 0, 0, 0, 512, 2047, 4095, 8191, 16383], [false, false, true, false, false, true, false, false, true, false, false, false, false, false, false]⟩,
 ⟨[8], [], []⟩,
 ⟨[0, 1, 3, 6, 8, 214, 292], [], []⟩,
 ⟨[8], [0, 0, 0, 4, 12, 28, 0, 64, 255, 0, 0, 0, 2048, 6144, 14336, 0, 32768, 131071, 262143, 524287, 1048575], [false, false, false, false, false, false, false, false, true, false, false, false, true, false, true, false, false, false, false, false, false]⟩,
 ⟨[0, 1, 3, 6, 8, 314], [], []⟩,
 ⟨[8], [0, 1, 3, 7, 0, 0, 0, 64, 192, 448, 960, 2016, 0, 4096, 12288, 28672, 0, 65536, 262128, 524272, 1048575, 2097151], [false, true, false, true, false, false, false, false, false, false, false, true, false, true, false, true, false, false, true, false, false, false]⟩,
 ⟨[8], [], []⟩]
def s23 : SC := .seq (.ops [⟨some 6, .box 30 (.tmp 2), 0, .always⟩,
 ⟨some 8, .alloc 51, 0, .always⟩] [0, 1, 3, 6, 8])
 (.seq (.ops [⟨some 17, .move (.tmp 1), 27, .always⟩,
 ⟨some 18, .load 30 (.tmp 6), 30, .always⟩,
 ⟨some 19, .call { callee := .value (.func 69), args := #[.tmp 17, .tmp 18], argTypes := #[27, 30] }, 22, .always⟩,
 ⟨some 9, .assign (.tmp 19), 22, .always⟩] [0, 1, 3, 6, 8, 9])
 (.seq (.seq (.ops [⟨some 20, .move (.tmp 9), 22, .always⟩,
 ⟨some 21, .call { callee := .builtin .len, args := #[.tmp 20], argTypes := #[22] }, 3, .always⟩,
 ⟨some 22, .binOp .gtr 3 (.tmp 21) (.const (.int .i64 0)) 3, 4, .always⟩,
 ⟨some 23, .move (.tmp 22), 4, .always⟩,
 ⟨some 24, .move (.tmp 0), 25, .tmp 23 true⟩,
 ⟨some 25, .call { callee := .value (.func 28), args := #[.tmp 24, .const (.int .i64 3)], argTypes := #[25, 3] }, 3, .tmp 23 true⟩,
 ⟨some 26, .binOp .gtr 3 (.tmp 25) (.const (.int .i64 0)) 3, 4, .tmp 23 true⟩,
 ⟨some 27, .pick (.tmp 23) (.tmp 26) (.const (.bool false)), 4, .always⟩] [0, 1, 3, 6, 8, 9, 27])
 (.cond (.tmp 27)
 (.seq (.ops [⟨some 28, .move (.tmp 9), 22, .always⟩,
 ⟨some 29, .move (.tmp 0), 25, .always⟩,
 ⟨some 30, .move (.tmp 9), 22, .always⟩,
 ⟨some 31, .call { callee := .builtin .len, args := #[.tmp 30], argTypes := #[22] }, 3, .always⟩,
 ⟨some 32, .call { callee := .value (.func 28), args := #[.tmp 29, .tmp 31], argTypes := #[25, 3] }, 3, .always⟩,
 ⟨some 33, .indexAddr 22 (.tmp 28) (.tmp 32), 0, .always⟩,
 ⟨some 34, .load 3 (.tmp 33), 3, .always⟩,
 ⟨some 35, .call { callee := .value (.func 46), args := #[.tmp 34], argTypes := #[3] }, 51, .always⟩,
 ⟨none, .store 51 (.tmp 8) (.tmp 35), 0, .always⟩] [8])
 (.ret))
 (.skip)))
 (.seq (.seq (.ops [⟨some 36, .move (.tmp 3), 3, .always⟩,
 ⟨some 37, .binOp .gtr 3 (.tmp 36) (.const (.int .i64 0)) 3, 4, .always⟩] [0, 1, 3, 6, 8, 37])
 (.cond (.tmp 37)
 (.seq (.ops [⟨some 38, .move (.tmp 0), 25, .always⟩,
 ⟨some 39, .call { callee := .value (.func 28), args := #[.tmp 38, .const (.int .i64 8)], argTypes := #[25, 3] }, 3, .always⟩] [0, 1, 3, 6, 8, 39])
 (.block 0
 (.seq (.ops [⟨some 41, .binOp .eql 3 (.tmp 39) (.const (.int .i64 0)) 3, 4, .always⟩,
 ⟨some 40, .assign (.tmp 41), 4, .always⟩] [0, 1, 3, 6, 8, 39, 40])
 (.cond (.tmp 40)
 (.seq (.ops [⟨some 42, .move (.tmp 0), 25, .always⟩,
 ⟨some 43, .call { callee := .value (.func 11), args := #[.tmp 42, .const (.int .i64 0)], argTypes := #[25, 3] }, 30, .always⟩,
 ⟨some 10, .alloc 30, 0, .always⟩,
 ⟨none, .store 30 (.tmp 10) (.tmp 43), 0, .always⟩] [0, 1, 3, 6, 8, 10])
 (.seq (.draw [⟨some 44, .load 30 (.tmp 10), 30, .always⟩,
 ⟨some 45, .move (.tmp 0), 25, .always⟩,
 ⟨some 46, .move (.tmp 1), 27, .always⟩,
 ⟨some 47, .load 30 (.tmp 10), 30, .always⟩,
 ⟨some 48, .buildSlice 27 1 #[(0, .tmp 47)], 27, .always⟩,
 ⟨some 49, .call { callee := .value (.func 51), args := #[.tmp 46, .tmp 48], argTypes := #[27, 27] }, 27, .always⟩,
 ⟨some 50, .load 30 (.tmp 6), 30, .always⟩,
 ⟨some 51, .move (.tmp 3), 3, .always⟩,
 ⟨some 52, .binOp .sub 3 (.tmp 51) (.const (.int .i64 1)) 3, 3, .always⟩,
 ⟨some 53, .call { callee := .value (.func 23), args := #[.tmp 45, .tmp 49, .tmp 50, .tmp 52], argTypes := #[25, 27, 30, 3] }, 51, .always⟩,
 ⟨some 54, .buildSlice 32 1 #[(0, .tmp 53)], 32, .always⟩,
 ⟨some 55, .call { callee := .value (.func 71), args := #[.const (.int .i64 2), .tmp 44, .tmp 54], argTypes := #[3, 30, 32] }, 51, .always⟩,
 ⟨some 56, .move (.tmp 0), 25, .always⟩,
 ⟨some 57, .move (.tmp 1), 27, .always⟩,
 ⟨some 58, .load 30 (.tmp 10), 30, .always⟩,
 ⟨some 59, .move (.tmp 3), 3, .always⟩,
 ⟨some 60, .binOp .sub 3 (.tmp 59) (.const (.int .i64 1)) 3, 3, .always⟩,
 ⟨some 61, .call { callee := .value (.func 23), args := #[.tmp 56, .tmp 57, .tmp 58, .tmp 60], argTypes := #[25, 27, 30, 3] }, 51, .always⟩,
 ⟨some 62, .buildSlice 32 2 #[(0, .tmp 55), (1, .tmp 61)], 32, .always⟩,
 ⟨some 63, .call { callee := .value (.func 70), args := #[.const (.int .i64 3), .tmp 62], argTypes := #[3, 32] }, 51, .always⟩,
 ⟨none, .store 51 (.tmp 8) (.tmp 63), 0, .always⟩] [true, false, false, false, false, true, true, false, false, true, false, true, false, false, true, false, false, false, false, false, false] [8])
 (.ret)))
 (.seq (.ops [⟨some 65, .binOp .eql 3 (.tmp 39) (.const (.int .i64 1)) 3, 4, .always⟩,
 ⟨some 64, .assign (.tmp 65), 4, .always⟩] [0, 1, 3, 6, 8, 39, 64])
 (.cond (.tmp 64)
 (.seq (.ops [⟨some 66, .move (.tmp 0), 25, .always⟩,
 ⟨some 67, .call { callee := .value (.func 11), args := #[.tmp 66, .const (.int .i64 0)], argTypes := #[25, 3] }, 30, .always⟩,
 ⟨some 11, .alloc 30, 0, .always⟩,
 ⟨none, .store 30 (.tmp 11) (.tmp 67), 0, .always⟩] [0, 1, 3, 6, 8, 11])
 (.seq (.draw [⟨some 68, .move (.tmp 0), 25, .always⟩,
 ⟨some 69, .move (.tmp 1), 27, .always⟩,
 ⟨some 70, .load 30 (.tmp 6), 30, .always⟩,
 ⟨some 71, .move (.tmp 3), 3, .always⟩,
 ⟨some 72, .binOp .sub 3 (.tmp 71) (.const (.int .i64 1)) 3, 3, .always⟩,
 ⟨some 73, .call { callee := .value (.func 23), args := #[.tmp 68, .tmp 69, .tmp 70, .tmp 72], argTypes := #[25, 27, 30, 3] }, 51, .always⟩,
 ⟨some 74, .move (.tmp 0), 25, .always⟩,
 ⟨some 75, .move (.tmp 1), 27, .always⟩,
 ⟨some 76, .load 30 (.tmp 11), 30, .always⟩,
 ⟨some 77, .move (.tmp 3), 3, .always⟩,
 ⟨some 78, .binOp .sub 3 (.tmp 77) (.const (.int .i64 1)) 3, 3, .always⟩,
 ⟨some 79, .call { callee := .value (.func 23), args := #[.tmp 74, .tmp 75, .tmp 76, .tmp 78], argTypes := #[25, 27, 30, 3] }, 51, .always⟩,
 ⟨some 80, .buildSlice 32 2 #[(0, .tmp 73), (1, .tmp 79)], 32, .always⟩,
 ⟨some 81, .call { callee := .value (.func 70), args := #[.const (.int .i64 10), .tmp 80], argTypes := #[3, 32] }, 51, .always⟩,
 ⟨some 82, .buildSlice 32 1 #[(0, .tmp 81)], 32, .always⟩,
 ⟨some 83, .call { callee := .value (.func 70), args := #[.const (.int .i64 11), .tmp 82], argTypes := #[3, 32] }, 51, .always⟩,
 ⟨none, .store 51 (.tmp 8) (.tmp 83), 0, .always⟩] [false, false, false, false, false, true, false, false, true, false, false, false, false, false, false, false, false] [8])
 (.ret)))
 (.seq (.ops [⟨some 85, .binOp .eql 3 (.tmp 39) (.const (.int .i64 2)) 3, 4, .always⟩,
 ⟨some 84, .assign (.tmp 85), 4, .always⟩] [0, 1, 3, 6, 8, 39, 84])
 (.cond (.tmp 84)
 (.seq (.draw [⟨some 86, .call { callee := .value (.func 27), args := #[], argTypes := #[] }, 30, .always⟩,
 ⟨some 87, .load 30 (.tmp 6), 30, .always⟩,
 ⟨some 88, .move (.tmp 0), 25, .always⟩,
 ⟨some 89, .move (.tmp 1), 27, .always⟩,
 ⟨some 90, .call { callee := .value (.func 27), args := #[], argTypes := #[] }, 30, .always⟩,
 ⟨some 91, .load 30 (.tmp 6), 30, .always⟩,
 ⟨some 92, .buildSlice 27 2 #[(0, .tmp 90), (1, .tmp 91)], 27, .always⟩,
 ⟨some 93, .call { callee := .value (.func 51), args := #[.tmp 89, .tmp 92], argTypes := #[27, 27] }, 27, .always⟩,
 ⟨some 94, .load 30 (.tmp 6), 30, .always⟩,
 ⟨some 95, .move (.tmp 3), 3, .always⟩,
 ⟨some 96, .binOp .sub 3 (.tmp 95) (.const (.int .i64 1)) 3, 3, .always⟩,
 ⟨some 97, .call { callee := .value (.func 23), args := #[.tmp 88, .tmp 93, .tmp 94, .tmp 96], argTypes := #[25, 27, 30, 3] }, 51, .always⟩,
 ⟨some 98, .buildSlice 32 1 #[(0, .tmp 97)], 32, .always⟩,
 ⟨some 99, .call { callee := .value (.func 71), args := #[.const (.int .i64 2), .tmp 87, .tmp 98], argTypes := #[3, 30, 32] }, 51, .always⟩,
 ⟨some 100, .buildSlice 32 1 #[(0, .tmp 99)], 32, .always⟩,
 ⟨some 101, .call { callee := .value (.func 71), args := #[.const (.int .i64 2), .tmp 86, .tmp 100], argTypes := #[3, 30, 32] }, 51, .always⟩,
 ⟨some 12, .alloc 51, 0, .always⟩,
 ⟨none, .store 51 (.tmp 12) (.tmp 101), 0, .always⟩] [true, true, false, false, true, true, false, true, true, false, false, true, false, true, false, true, true, false] [0, 1, 3, 6, 8, 12])
 (.seq (.draw [⟨some 102, .load 30 (.tmp 6), 30, .always⟩,
 ⟨some 103, .move (.tmp 0), 25, .always⟩,
 ⟨some 104, .move (.tmp 1), 27, .always⟩,
 ⟨some 105, .load 30 (.tmp 6), 30, .always⟩,
 ⟨some 106, .move (.tmp 3), 3, .always⟩,
 ⟨some 107, .binOp .sub 3 (.tmp 106) (.const (.int .i64 1)) 3, 3, .always⟩,
 ⟨some 108, .call { callee := .value (.func 23), args := #[.tmp 103, .tmp 104, .tmp 105, .tmp 107], argTypes := #[25, 27, 30, 3] }, 51, .always⟩,
 ⟨some 109, .load 51 (.tmp 12), 51, .always⟩,
 ⟨some 110, .move (.tmp 0), 25, .always⟩,
 ⟨some 111, .call { callee := .value (.func 28), args := #[.tmp 110, .const (.int .i64 3)], argTypes := #[25, 3] }, 3, .always⟩,
 ⟨some 112, .call { callee := .value (.func 72), args := #[.tmp 111], argTypes := #[3] }, 51, .always⟩,
 ⟨some 113, .buildSlice 32 3 #[(0, .tmp 108), (1, .tmp 109), (2, .tmp 112)], 32, .always⟩,
 ⟨some 114, .call { callee := .value (.func 71), args := #[.const (.int .i64 6), .tmp 102, .tmp 113], argTypes := #[3, 30, 32] }, 51, .always⟩,
 ⟨none, .store 51 (.tmp 8) (.tmp 114), 0, .always⟩] [true, false, false, false, false, false, true, true, false, true, true, false, false, false] [8])
 (.ret)))
 (.seq (.ops [⟨some 116, .binOp .eql 3 (.tmp 39) (.const (.int .i64 3)) 3, 4, .always⟩,
 ⟨some 115, .assign (.tmp 116), 4, .always⟩] [0, 1, 3, 6, 8, 39, 115])
 (.cond (.tmp 115)
 (.seq (.draw [⟨some 117, .call { callee := .value (.func 27), args := #[], argTypes := #[] }, 30, .always⟩,
 ⟨some 118, .call { callee := .value (.func 47), args := #[], argTypes := #[] }, 30, .always⟩,
 ⟨some 119, .load 30 (.tmp 6), 30, .always⟩,
 ⟨some 120, .move (.tmp 0), 25, .always⟩,
 ⟨some 121, .move (.tmp 1), 27, .always⟩,
 ⟨some 122, .call { callee := .value (.func 27), args := #[], argTypes := #[] }, 30, .always⟩,
 ⟨some 123, .call { callee := .value (.func 47), args := #[], argTypes := #[] }, 30, .always⟩,
 ⟨some 124, .load 30 (.tmp 6), 30, .always⟩,
 ⟨some 125, .buildSlice 27 3 #[(0, .tmp 122), (1, .tmp 123), (2, .tmp 124)], 27, .always⟩,
 ⟨some 126, .call { callee := .value (.func 51), args := #[.tmp 121, .tmp 125], argTypes := #[27, 27] }, 27, .always⟩,
 ⟨some 127, .load 30 (.tmp 6), 30, .always⟩,
 ⟨some 128, .move (.tmp 3), 3, .always⟩,
 ⟨some 129, .binOp .sub 3 (.tmp 128) (.const (.int .i64 1)) 3, 3, .always⟩,
 ⟨some 130, .call { callee := .value (.func 23), args := #[.tmp 120, .tmp 126, .tmp 127, .tmp 129], argTypes := #[25, 27, 30, 3] }, 51, .always⟩,
 ⟨some 131, .buildSlice 32 1 #[(0, .tmp 130)], 32, .always⟩,
 ⟨some 132, .call { callee := .value (.func 71), args := #[.const (.int .i64 2), .tmp 119, .tmp 131], argTypes := #[3, 30, 32] }, 51, .always⟩,
 ⟨some 133, .buildSlice 32 1 #[(0, .tmp 132)], 32, .always⟩,
 ⟨some 134, .call { callee := .value (.func 71), args := #[.const (.int .i64 2), .tmp 118, .tmp 133], argTypes := #[3, 30, 32] }, 51, .always⟩,
 ⟨some 135, .buildSlice 32 1 #[(0, .tmp 134)], 32, .always⟩,
 ⟨some 136, .call { callee := .value (.func 71), args := #[.const (.int .i64 2), .tmp 117, .tmp 135], argTypes := #[3, 30, 32] }, 51, .always⟩,
 ⟨some 13, .alloc 51, 0, .always⟩,
 ⟨none, .store 51 (.tmp 13) (.tmp 136), 0, .always⟩] [true, true, true, false, false, true, true, true, false, true, true, false, false, true, false, true, false, true, false, true, true, false] [0, 1, 3, 6, 8, 13])
 (.seq (.draw [⟨some 137, .load 30 (.tmp 6), 30, .always⟩,
 ⟨some 138, .move (.tmp 0), 25, .always⟩,
 ⟨some 139, .move (.tmp 1), 27, .always⟩,
 ⟨some 140, .load 30 (.tmp 6), 30, .always⟩,
 ⟨some 141, .move (.tmp 3), 3, .always⟩,
 ⟨some 142, .binOp .sub 3 (.tmp 141) (.const (.int .i64 1)) 3, 3, .always⟩,
 ⟨some 143, .call { callee := .value (.func 23), args := #[.tmp 138, .tmp 139, .tmp 140, .tmp 142], argTypes := #[25, 27, 30, 3] }, 51, .always⟩,
 ⟨some 144, .load 51 (.tmp 13), 51, .always⟩,
 ⟨some 145, .move (.tmp 0), 25, .always⟩,
 ⟨some 146, .move (.tmp 1), 27, .always⟩,
 ⟨some 147, .call { callee := .value (.func 47), args := #[], argTypes := #[] }, 30, .always⟩,
 ⟨some 148, .move (.tmp 3), 3, .always⟩,
 ⟨some 149, .binOp .sub 3 (.tmp 148) (.const (.int .i64 1)) 3, 3, .always⟩,
 ⟨some 150, .call { callee := .value (.func 23), args := #[.tmp 145, .tmp 146, .tmp 147, .tmp 149], argTypes := #[25, 27, 30, 3] }, 51, .always⟩,
 ⟨some 151, .buildSlice 32 3 #[(0, .tmp 143), (1, .tmp 144), (2, .tmp 150)], 32, .always⟩,
 ⟨some 152, .call { callee := .value (.func 71), args := #[.const (.int .i64 9), .tmp 137, .tmp 151], argTypes := #[3, 30, 32] }, 51, .always⟩,
 ⟨none, .store 51 (.tmp 8) (.tmp 152), 0, .always⟩] [true, false, false, false, false, false, true, true, false, false, true, false, false, true, false, false, false] [8])
 (.ret)))
 (.seq (.ops [⟨some 154, .binOp .eql 3 (.tmp 39) (.const (.int .i64 4)) 3, 4, .always⟩,
 ⟨some 153, .assign (.tmp 154), 4, .always⟩] [0, 1, 3, 6, 8, 39, 153])
 (.cond (.tmp 153)
 (.seq (.ops [⟨some 155, .move (.tmp 0), 25, .always⟩,
 ⟨some 156, .call { callee := .value (.func 11), args := #[.tmp 155, .const (.int .i64 0)], argTypes := #[25, 3] }, 30, .always⟩,
 ⟨some 14, .alloc 30, 0, .always⟩,
 ⟨none, .store 30 (.tmp 14) (.tmp 156), 0, .always⟩] [0, 1, 3, 6, 8, 14])
 (.seq (.draw [⟨some 157, .move (.tmp 0), 25, .always⟩,
 ⟨some 158, .move (.tmp 1), 27, .always⟩,
 ⟨some 159, .load 30 (.tmp 14), 30, .always⟩,
 ⟨some 160, .move (.tmp 3), 3, .always⟩,
 ⟨some 161, .binOp .sub 3 (.tmp 160) (.const (.int .i64 1)) 3, 3, .always⟩,
 ⟨some 162, .call { callee := .value (.func 23), args := #[.tmp 157, .tmp 158, .tmp 159, .tmp 161], argTypes := #[25, 27, 30, 3] }, 51, .always⟩,
 ⟨some 163, .move (.tmp 0), 25, .always⟩,
 ⟨some 164, .move (.tmp 1), 27, .always⟩,
 ⟨some 165, .load 30 (.tmp 6), 30, .always⟩,
 ⟨some 166, .move (.tmp 3), 3, .always⟩,
 ⟨some 167, .binOp .sub 3 (.tmp 166) (.const (.int .i64 1)) 3, 3, .always⟩,
 ⟨some 168, .call { callee := .value (.func 23), args := #[.tmp 163, .tmp 164, .tmp 165, .tmp 167], argTypes := #[25, 27, 30, 3] }, 51, .always⟩,
 ⟨some 169, .buildSlice 32 2 #[(0, .tmp 162), (1, .tmp 168)], 32, .always⟩,
 ⟨some 170, .call { callee := .value (.func 70), args := #[.const (.int .i64 10), .tmp 169], argTypes := #[3, 32] }, 51, .always⟩,
 ⟨some 171, .buildSlice 32 1 #[(0, .tmp 170)], 32, .always⟩,
 ⟨some 172, .call { callee := .value (.func 70), args := #[.const (.int .i64 12), .tmp 171], argTypes := #[3, 32] }, 51, .always⟩,
 ⟨none, .store 51 (.tmp 8) (.tmp 172), 0, .always⟩] [false, false, false, false, false, true, false, false, true, false, false, false, false, false, false, false, false] [8])
 (.ret)))
 (.seq (.ops [⟨some 174, .binOp .eql 3 (.tmp 39) (.const (.int .i64 5)) 3, 4, .always⟩,
 ⟨some 173, .assign (.tmp 174), 4, .always⟩] [0, 1, 3, 6, 8, 173])
 (.cond (.tmp 173)
 (.seq (.ops [⟨some 175, .move (.tmp 1), 27, .always⟩,
 ⟨some 176, .call { callee := .builtin .len, args := #[.tmp 175], argTypes := #[27] }, 3, .always⟩,
 ⟨some 177, .move (.const (.int .i64 0)), 3, .always⟩] [0, 1, 3, 6, 8, 176, 177])
 (.block 1
 (.loop
 (.seq (.ops [⟨some 178, .binOp .lss 3 (.tmp 177) (.tmp 176) 3, 0, .always⟩] [0, 1, 3, 6, 8, 176, 177, 178])
 (.seq (.cond (.tmp 178)
 (.skip)
 (.exit 1))
 (.seq (.block 2
 (.seq (.ops [⟨some 179, .move (.tmp 177), 3, .always⟩,
 ⟨some 15, .assign (.tmp 179), 3, .always⟩] [0, 1, 3, 6, 8, 15, 176, 177])
 (.seq (.ops [⟨some 180, .move (.tmp 1), 27, .always⟩,
 ⟨some 181, .move (.tmp 1), 27, .always⟩,
 ⟨some 182, .call { callee := .builtin .len, args := #[.tmp 181], argTypes := #[27] }, 3, .always⟩,
 ⟨some 183, .binOp .sub 3 (.tmp 182) (.const (.int .i64 1)) 3, 3, .always⟩,
 ⟨some 184, .move (.tmp 15), 3, .always⟩,
 ⟨some 185, .binOp .sub 3 (.tmp 183) (.tmp 184) 3, 3, .always⟩,
 ⟨some 186, .indexAddr 27 (.tmp 180) (.tmp 185), 0, .always⟩,
 ⟨some 187, .load 30 (.tmp 186), 30, .always⟩,
 ⟨some 16, .alloc 30, 0, .always⟩,
 ⟨none, .store 30 (.tmp 16) (.tmp 187), 0, .always⟩] [0, 1, 3, 6, 8, 15, 16, 176, 177])
 (.seq (.draw [⟨some 188, .fieldAddr 30 (.tmp 16) 0, 0, .always⟩,
 ⟨some 189, .load 3 (.tmp 188), 3, .always⟩,
 ⟨some 190, .binOp .eql 3 (.tmp 189) (.const (.int .i64 4)) 3, 4, .always⟩,
 ⟨some 191, .move (.tmp 190), 4, .always⟩,
 ⟨some 192, .fieldAddr 30 (.tmp 16) 1, 0, .tmp 191 true⟩,
 ⟨some 193, .load 27 (.tmp 192), 27, .tmp 191 true⟩,
 ⟨some 194, .indexAddr 27 (.tmp 193) (.const (.int .i64 1)), 0, .tmp 191 true⟩,
 ⟨some 195, .load 30 (.tmp 194), 30, .tmp 191 true⟩,
 ⟨some 196, .load 30 (.tmp 6), 30, .tmp 191 true⟩,
 ⟨some 197, .call { callee := .value (.func 16), args := #[.tmp 195, .tmp 196], argTypes := #[30, 30] }, 4, .tmp 191 true⟩,
 ⟨some 198, .pick (.tmp 191) (.tmp 197) (.const (.bool false)), 4, .always⟩] [false, false, false, false, false, false, false, false, false, false, false] [0, 1, 3, 6, 8, 15, 16, 176, 177, 198])
 (.cond (.tmp 198)
 (.seq (.draw [⟨some 199, .move (.tmp 15), 3, .always⟩,
 ⟨some 200, .call { callee := .value (.func 46), args := #[.tmp 199], argTypes := #[3] }, 51, .always⟩,
 ⟨some 201, .move (.tmp 0), 25, .always⟩,
 ⟨some 202, .move (.tmp 1), 27, .always⟩,
 ⟨some 203, .fieldAddr 30 (.tmp 16) 1, 0, .always⟩,
 ⟨some 204, .load 27 (.tmp 203), 27, .always⟩,
 ⟨some 205, .indexAddr 27 (.tmp 204) (.const (.int .i64 0)), 0, .always⟩,
 ⟨some 206, .load 30 (.tmp 205), 30, .always⟩,
 ⟨some 207, .move (.tmp 3), 3, .always⟩,
 ⟨some 208, .binOp .sub 3 (.tmp 207) (.const (.int .i64 1)) 3, 3, .always⟩,
 ⟨some 209, .call { callee := .value (.func 23), args := #[.tmp 201, .tmp 202, .tmp 206, .tmp 208], argTypes := #[25, 27, 30, 3] }, 51, .always⟩,
 ⟨some 210, .buildSlice 32 2 #[(0, .tmp 200), (1, .tmp 209)], 32, .always⟩,
 ⟨some 211, .call { callee := .value (.func 70), args := #[.const (.int .i64 3), .tmp 210], argTypes := #[3, 32] }, 51, .always⟩,
 ⟨none, .store 51 (.tmp 8) (.tmp 211), 0, .always⟩] [false, true, false, false, false, true, false, true, false, false, false, false, false, false] [8])
 (.ret))
 (.skip))))))
 (.ops [⟨some 212, .binOp .add 3 (.tmp 177) (.const (.int .i64 1)) 3, 3, .always⟩,
 ⟨some 177, .move (.tmp 212), 3, .always⟩] [0, 1, 3, 6, 8, 176, 177])))))))
 (.skip)))))))))))))))
 (.skip)))
 (.seq (.seq (.ops [⟨some 213, .fieldAddr 30 (.tmp 6) 0, 0, .always⟩,
 ⟨some 214, .load 3 (.tmp 213), 3, .always⟩] [0, 1, 3, 6, 8, 214])
 (.block 3
 (.seq (.ops [⟨some 216, .binOp .eql 3 (.tmp 214) (.const (.int .i64 1)) 3, 4, .always⟩,
 ⟨some 215, .assign (.tmp 216), 4, .always⟩] [0, 1, 3, 6, 8, 214, 215])
 (.cond (.tmp 215)
 (.seq (.seq (.ops [⟨some 217, .move (.tmp 3), 3, .always⟩,
 ⟨some 218, .binOp .gtr 3 (.tmp 217) (.const (.int .i64 0)) 3, 4, .always⟩] [0, 1, 3, 6, 8, 218])
 (.cond (.tmp 218)
 (.seq (.ops [⟨some 219, .move (.tmp 0), 25, .always⟩,
 ⟨some 220, .call { callee := .value (.func 28), args := #[.tmp 219, .const (.int .i64 5)], argTypes := #[25, 3] }, 3, .always⟩] [0, 1, 3, 6, 8, 220])
 (.block 4
 (.seq (.ops [⟨some 222, .binOp .eql 3 (.tmp 220) (.const (.int .i64 0)) 3, 4, .always⟩,
 ⟨some 221, .assign (.tmp 222), 4, .always⟩] [0, 1, 3, 6, 8, 220, 221])
 (.cond (.tmp 221)
 (.seq (.ops [⟨some 223, .move (.tmp 0), 25, .always⟩,
 ⟨some 224, .move (.tmp 1), 27, .always⟩,
 ⟨some 225, .load 30 (.tmp 6), 30, .always⟩,
 ⟨some 226, .move (.tmp 3), 3, .always⟩,
 ⟨some 227, .binOp .sub 3 (.tmp 226) (.const (.int .i64 1)) 3, 3, .always⟩,
 ⟨some 228, .call { callee := .value (.func 23), args := #[.tmp 223, .tmp 224, .tmp 225, .tmp 227], argTypes := #[25, 27, 30, 3] }, 51, .always⟩,
 ⟨some 229, .buildSlice 32 1 #[(0, .tmp 228)], 32, .always⟩,
 ⟨some 230, .call { callee := .value (.func 70), args := #[.const (.int .i64 5), .tmp 229], argTypes := #[3, 32] }, 51, .always⟩,
 ⟨none, .store 51 (.tmp 8) (.tmp 230), 0, .always⟩] [8])
 (.ret))
 (.seq (.ops [⟨some 232, .binOp .eql 3 (.tmp 220) (.const (.int .i64 1)) 3, 4, .always⟩,
 ⟨some 231, .assign (.tmp 232), 4, .always⟩] [0, 1, 3, 6, 8, 220, 231])
 (.cond (.tmp 231)
 (.seq (.draw [⟨some 233, .call { callee := .value (.func 74), args := #[], argTypes := #[] }, 51, .always⟩,
 ⟨some 234, .move (.tmp 0), 25, .always⟩,
 ⟨some 235, .move (.tmp 1), 27, .always⟩,
 ⟨some 236, .load 30 (.tmp 6), 30, .always⟩,
 ⟨some 237, .move (.tmp 3), 3, .always⟩,
 ⟨some 238, .binOp .sub 3 (.tmp 237) (.const (.int .i64 1)) 3, 3, .always⟩,
 ⟨some 239, .call { callee := .value (.func 23), args := #[.tmp 234, .tmp 235, .tmp 236, .tmp 238], argTypes := #[25, 27, 30, 3] }, 51, .always⟩,
 ⟨some 240, .move (.tmp 0), 25, .always⟩,
 ⟨some 241, .move (.tmp 1), 27, .always⟩,
 ⟨some 242, .load 30 (.tmp 6), 30, .always⟩,
 ⟨some 243, .move (.tmp 3), 3, .always⟩,
 ⟨some 244, .binOp .sub 3 (.tmp 243) (.const (.int .i64 1)) 3, 3, .always⟩,
 ⟨some 245, .call { callee := .value (.func 23), args := #[.tmp 240, .tmp 241, .tmp 242, .tmp 244], argTypes := #[25, 27, 30, 3] }, 51, .always⟩,
 ⟨some 246, .buildSlice 32 2 #[(0, .tmp 239), (1, .tmp 245)], 32, .always⟩,
 ⟨some 247, .call { callee := .value (.func 73), args := #[.tmp 233, .tmp 246], argTypes := #[51, 32] }, 51, .always⟩,
 ⟨none, .store 51 (.tmp 8) (.tmp 247), 0, .always⟩] [true, false, false, true, false, false, true, false, false, true, false, false, false, false, false, false] [8])
 (.ret))
 (.seq (.ops [⟨some 249, .binOp .eql 3 (.tmp 220) (.const (.int .i64 2)) 3, 4, .always⟩,
 ⟨some 248, .assign (.tmp 249), 4, .always⟩] [0, 1, 3, 6, 8, 248])
 (.cond (.tmp 248)
 (.seq (.draw [⟨some 250, .call { callee := .value (.func 75), args := #[], argTypes := #[] }, 51, .always⟩,
 ⟨some 251, .move (.tmp 0), 25, .always⟩,
 ⟨some 252, .move (.tmp 1), 27, .always⟩,
 ⟨some 253, .load 30 (.tmp 6), 30, .always⟩,
 ⟨some 254, .move (.tmp 3), 3, .always⟩,
 ⟨some 255, .binOp .sub 3 (.tmp 254) (.const (.int .i64 1)) 3, 3, .always⟩,
 ⟨some 256, .call { callee := .value (.func 23), args := #[.tmp 251, .tmp 252, .tmp 253, .tmp 255], argTypes := #[25, 27, 30, 3] }, 51, .always⟩,
 ⟨some 257, .move (.tmp 0), 25, .always⟩,
 ⟨some 258, .move (.tmp 1), 27, .always⟩,
 ⟨some 259, .load 30 (.tmp 6), 30, .always⟩,
 ⟨some 260, .move (.tmp 3), 3, .always⟩,
 ⟨some 261, .binOp .sub 3 (.tmp 260) (.const (.int .i64 1)) 3, 3, .always⟩,
 ⟨some 262, .call { callee := .value (.func 23), args := #[.tmp 257, .tmp 258, .tmp 259, .tmp 261], argTypes := #[25, 27, 30, 3] }, 51, .always⟩,
 ⟨some 263, .buildSlice 32 2 #[(0, .tmp 256), (1, .tmp 262)], 32, .always⟩,
 ⟨some 264, .call { callee := .value (.func 73), args := #[.tmp 250, .tmp 263], argTypes := #[51, 32] }, 51, .always⟩,
 ⟨none, .store 51 (.tmp 8) (.tmp 264), 0, .always⟩] [true, false, false, true, false, false, true, false, false, true, false, false, false, false, false, false] [8])
 (.ret))
 (.skip)))))))))
 (.skip)))
 (.seq (.ops [⟨some 265, .move (.tmp 0), 25, .always⟩,
 ⟨some 266, .call { callee := .value (.func 28), args := #[.tmp 265, .const (.int .i64 3)], argTypes := #[25, 3] }, 3, .always⟩,
 ⟨some 267, .call { callee := .value (.func 72), args := #[.tmp 266], argTypes := #[3] }, 51, .always⟩,
 ⟨none, .store 51 (.tmp 8) (.tmp 267), 0, .always⟩] [8])
 (.ret)))
 (.seq (.ops [⟨some 269, .binOp .eql 3 (.tmp 214) (.const (.int .i64 2)) 3, 4, .always⟩,
 ⟨some 268, .assign (.tmp 269), 4, .always⟩] [0, 1, 3, 6, 8, 214, 268])
 (.cond (.tmp 268)
 (.seq (.seq (.ops [⟨some 270, .move (.tmp 3), 3, .always⟩,
 ⟨some 271, .binOp .gtr 3 (.tmp 270) (.const (.int .i64 0)) 3, 4, .always⟩,
 ⟨some 272, .move (.tmp 271), 4, .always⟩,
 ⟨some 273, .move (.tmp 0), 25, .tmp 272 true⟩,
 ⟨some 274, .call { callee := .value (.func 28), args := #[.tmp 273, .const (.int .i64 2)], argTypes := #[25, 3] }, 3, .tmp 272 true⟩,
 ⟨some 275, .binOp .eql 3 (.tmp 274) (.const (.int .i64 0)) 3, 4, .tmp 272 true⟩,
 ⟨some 276, .pick (.tmp 272) (.tmp 275) (.const (.bool false)), 4, .always⟩] [0, 1, 3, 6, 8, 276])
 (.cond (.tmp 276)
 (.seq (.draw [⟨some 277, .move (.tmp 0), 25, .always⟩,
 ⟨some 278, .move (.tmp 1), 27, .always⟩,
 ⟨some 279, .call { callee := .value (.func 27), args := #[], argTypes := #[] }, 30, .always⟩,
 ⟨some 280, .move (.tmp 3), 3, .always⟩,
 ⟨some 281, .binOp .sub 3 (.tmp 280) (.const (.int .i64 1)) 3, 3, .always⟩,
 ⟨some 282, .call { callee := .value (.func 23), args := #[.tmp 277, .tmp 278, .tmp 279, .tmp 281], argTypes := #[25, 27, 30, 3] }, 51, .always⟩,
 ⟨some 283, .move (.tmp 0), 25, .always⟩,
 ⟨some 284, .move (.tmp 1), 27, .always⟩,
 ⟨some 285, .load 30 (.tmp 6), 30, .always⟩,
 ⟨some 286, .move (.tmp 3), 3, .always⟩,
 ⟨some 287, .binOp .sub 3 (.tmp 286) (.const (.int .i64 1)) 3, 3, .always⟩,
 ⟨some 288, .call { callee := .value (.func 23), args := #[.tmp 283, .tmp 284, .tmp 285, .tmp 287], argTypes := #[25, 27, 30, 3] }, 51, .always⟩,
 ⟨some 289, .buildSlice 32 2 #[(0, .tmp 282), (1, .tmp 288)], 32, .always⟩,
 ⟨some 290, .call { callee := .value (.func 70), args := #[.const (.int .i64 8), .tmp 289], argTypes := #[3, 32] }, 51, .always⟩,
 ⟨none, .store 51 (.tmp 8) (.tmp 290), 0, .always⟩] [false, false, true, false, false, true, false, false, true, false, false, false, false, false, false] [8])
 (.ret))
 (.skip)))
 (.seq (.ops [⟨some 291, .call { callee := .value (.func 70), args := #[.const (.int .i64 7), .const (.slice none 0 0)], argTypes := #[3, 32] }, 51, .always⟩,
 ⟨none, .store 51 (.tmp 8) (.tmp 291), 0, .always⟩] [8])
 (.ret)))
 (.seq (.ops [⟨some 293, .binOp .eql 3 (.tmp 214) (.const (.int .i64 3)) 3, 4, .always⟩,
 ⟨some 292, .assign (.tmp 293), 4, .always⟩] [0, 1, 3, 6, 8, 214, 292])
 (.cond (.tmp 292)
 (.seq (.draw [⟨some 294, .move (.tmp 0), 25, .always⟩,
 ⟨some 295, .move (.tmp 1), 27, .always⟩,
 ⟨some 296, .fieldAddr 30 (.tmp 6) 1, 0, .always⟩,
 ⟨some 297, .load 27 (.tmp 296), 27, .always⟩,
 ⟨some 298, .indexAddr 27 (.tmp 297) (.const (.int .i64 0)), 0, .always⟩,
 ⟨some 299, .load 30 (.tmp 298), 30, .always⟩,
 ⟨some 300, .move (.tmp 3), 3, .always⟩,
 ⟨some 301, .binOp .sub 3 (.tmp 300) (.const (.int .i64 1)) 3, 3, .always⟩,
 ⟨some 302, .call { callee := .value (.func 23), args := #[.tmp 294, .tmp 295, .tmp 299, .tmp 301], argTypes := #[25, 27, 30, 3] }, 51, .always⟩,
 ⟨some 303, .move (.tmp 0), 25, .always⟩,
 ⟨some 304, .move (.tmp 1), 27, .always⟩,
 ⟨some 305, .fieldAddr 30 (.tmp 6) 1, 0, .always⟩,
 ⟨some 306, .load 27 (.tmp 305), 27, .always⟩,
 ⟨some 307, .indexAddr 27 (.tmp 306) (.const (.int .i64 1)), 0, .always⟩,
 ⟨some 308, .load 30 (.tmp 307), 30, .always⟩,
 ⟨some 309, .move (.tmp 3), 3, .always⟩,
 ⟨some 310, .binOp .sub 3 (.tmp 309) (.const (.int .i64 1)) 3, 3, .always⟩,
 ⟨some 311, .call { callee := .value (.func 23), args := #[.tmp 303, .tmp 304, .tmp 308, .tmp 310], argTypes := #[25, 27, 30, 3] }, 51, .always⟩,
 ⟨some 312, .buildSlice 32 2 #[(0, .tmp 302), (1, .tmp 311)], 32, .always⟩,
 ⟨some 313, .call { callee := .value (.func 70), args := #[.const (.int .i64 10), .tmp 312], argTypes := #[3, 32] }, 51, .always⟩,
 ⟨none, .store 51 (.tmp 8) (.tmp 313), 0, .always⟩] [false, false, false, false, false, false, false, false, true, false, false, false, true, false, true, false, false, false, false, false, false] [8])
 (.ret))
 (.seq (.ops [⟨some 315, .binOp .eql 3 (.tmp 214) (.const (.int .i64 4)) 3, 4, .always⟩,
 ⟨some 314, .assign (.tmp 315), 4, .always⟩] [0, 1, 3, 6, 8, 314])
 (.cond (.tmp 314)
 (.seq (.draw [⟨some 316, .fieldAddr 30 (.tmp 6) 1, 0, .always⟩,
 ⟨some 317, .load 27 (.tmp 316), 27, .always⟩,
 ⟨some 318, .indexAddr 27 (.tmp 317) (.const (.int .i64 0)), 0, .always⟩,
 ⟨some 319, .load 30 (.tmp 318), 30, .always⟩,
 ⟨some 320, .move (.tmp 0), 25, .always⟩,
 ⟨some 321, .move (.tmp 1), 27, .always⟩,
 ⟨some 322, .fieldAddr 30 (.tmp 6) 1, 0, .always⟩,
 ⟨some 323, .load 27 (.tmp 322), 27, .always⟩,
 ⟨some 324, .indexAddr 27 (.tmp 323) (.const (.int .i64 0)), 0, .always⟩,
 ⟨some 325, .load 30 (.tmp 324), 30, .always⟩,
 ⟨some 326, .buildSlice 27 1 #[(0, .tmp 325)], 27, .always⟩,
 ⟨some 327, .call { callee := .value (.func 51), args := #[.tmp 321, .tmp 326], argTypes := #[27, 27] }, 27, .always⟩,
 ⟨some 328, .fieldAddr 30 (.tmp 6) 1, 0, .always⟩,
 ⟨some 329, .load 27 (.tmp 328), 27, .always⟩,
 ⟨some 330, .indexAddr 27 (.tmp 329) (.const (.int .i64 1)), 0, .always⟩,
 ⟨some 331, .load 30 (.tmp 330), 30, .always⟩,
 ⟨some 332, .move (.tmp 3), 3, .always⟩,
 ⟨some 333, .binOp .sub 3 (.tmp 332) (.const (.int .i64 1)) 3, 3, .always⟩,
 ⟨some 334, .call { callee := .value (.func 23), args := #[.tmp 320, .tmp 327, .tmp 331, .tmp 333], argTypes := #[25, 27, 30, 3] }, 51, .always⟩,
 ⟨some 335, .buildSlice 32 1 #[(0, .tmp 334)], 32, .always⟩,
 ⟨some 336, .call { callee := .value (.func 71), args := #[.const (.int .i64 2), .tmp 319, .tmp 335], argTypes := #[3, 30, 32] }, 51, .always⟩,
 ⟨none, .store 51 (.tmp 8) (.tmp 336), 0, .always⟩] [false, true, false, true, false, false, false, false, false, false, false, true, false, true, false, true, false, false, true, false, false, false] [8])
 (.ret))
 (.skip)))))))))))
 (.seq (.ops [⟨some 337, .call { callee := .value (.func 70), args := #[.const (.int .i64 13), .const (.slice none 0 0)], argTypes := #[3, 32] }, 51, .always⟩,
 ⟨none, .store 51 (.tmp 8) (.tmp 337), 0, .always⟩] [8])
 (.ret))))))
theorem w23 {args : List PV} {σ σ' : List Frm} {r : Ret} (hr : ∀ p, r = .val p → erV p = p) (h : wpP cfg s23 (QEndP cfg [.cell 8 51] σ' r) ⟨initEnv args, fun _ => [], σ, ⟨fun _ => false, 0⟩⟩) : CallsV cfg 23 args σ r σ' :=
 callsV_of_p follows cfgT a23 (fn := Tryz.f23) (c := Tryz.f23.body.getD .skip) (by kernel_rfl) (by kernel_rfl) (by kernel_rfl) (by kernel_rfl) (by kernel_rfl) (sc := s23) (by kernel_rfl) [.cell 8 51] (by kernel_rfl) hr h
def a45 : List Ann := [⟨[2, 3, 4], [], []⟩,
 ⟨[4], [0, 1, 0, 7, 15, 31, 63], [false, true, true, false, false, false, false]⟩]
def s45 : SC := .seq (.ops [⟨some 2, .box 51 (.tmp 0), 0, .always⟩,
 ⟨some 3, .box 51 (.tmp 1), 0, .always⟩,
 ⟨some 4, .alloc 35, 0, .always⟩] [2, 3, 4])
 (.seq (.draw [⟨some 5, .load 51 (.tmp 2), 51, .always⟩,
 ⟨some 6, .call { callee := .value (.func 99), args := #[.tmp 5], argTypes := #[51] }, 51, .always⟩,
 ⟨some 7, .load 51 (.tmp 3), 51, .always⟩,
 ⟨some 8, .call { callee := .value (.func 99), args := #[.tmp 7], argTypes := #[51] }, 51, .always⟩,
 ⟨some 9, .buildSlice 32 2 #[(0, .tmp 6), (1, .tmp 8)], 32, .always⟩,
 ⟨some 10, .build 35 #[(0, .const (.int .i64 1)), (2, .tmp 9)], 35, .always⟩,
 ⟨none, .store 35 (.tmp 4) (.tmp 10), 0, .always⟩] [false, true, true, false, false, false, false] [4])
 (.ret))
theorem w45 {args : List PV} {σ σ' : List Frm} {r : Ret} (hr : ∀ p, r = .val p → erV p = p) (h : wpP cfg s45 (QEndP cfg [.cell 4 35] σ' r) ⟨initEnv args, fun _ => [], σ, ⟨fun _ => false, 0⟩⟩) : CallsV cfg 45 args σ r σ' :=
 callsV_of_p follows cfgT a45 (fn := Tryz.f45) (c := Tryz.f45.body.getD .skip) (by kernel_rfl) (by kernel_rfl) (by kernel_rfl) (by kernel_rfl) (by kernel_rfl) (sc := s45) (by kernel_rfl) [.cell 4 35] (by kernel_rfl) hr h
def a20 : List Ann := [⟨[0, 1, 2, 6], [], []⟩,
 ⟨[0, 1, 2, 6, 12], [], []⟩,
 ⟨[0, 1, 2, 6, 14], [], []⟩,
 ⟨[0, 1, 2, 6, 14, 15], [], []⟩,
 ⟨[6], [], []⟩,
 ⟨[0, 1, 2, 6, 14, 28], [], []⟩,
 ⟨[0, 1, 2, 6, 14, 28], [], []⟩,
 ⟨[6], [], []⟩,
 ⟨[0, 1, 2, 6, 14, 42], [], []⟩,
 ⟨[0, 1, 2, 6, 14, 42], [], []⟩,
 ⟨[0, 1, 2, 6, 7], [], []⟩,
 ⟨[6], [0, 0, 0, 0, 8, 28, 0, 64, 254, 511, 1023], [true, false, false, false, false, true, false, false, true, false, false]⟩,
 ⟨[0, 1, 2, 6, 14, 57], [], []⟩,
 ⟨[0, 1, 2, 6, 8], [], []⟩,
 ⟨[6], [0, 0, 0, 0, 8, 28, 0, 64, 254, 511, 1023], [true, false, false, false, false, true, false, false, true, false, false]⟩,
 ⟨[0, 1, 2, 6, 71], [], []⟩,
 ⟨[0, 1, 2, 6, 9], [], []⟩,
 ⟨[6], [0, 1, 3, 0, 0, 0, 0, 64, 227, 0, 512, 2035, 4095, 8191], [false, true, false, true, false, false, true, false, true, false, false, true, false, false]⟩,
 ⟨[0, 1, 6, 10], [], []⟩,
 ⟨[6], [0, 0, 0, 7, 0, 0, 0, 127, 255, 511], [false, false, false, true, false, false, true, false, false, false]⟩]
def s20 : SC := .seq (.ops [⟨some 6, .alloc 35, 0, .always⟩] [0, 1, 2, 6])
 (.seq (.seq (.ops [⟨some 11, .move (.tmp 2), 3, .always⟩,
 ⟨some 12, .binOp .gtr 3 (.tmp 11) (.const (.int .i64 0)) 3, 4, .always⟩] [0, 1, 2, 6, 12])
 (.cond (.tmp 12)
 (.seq (.ops [⟨some 13, .move (.tmp 0), 25, .always⟩,
 ⟨some 14, .call { callee := .value (.func 28), args := #[.tmp 13, .const (.int .i64 9)], argTypes := #[25, 3] }, 3, .always⟩] [0, 1, 2, 6, 14])
 (.block 0
 (.seq (.ops [⟨some 16, .binOp .eql 3 (.tmp 14) (.const (.int .i64 0)) 3, 4, .always⟩,
 ⟨some 15, .assign (.tmp 16), 4, .always⟩] [0, 1, 2, 6, 14, 15])
 (.cond (.tmp 15)
 (.seq (.ops [⟨some 17, .move (.tmp 0), 25, .always⟩,
 ⟨some 18, .move (.tmp 1), 27, .always⟩,
 ⟨some 19, .move (.tmp 2), 3, .always⟩,
 ⟨some 20, .binOp .sub 3 (.tmp 19) (.const (.int .i64 1)) 3, 3, .always⟩,
 ⟨some 21, .call { callee := .value (.func 20), args := #[.tmp 17, .tmp 18, .tmp 20], argTypes := #[25, 27, 3] }, 35, .always⟩,
 ⟨some 22, .move (.tmp 0), 25, .always⟩,
 ⟨some 23, .move (.tmp 1), 27, .always⟩,
 ⟨some 24, .move (.tmp 2), 3, .always⟩,
 ⟨some 25, .binOp .sub 3 (.tmp 24) (.const (.int .i64 1)) 3, 3, .always⟩,
 ⟨some 26, .call { callee := .value (.func 20), args := #[.tmp 22, .tmp 23, .tmp 25], argTypes := #[25, 27, 3] }, 35, .always⟩,
 ⟨some 27, .call { callee := .value (.func 19), args := #[.const (.int .i64 2), .tmp 21, .tmp 26], argTypes := #[3, 35, 35] }, 35, .always⟩,
 ⟨none, .store 35 (.tmp 6) (.tmp 27), 0, .always⟩] [6])
 (.ret))
 (.seq (.seq (.ops [⟨some 29, .binOp .eql 3 (.tmp 14) (.const (.int .i64 1)) 3, 4, .always⟩,
 ⟨some 28, .assign (.tmp 29), 4, .always⟩] [0, 1, 2, 6, 14, 28])
 (.cond (.tmp 28)
 (.skip)
 (.ops [⟨some 30, .binOp .eql 3 (.tmp 14) (.const (.int .i64 2)) 3, 4, .always⟩,
 ⟨some 28, .assign (.tmp 30), 4, .always⟩] [0, 1, 2, 6, 14, 28])))
 (.cond (.tmp 28)
 (.seq (.ops [⟨some 31, .move (.tmp 0), 25, .always⟩,
 ⟨some 32, .move (.tmp 1), 27, .always⟩,
 ⟨some 33, .move (.tmp 2), 3, .always⟩,
 ⟨some 34, .binOp .sub 3 (.tmp 33) (.const (.int .i64 1)) 3, 3, .always⟩,
 ⟨some 35, .call { callee := .value (.func 20), args := #[.tmp 31, .tmp 32, .tmp 34], argTypes := #[25, 27, 3] }, 35, .always⟩,
 ⟨some 36, .move (.tmp 0), 25, .always⟩,
 ⟨some 37, .move (.tmp 1), 27, .always⟩,
 ⟨some 38, .move (.tmp 2), 3, .always⟩,
 ⟨some 39, .binOp .sub 3 (.tmp 38) (.const (.int .i64 1)) 3, 3, .always⟩,
 ⟨some 40, .call { callee := .value (.func 20), args := #[.tmp 36, .tmp 37, .tmp 39], argTypes := #[25, 27, 3] }, 35, .always⟩,
 ⟨some 41, .call { callee := .value (.func 19), args := #[.const (.int .i64 3), .tmp 35, .tmp 40], argTypes := #[3, 35, 35] }, 35, .always⟩,
 ⟨none, .store 35 (.tmp 6) (.tmp 41), 0, .always⟩] [6])
 (.ret))
 (.seq (.seq (.ops [⟨some 43, .binOp .eql 3 (.tmp 14) (.const (.int .i64 3)) 3, 4, .always⟩,
 ⟨some 42, .assign (.tmp 43), 4, .always⟩] [0, 1, 2, 6, 14, 42])
 (.cond (.tmp 42)
 (.skip)
 (.ops [⟨some 44, .binOp .eql 3 (.tmp 14) (.const (.int .i64 4)) 3, 4, .always⟩,
 ⟨some 42, .assign (.tmp 44), 4, .always⟩] [0, 1, 2, 6, 14, 42])))
 (.cond (.tmp 42)
 (.seq (.ops [⟨some 45, .move (.tmp 0), 25, .always⟩,
 ⟨some 46, .call { callee := .value (.func 11), args := #[.tmp 45, .const (.int .i64 1)], argTypes := #[25, 3] }, 30, .always⟩,
 ⟨some 7, .alloc 30, 0, .always⟩,
 ⟨none, .store 30 (.tmp 7) (.tmp 46), 0, .always⟩] [0, 1, 2, 6, 7])
 (.seq (.draw [⟨some 47, .load 30 (.tmp 7), 30, .always⟩,
 ⟨some 48, .move (.tmp 0), 25, .always⟩,
 ⟨some 49, .move (.tmp 1), 27, .always⟩,
 ⟨some 50, .load 30 (.tmp 7), 30, .always⟩,
 ⟨some 51, .buildSlice 27 1 #[(0, .tmp 50)], 27, .always⟩,
 ⟨some 52, .call { callee := .value (.func 51), args := #[.tmp 49, .tmp 51], argTypes := #[27, 27] }, 27, .always⟩,
 ⟨some 53, .move (.tmp 2), 3, .always⟩,
 ⟨some 54, .binOp .sub 3 (.tmp 53) (.const (.int .i64 1)) 3, 3, .always⟩,
 ⟨some 55, .call { callee := .value (.func 20), args := #[.tmp 48, .tmp 52, .tmp 54], argTypes := #[25, 27, 3] }, 35, .always⟩,
 ⟨some 56, .call { callee := .value (.func 13), args := #[.const (.int .i64 4), .tmp 47, .tmp 55], argTypes := #[3, 30, 35] }, 35, .always⟩,
 ⟨none, .store 35 (.tmp 6) (.tmp 56), 0, .always⟩] [true, false, false, false, false, true, false, false, true, false, false] [6])
 (.ret)))
 (.seq (.ops [⟨some 58, .binOp .eql 3 (.tmp 14) (.const (.int .i64 5)) 3, 4, .always⟩,
 ⟨some 57, .assign (.tmp 58), 4, .always⟩] [0, 1, 2, 6, 14, 57])
 (.cond (.tmp 57)
 (.seq (.ops [⟨some 59, .move (.tmp 0), 25, .always⟩,
 ⟨some 60, .call { callee := .value (.func 11), args := #[.tmp 59, .const (.int .i64 1)], argTypes := #[25, 3] }, 30, .always⟩,
 ⟨some 8, .alloc 30, 0, .always⟩,
 ⟨none, .store 30 (.tmp 8) (.tmp 60), 0, .always⟩] [0, 1, 2, 6, 8])
 (.seq (.draw [⟨some 61, .load 30 (.tmp 8), 30, .always⟩,
 ⟨some 62, .move (.tmp 0), 25, .always⟩,
 ⟨some 63, .move (.tmp 1), 27, .always⟩,
 ⟨some 64, .load 30 (.tmp 8), 30, .always⟩,
 ⟨some 65, .buildSlice 27 1 #[(0, .tmp 64)], 27, .always⟩,
 ⟨some 66, .call { callee := .value (.func 51), args := #[.tmp 63, .tmp 65], argTypes := #[27, 27] }, 27, .always⟩,
 ⟨some 67, .move (.tmp 2), 3, .always⟩,
 ⟨some 68, .binOp .sub 3 (.tmp 67) (.const (.int .i64 1)) 3, 3, .always⟩,
 ⟨some 69, .call { callee := .value (.func 20), args := #[.tmp 62, .tmp 66, .tmp 68], argTypes := #[25, 27, 3] }, 35, .always⟩,
 ⟨some 70, .call { callee := .value (.func 13), args := #[.const (.int .i64 5), .tmp 61, .tmp 69], argTypes := #[3, 30, 35] }, 35, .always⟩,
 ⟨none, .store 35 (.tmp 6) (.tmp 70), 0, .always⟩] [true, false, false, false, false, true, false, false, true, false, false] [6])
 (.ret)))
 (.seq (.ops [⟨some 72, .binOp .eql 3 (.tmp 14) (.const (.int .i64 6)) 3, 4, .always⟩,
 ⟨some 71, .assign (.tmp 72), 4, .always⟩] [0, 1, 2, 6, 71])
 (.cond (.tmp 71)
 (.seq (.ops [⟨some 73, .move (.tmp 0), 25, .always⟩,
 ⟨some 74, .call { callee := .value (.func 11), args := #[.tmp 73, .const (.int .i64 0)], argTypes := #[25, 3] }, 30, .always⟩,
 ⟨some 9, .alloc 30, 0, .always⟩,
 ⟨none, .store 30 (.tmp 9) (.tmp 74), 0, .always⟩] [0, 1, 2, 6, 9])
 (.seq (.draw [⟨some 75, .move (.tmp 0), 25, .always⟩,
 ⟨some 76, .call { callee := .value (.func 28), args := #[.tmp 75, .const (.int .i64 2)], argTypes := #[25, 3] }, 3, .always⟩,
 ⟨some 77, .binOp .add 3 (.const (.int .i64 6)) (.tmp 76) 3, 3, .always⟩,
 ⟨some 78, .load 30 (.tmp 9), 30, .always⟩,
 ⟨some 79, .move (.tmp 0), 25, .always⟩,
 ⟨some 80, .move (.tmp 1), 27, .always⟩,
 ⟨some 81, .load 30 (.tmp 9), 30, .always⟩,
 ⟨some 82, .buildSlice 27 1 #[(0, .tmp 81)], 27, .always⟩,
 ⟨some 83, .call { callee := .value (.func 51), args := #[.tmp 80, .tmp 82], argTypes := #[27, 27] }, 27, .always⟩,
 ⟨some 84, .move (.tmp 2), 3, .always⟩,
 ⟨some 85, .binOp .sub 3 (.tmp 84) (.const (.int .i64 1)) 3, 3, .always⟩,
 ⟨some 86, .call { callee := .value (.func 20), args := #[.tmp 79, .tmp 83, .tmp 85], argTypes := #[25, 27, 3] }, 35, .always⟩,
 ⟨some 87, .call { callee := .value (.func 13), args := #[.tmp 77, .tmp 78, .tmp 86], argTypes := #[3, 30, 35] }, 35, .always⟩,
 ⟨none, .store 35 (.tmp 6) (.tmp 87), 0, .always⟩] [false, true, false, true, false, false, true, false, true, false, false, true, false, false] [6])
 (.ret)))
 (.skip)))))))))))))
 (.skip)))
 (.seq (.ops [⟨some 88, .call { callee := .value (.func 27), args := #[], argTypes := #[] }, 30, .always⟩,
 ⟨some 10, .alloc 30, 0, .always⟩,
 ⟨none, .store 30 (.tmp 10) (.tmp 88), 0, .always⟩] [0, 1, 6, 10])
 (.seq (.draw [⟨some 89, .move (.tmp 0), 25, .always⟩,
 ⟨some 90, .move (.tmp 1), 27, .always⟩,
 ⟨some 91, .load 30 (.tmp 10), 30, .always⟩,
 ⟨some 92, .call { callee := .value (.func 23), args := #[.tmp 89, .tmp 90, .tmp 91, .const (.int .i64 1)], argTypes := #[25, 27, 30, 3] }, 51, .always⟩,
 ⟨some 93, .move (.tmp 0), 25, .always⟩,
 ⟨some 94, .move (.tmp 1), 27, .always⟩,
 ⟨some 95, .load 30 (.tmp 10), 30, .always⟩,
 ⟨some 96, .call { callee := .value (.func 23), args := #[.tmp 93, .tmp 94, .tmp 95, .const (.int .i64 1)], argTypes := #[25, 27, 30, 3] }, 51, .always⟩,
 ⟨some 97, .call { callee := .value (.func 45), args := #[.tmp 92, .tmp 96], argTypes := #[51, 51] }, 35, .always⟩,
 ⟨none, .store 35 (.tmp 6) (.tmp 97), 0, .always⟩] [false, false, false, true, false, false, true, false, false, false] [6])
 (.ret))))
theorem w20 {args : List PV} {σ σ' : List Frm} {r : Ret} (hr : ∀ p, r = .val p → erV p = p) (h : wpP cfg s20 (QEndP cfg [.cell 6 35] σ' r) ⟨initEnv args, fun _ => [], σ, ⟨fun _ => false, 0⟩⟩) : CallsV cfg 20 args σ r σ' :=
 callsV_of_p follows cfgT a20 (fn := Tryz.f20) (c := Tryz.f20.body.getD .skip) (by kernel_rfl) (by kernel_rfl) (by kernel_rfl) (by kernel_rfl) (by kernel_rfl) (sc := s20) (by kernel_rfl) [.cell 6 35] (by kernel_rfl) hr h
def a10 : List Ann := [⟨[0], [], []⟩,
 ⟨[0, 3], [], []⟩,
 ⟨[0, 3, 4], [], []⟩,
 ⟨[0, 3, 4, 8], [], []⟩,
 ⟨[0, 3, 4], [], []⟩,
 ⟨[0, 3, 4], [], []⟩,
 ⟨[2], [], []⟩]
def s10 : SC := .seq (.ops [⟨some 2, .assign (.const (.slice none 0 0)), 27, .always⟩] [0])
 (.seq (.ops [⟨some 3, .assign (.const (.slice none 0 0)), 27, .always⟩] [0, 3])
 (.seq (.seq (.ops [⟨some 5, .move (.tmp 0), 25, .always⟩,
 ⟨some 6, .call { callee := .value (.func 28), args := #[.tmp 5, .const (.int .i64 4)], argTypes := #[25, 3] }, 3, .always⟩,
 ⟨some 4, .assign (.tmp 6), 3, .always⟩] [0, 3, 4])
 (.block 0
 (.loop
 (.seq (.seq (.ops [⟨some 7, .move (.tmp 4), 3, .always⟩,
 ⟨some 8, .binOp .gtr 3 (.tmp 7) (.const (.int .i64 0)) 3, 4, .always⟩] [0, 3, 4, 8])
 (.cond (.tmp 8)
 (.skip)
 (.exit 0)))
 (.seq (.block 1
 (.ops [⟨some 11, .move (.tmp 3), 27, .always⟩,
 ⟨some 12, .move (.tmp 0), 25, .always⟩,
 ⟨some 13, .call { callee := .value (.func 11), args := #[.tmp 12, .const (.int .i64 1)], argTypes := #[25, 3] }, 30, .always⟩,
 ⟨some 14, .buildSlice 27 1 #[(0, .tmp 13)], 27, .always⟩,
 ⟨some 15, .call { callee := .builtin .append, args := #[.tmp 11, .tmp 14], argTypes := #[27, 27] }, 27, .always⟩,
 ⟨some 3, .assign (.tmp 15), 27, .always⟩] [0, 3, 4]))
 (.ops [⟨some 9, .move (.tmp 4), 3, .always⟩,
 ⟨some 10, .binOp .sub 3 (.tmp 9) (.const (.int .i64 1)) 3, 3, .always⟩,
 ⟨some 4, .assign (.tmp 10), 3, .always⟩] [0, 3, 4]))))))
 (.seq (.ops [⟨some 16, .move (.tmp 3), 27, .always⟩,
 ⟨some 2, .assign (.tmp 16), 27, .always⟩] [2])
 (.ret))))
theorem w10 {args : List PV} {σ σ' : List Frm} {r : Ret} (hr : ∀ p, r = .val p → erV p = p) (h : wpP cfg s10 (QEndP cfg [.tmp 2] σ' r) ⟨initEnv args, fun _ => [], σ, ⟨fun _ => false, 0⟩⟩) : CallsV cfg 10 args σ r σ' :=
 callsV_of_p follows cfgT a10 (fn := Tryz.f10) (c := Tryz.f10.body.getD .skip) (by kernel_rfl) (by kernel_rfl) (by kernel_rfl) (by kernel_rfl) (by kernel_rfl) (sc := s10) (by kernel_rfl) [.tmp 2] (by kernel_rfl) hr h
end
end Go.Proofs.YtcgmhnlmgomlgaaGreatDoor.V
