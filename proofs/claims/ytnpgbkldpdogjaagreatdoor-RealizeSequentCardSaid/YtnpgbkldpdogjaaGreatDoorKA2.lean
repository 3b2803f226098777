/-
Parts of the proof of one law, put together by program: part 2.
-/
import Derived.Test.YtnpgbkldpdogjaaGreatDoorKA1
import Derived.IntWalk
import Derived.Test.YtnpgbkldpdogjaaGreatDoorRows
set_option linter.unusedSimpArgs false
set_option linter.unusedVariables false
namespace Go.Proofs.YtnpgbkldpdogjaaGreatDoor.V
open Go
def seqK (C : Cfg) (b : SC) (Q : Ex → St → Prop) : Ex → St → Prop := fun e s => match e with
  | .normal => wpS C b Q s
  | e => Q e s
def nextK (Q : Ex → St → Prop) (keep : List Nat) : St → Prop := fun s => Q .normal (keepE s keep)
section
variable {C : Cfg} {Q : Ex → St → Prop} {K : St → Prop} {st : St}
theorem wpS_seq {a b : SC} : wpS C (.seq a b) Q st = wpS C a (seqK C b Q) st := rfl
theorem wpS_skip : wpS C .skip Q st = Q .normal st := rfl
theorem wpS_exit {id : Nat} : wpS C (.exit id) Q st = Q (.exit id) st := rfl
theorem wpS_block {id : Nat} {c : SC} : wpS C (.block id c) Q st = wpS C c (blockEx id Q) st := rfl
@[simp] theorem seqK_normal {b : SC} : seqK C b Q .normal st = wpS C b Q st := rfl
@[simp] theorem seqK_exit {b : SC} {id : Nat} : seqK C b Q (.exit id) st = Q (.exit id) st := rfl
@[simp] theorem seqK_ret {b : SC} : seqK C b Q .ret st = Q .ret st := rfl
@[simp] theorem nextK_eq {keep : List Nat} : nextK Q keep st = Q .normal (keepE st keep) := rfl
@[simp] theorem keepE_eq {keep : List Nat} {env : Nat → PV} {loc : Frm} {σ : List Frm} {live : Live} : keepE ⟨env, loc, σ, live⟩ keep = ⟨mkE (keep.map fun k => (k, env k)), loc, σ, live⟩ := rfl
@[simp] theorem blockEx_normal {id : Nat} : blockEx id Q .normal st = Q .normal st := rfl
@[simp] theorem blockEx_ret {id : Nat} : blockEx id Q .ret st = Q .ret st := rfl
@[simp] theorem blockEx_exit {id i : Nat} : blockEx id Q (.exit i) st = if i = id then Q .normal st else Q (.exit i) st := rfl
theorem opsS_guard {dst : Option Nat} {op : Op} {ty : TypeId} {t : Nat} {want : Bool} {l : List SOp} : opsS C K (⟨dst, op, ty, .tmp t want⟩ :: l) st = ∃ b, gB (st.env t) = some b ∧ if b = some want then opV C ⟨dst, op, ty, "", #[], none⟩ (opsS C K l) st else opsS C K l (put st dst .gone) := rfl
variable {W : Nat → Nat → Nat → Bool} {vs : Nat → Nat}
theorem opsSD_nil {fl : List Bool} : opsSD C W vs K fl [] st = K st := by simp [opsSD]
theorem opsSD_cons {fr : Bool} {fl : List Bool} {dst : Option Nat} {op : Op} {ty : TypeId} {l : List SOp} : opsSD C W vs K (fr :: fl) (⟨dst, op, ty, .always⟩ :: l) st = stepD C W vs fr ⟨dst, op, ty, "", #[], none⟩ (opsSD C W vs K fl l) st := rfl
theorem opsSD_guard {fr : Bool} {fl : List Bool} {dst : Option Nat} {op : Op} {ty : TypeId} {t : Nat} {want : Bool} {l : List SOp} : opsSD C W vs K (fr :: fl) (⟨dst, op, ty, .tmp t want⟩ :: l) st = ∃ b, gB (st.env t) = some b ∧ if b = some want then stepD C W vs fr ⟨dst, op, ty, "", #[], none⟩ (opsSD C W vs K fl l) st else opsSD C W vs K fl l (put st dst .gone) := rfl
@[simp] theorem put_some {d : Nat} {v : PV} {env : Nat → PV} {loc : Frm} {σ : List Frm} {live : Live} : put ⟨env, loc, σ, live⟩ (some d) v = ⟨upd env d v, loc, σ, live⟩ := rfl
@[simp] theorem put_none {v : PV} : put st none v = st := rfl
@[simp] theorem upd_eq {α : Type} (f : Nat → α) (k : Nat) (v : α) (j : Nat) : upd f k v j = if j = k then v else f j := rfl
@[simp] theorem mkE_nil (t : Nat) : mkE [] t = .undef := rfl
@[simp] theorem mkE_cons (k : Nat) (v : PV) (l : List (Nat × PV)) (t : Nat) : mkE ((k, v) :: l) t = if t = k then v else mkE l t := rfl
@[simp] theorem oper_tmp {env : Nat → PV} {t : Nat} : oper C env (.tmp t) = env t := rfl
@[simp] theorem oper_int {env : Nat → PV} {k : IntKind} {n : Int} : oper C env (.const (.int k n)) = .one (.int k n) := rfl
@[simp] theorem oper_bool {env : Nat → PV} {b : Bool} : oper C env (.const (.bool b)) = .one (.bool b) := rfl
@[simp] theorem oper_func {env : Nat → PV} {f : Nat} : oper C env (.func f) = .one (.func f []) := rfl
@[simp] theorem oper_nilslice {env : Nat → PV} : oper C env (.const (.slice none 0 0)) = .one (.slice .full 0 []) := rfl
@[simp] theorem operT_tmp {env : Nat → PV} {ty : TypeId} {t : Nat} : operT C env ty (.tmp t) = env t := rfl
@[simp] theorem operT_int {env : Nat → PV} {ty : TypeId} {k : IntKind} {n : Int} : operT C env ty (.const (.int k n)) = .one (.int k n) := rfl
@[simp] theorem operT_bool {env : Nat → PV} {ty : TypeId} {b : Bool} : operT C env ty (.const (.bool b)) = .one (.bool b) := rfl
@[simp] theorem operT_func {env : Nat → PV} {ty : TypeId} {f : Nat} : operT C env ty (.func f) = .one (.func f []) := rfl
@[simp] theorem operT_nil {env : Nat → PV} {ty : TypeId} : operT C env ty (.const (.slice none 0 0)) = .one (.slice .full (esize C ty) []) := rfl
@[simp] theorem argsT_nil {env : Nat → PV} {ts : List TypeId} : argsT C env ts [] = [] := by cases ts <;> rfl
@[simp] theorem argsT_cons {env : Nat → PV} {t : TypeId} {ts : List TypeId} {x : Operand} {xs : List Operand} : argsT C env (t :: ts) (x :: xs) = erV (operT C env t x) :: argsT C env ts xs := rfl
section
variable {dst : Option Nat} {ty : TypeId} {p : String} {af : Array Edge} {g : Option (Nat × Bool)}
theorem opV_move {x : Operand} : opV C ⟨dst, .move x, ty, p, af, g⟩ K st = K (put st dst (operT C st.env ty x)) := by simp [opV, opR]
theorem opV_assign {x : Operand} : opV C ⟨dst, .assign x, ty, p, af, g⟩ K st = K (put st dst (operT C st.env ty x)) := by simp [opV, opR]
theorem opV_pick {c a b : Operand} : opV C ⟨dst, .pick c a b, ty, p, af, g⟩ K st = ∃ t, oper C st.env c = .one (.bool t) ∧ K (put st dst (if t = true then oper C st.env a else oper C st.env b)) := by
  simp only [opV, opR, eq_iff_iff]
  constructor
  · rintro ⟨r, ⟨t, h1, rfl⟩, h2⟩; exact ⟨t, h1, h2⟩
  · rintro ⟨t, h1, h2⟩; exact ⟨_, ⟨t, h1, rfl⟩, h2⟩
theorem opV_bin {op : BinOp} {xt yt : TypeId} {x y : Operand} : opV C ⟨dst, .binOp op xt x y yt, ty, p, af, g⟩ K st = ∃ r, binR C op xt (oper C st.env x) (oper C st.env y) r ∧ K (put st dst r) := by simp [opV, opR]
theorem opV_not {xt : TypeId} {x : Operand} : opV C ⟨dst, .unOp .not xt x, ty, p, af, g⟩ K st = ∃ b, oper C st.env x = .one (.bool b) ∧ K (put st dst (.one (.bool (!b)))) := by
  simp only [opV, opR, eq_iff_iff]
  constructor
  · rintro ⟨r, ⟨t, h1, rfl⟩, h2⟩; exact ⟨t, h1, h2⟩
  · rintro ⟨t, h1, h2⟩; exact ⟨_, ⟨t, h1, rfl⟩, h2⟩
theorem opV_extract {x : Operand} {i : Nat} : opV C ⟨dst, .extract x i, ty, p, af, g⟩ K st = ∃ vs v, oper C st.env x = .tup vs ∧ vs[i]? = some v ∧ K (put st dst (erV v)) := by
  simp only [opV, opR, eq_iff_iff]
  constructor
  · rintro ⟨r, ⟨vs, v, h1, h3, rfl⟩, h2⟩; exact ⟨vs, v, h1, h3, h2⟩
  · rintro ⟨vs, v, h1, h3, h2⟩; exact ⟨_, ⟨vs, v, h1, h3, rfl⟩, h2⟩
theorem opV_field {s : TypeId} {x : Operand} {f : Nat} : opV C ⟨dst, .fieldAddr s x f, ty, p, af, g⟩ K st = ∃ r, (∃ d fs q, C.T s = some d ∧ d.k = .struct fs ∧ fs[f]? = some q ∧ 0 < q.2 ∧ addrP (oper C st.env x) q.1 = some r) ∧ K (put st dst r) := by simp [opV, opR]
theorem opV_index {t : TypeId} {x i : Operand} : opV C ⟨dst, .indexAddr t x i, ty, p, af, g⟩ K st = ∃ r, opR C st.env ty (.indexAddr t x i) r ∧ K (put st dst r) := by simp [opV]
theorem opV_build {t : TypeId} {parts : Array (Nat × Operand)} : opV C ⟨dst, .build t parts, ty, p, af, g⟩ K st = ∃ d fs cs, C.T t = some d ∧ d.k = .struct fs ∧ fillC fs d.zero (parts.toList.map fun q => (q.1, oper C st.env q.2)) = some cs ∧ K (put st dst (.agg cs)) := by
  simp only [opV, opR, eq_iff_iff]
  constructor
  · rintro ⟨r, ⟨d, fs, cs, h1, h3, h4, rfl⟩, h2⟩; exact ⟨d, fs, cs, h1, h3, h4, h2⟩
  · rintro ⟨d, fs, cs, h1, h3, h4, h2⟩; exact ⟨_, ⟨d, fs, cs, h1, h3, h4, rfl⟩, h2⟩
theorem opV_buildSlice {t : TypeId} {n : Nat} {parts : Array (Nat × Operand)} : opV C ⟨dst, .buildSlice t n parts, ty, p, af, g⟩ K st = ∃ d e de es, C.T t = some d ∧ d.k = .slice e ∧ C.T e = some de ∧ elemsOf 0 (parts.toList.map fun q => (q.1, oper C st.env q.2)) = some es ∧ es.length = n ∧
      (∀ x ∈ es, x.length = de.size) ∧ n * de.size ≤ 16777216 ∧ K (put st dst (.one (.slice .full de.size es))) := by
  simp only [opV, opR, eq_iff_iff]
  constructor
  · rintro ⟨r, ⟨d, e, de, es, h1, h3, h4, h5, h6, h7, h8, rfl⟩, h2⟩; exact ⟨d, e, de, es, h1, h3, h4, h5, h6, h7, h8, h2⟩
  · rintro ⟨d, e, de, es, h1, h3, h4, h5, h6, h7, h8, h2⟩; exact ⟨_, ⟨d, e, de, es, h1, h3, h4, h5, h6, h7, h8, rfl⟩, h2⟩
theorem opV_load {t : TypeId} {x : Operand} : opV C ⟨dst, .load t x, ty, p, af, g⟩ K st = ∃ r, loadR C st t (oper C st.env x) r ∧ K (put st dst r) := by simp [opV]
theorem opV_alloc {d : Nat} {t : TypeId} : opV C ⟨some d, .alloc t, ty, p, af, g⟩ K st = ∃ td, C.T t = some td ∧ K { st with loc := upd st.loc d (st.loc d ++ [td.zero]), env := upd st.env d (.one (.box st.σ.length d (st.loc d).length 0)) } := by
  simp only [opV, eq_iff_iff]
  constructor
  · rintro ⟨td, d', h1, h2, h3⟩; cases h2; exact ⟨td, h1, h3⟩
  · rintro ⟨td, h1, h3⟩; exact ⟨td, d, h1, rfl, h3⟩
theorem opV_box {d : Nat} {t : TypeId} {x : Operand} : opV C ⟨some d, .box t x, ty, p, af, g⟩ K st = ∃ td cs, C.T t = some td ∧ (oper C st.env x).cells = some cs ∧ cs.length = td.size ∧ K { st with loc := upd st.loc d (st.loc d ++ [cs]), env := upd st.env d (.one (.box st.σ.length d (st.loc d).length 0)) } := by
  simp only [opV, eq_iff_iff]
  constructor
  · rintro ⟨td, d', cs, h1, h2, h3, h4, h5⟩; cases h2; exact ⟨td, cs, h1, h3, h4, h5⟩
  · rintro ⟨td, cs, h1, h3, h4, h5⟩; exact ⟨td, d, cs, h1, rfl, h3, h4, h5⟩
theorem opV_store {t : TypeId} {x y : Operand} : opV C ⟨dst, .store t x y, ty, p, af, g⟩ K st = ∃ d fd tt v off cs ns, C.T t = some d ∧ oper C st.env x = .one (.box fd tt v off) ∧ readBox st fd tt v = some cs ∧ (operT C st.env t y).cells = some ns ∧ ns.length = d.size ∧ off + ns.length ≤ cs.length ∧
      (fd = st.σ.length ∨ flatL ns = true) ∧ K (put (writeBox st fd tt v off ns) dst .undef) := rfl
theorem opV_call {f : Nat} {xs : Array Operand} {ts : Array TypeId} {v : PV} {ps : List PV} (h : CallsV C f ps (st.σ ++ [st.loc]) (.val v) (st.σ ++ [st.loc])) (ha : argsT C st.env ts.toList xs.toList = ps) (hk : K (put st dst v)) : opV C ⟨dst, .call ⟨.value (.func f), xs, ts⟩, ty, p, af, g⟩ K st := by
  simp only [opV, CallV]
  refine ⟨f, [], .val v, _, st.σ, st.loc, rfl, ?_, rfl, rfl, hk⟩
  rw [ha]
  simpa using h
end
end
@[simp] theorem modify_concat {α : Type} (l : List α) (x : α) (f : α → α) : (l ++ [x]).modify l.length f = l ++ [f x] := by
  induction l with
  | nil => rfl
  | cons y l ih => simp only [List.cons_append, List.length_cons, List.modify_succ_cons, ih]
@[simp] theorem readBox_loc {env : Nat → PV} {loc : Frm} {σ : List Frm} {live : Live} {tt v : Nat} : readBox ⟨env, loc, σ, live⟩ σ.length tt v = (loc tt)[v]? := by simp [readBox]
@[simp] theorem writeBox_loc {env : Nat → PV} {loc : Frm} {σ : List Frm} {live : Live} {tt v off : Nat} {ns : List Cell} : writeBox ⟨env, loc, σ, live⟩ σ.length tt v off ns = ⟨env, upd loc tt ((loc tt).modify v fun cs => splice cs off ns), σ, live⟩ := by simp [writeBox]
inductive Ty where
  | mk (kind : Int) (args : List Ty)
def Ty.kind : Ty → Int | .mk k _ => k
def Ty.args : Ty → List Ty | .mk _ l => l
theorem Ty.ind {P : Ty → Prop} (h : ∀ k l, (∀ x ∈ l, P x) → P (.mk k l)) : ∀ t, P t
  | .mk k l => h k l fun x _ => Ty.ind h x
mutual
def enc : Ty → List Cell
  | .mk k l => [.int .i64 k, .slice .no 2 (encs l)]
def encs : List Ty → List (List Cell)
  | [] => []
  | x :: l => enc x :: encs l
end
theorem encs_eq (l : List Ty) : encs l = l.map enc := by
  induction l with
  | nil => rfl
  | cons x l ih => simp only [encs, List.map_cons, ih]
@[simp] theorem enc_mk (k : Int) (l : List Ty) : enc (.mk k l) = [.int .i64 k, .slice .no 2 (l.map enc)] := by rw [enc, encs_eq]
theorem enc_eq (t : Ty) : enc t = [.int .i64 t.kind, .slice .no 2 (t.args.map enc)] := by cases t; simp [Ty.kind, Ty.args]
@[simp] theorem enc_length (t : Ty) : (enc t).length = 2 := by rw [enc_eq]; try rfl
@[simp] theorem enc_er (t : Ty) : (enc t).map erC = enc t := by rw [enc_eq]; simp
@[simp] theorem enc_er' (t : Ty) : List.map (fun c => erC c) (enc t) = enc t := enc_er t
@[simp] theorem enc_take (t : Ty) : (enc t).take 2 = enc t := List.take_of_length_le (by simp)
mutual
def Ty.size : Ty → Nat
  | .mk _ l => 1 + Ty.sizes l
def Ty.sizes : List Ty → Nat
  | [] => 0
  | x :: l => x.size + Ty.sizes l
end
@[simp] theorem Ty.size_mk (k : Int) (l : List Ty) : (Ty.mk k l).size = 1 + Ty.sizes l := by rw [Ty.size]
@[simp] theorem Ty.sizes_nil : Ty.sizes [] = 0 := rfl
@[simp] theorem Ty.sizes_cons (x : Ty) (l : List Ty) : Ty.sizes (x :: l) = x.size + Ty.sizes l := by rw [Ty.sizes]
@[simp] theorem Ty.sizes_append (l m : List Ty) : Ty.sizes (l ++ m) = Ty.sizes l + Ty.sizes m := by
  induction l with
  | nil => simp
  | cons x l ih => simp [ih]; omega
theorem Ty.size_pos (t : Ty) : 1 ≤ t.size := by cases t; simp
theorem Ty.length_le (l : List Ty) : l.length ≤ Ty.sizes l := by
  induction l with
  | nil => simp
  | cons x l ih => have := x.size_pos; simp; omega
theorem Ty.sizes_mem {x : Ty} {l : List Ty} (h : x ∈ l) : x.size ≤ Ty.sizes l := by
  induction l with
  | nil => simp at h
  | cons y l ih =>
    rcases List.mem_cons.1 h with rfl | h
    · simp
    · have := ih h; simp; omega
mutual
def Ty.same : Ty → Ty → Bool
  | .mk k l, .mk k' m => k == k' && Ty.sames l m
def Ty.sames : List Ty → List Ty → Bool
  | [], [] => true
  | x :: l, y :: m => Ty.same x y && Ty.sames l m
  | _, _ => false
end
@[simp] theorem Ty.same_mk (k k' : Int) (l m : List Ty) : Ty.same (.mk k l) (.mk k' m) = (k == k' && Ty.sames l m) := by rw [Ty.same]
@[simp] theorem Ty.sames_nil : Ty.sames [] [] = true := by rw [Ty.sames]
@[simp] theorem Ty.sames_cons (x y : Ty) (l m : List Ty) : Ty.sames (x :: l) (y :: m) = (Ty.same x y && Ty.sames l m) := by rw [Ty.sames]
theorem Ty.sames_length : ∀ {l m : List Ty}, Ty.sames l m = true → l.length = m.length
  | [], [], _ => rfl
  | x :: l, y :: m, h => by simp at h; simp [Ty.sames_length h.2]
  | [], _ :: _, h => by simp [Ty.sames] at h
  | _ :: _, [], h => by simp [Ty.sames] at h
theorem Ty.same_iff (a : Ty) : ∀ b, Ty.same a b = true ↔ a = b := by
  induction a using Ty.ind with
  | _ k l ih =>
    rintro ⟨k', m⟩
    have key : ∀ l m : List Ty, (∀ x ∈ l, ∀ b, Ty.same x b = true ↔ x = b) → (Ty.sames l m = true ↔ l = m) := by
      intro l
      induction l with
      | nil => intro m _; cases m <;> simp [Ty.sames]
      | cons x l ihl =>
        intro m hx
        cases m with
        | nil => simp [Ty.sames]
        | cons y m => simp [hx x (by simp) y, ihl m fun z hz => hx z (by simp [hz])]
    simp [key l m ih]
def tyArity (k : Int) : Option Nat := if k = 1 ∨ k = 2 ∨ k = 5 then some 0 else if k = 3 ∨ k = 4 then some 2 else none
mutual
def Ty.ok : Ty → Bool
  | .mk k l => tyArity k == some l.length && Ty.oks l
def Ty.oks : List Ty → Bool
  | [] => true
  | x :: l => x.ok && Ty.oks l
end
@[simp] theorem Ty.ok_mk (k : Int) (l : List Ty) : (Ty.mk k l).ok = (tyArity k == some l.length && Ty.oks l) := by rw [Ty.ok]
@[simp] theorem Ty.oks_nil : Ty.oks [] = true := rfl
@[simp] theorem Ty.oks_cons (x : Ty) (l : List Ty) : Ty.oks (x :: l) = (x.ok && Ty.oks l) := by rw [Ty.oks]
theorem enc_flat (t : Ty) : flatL (enc t) = true := by
  induction t using Ty.ind with
  | _ k l ih =>
    rw [enc_mk]
    simp only [flatL, flatC, Bool.and_true, Bool.true_and]
    exact flatLL_of fun e he => by
      obtain ⟨x, hx, rfl⟩ := List.mem_map.1 he
      exact ih x hx
theorem wrap_id {n : Int} (h1 : -9223372036854775808 ≤ n) (h2 : n ≤ 9223372036854775807) : IntKind.i64.wrap n = n := by rw [IntKind.wrap_i64]; omega
end Go.Proofs.YtnpgbkldpdogjaaGreatDoor.V

namespace Go.Proofs.YtnpgbkldpdogjaaGreatDoor.V
open Go
def binF (C : Cfg) (op : BinOp) (xt : TypeId) (a b : PV) : Option PV := match a, b with
  | .one (.int k x), .one (.int k' y) => if k = k' then match intC op k x y with
    | some c => some (.one c)
    | none => none else none
  | .one (.bool x), .one (.bool y) => match C.T xt with
    | some d => match d.k with
      | .bool => match op with
        | .eql => some (.one (.bool (x == y)))
        | .neq => some (.one (.bool (!(x == y))))
        | _ => none
      | _ => none
    | none => none
  | _, _ => none
def lenP (C : Cfg) (dst : Option Nat) (k : St → Prop) (st : St) : List Operand → List TypeId → Prop
  | [x], [t] => match C.T t with
    | some d => match d.k with
      | .slice _ => match oper C st.env x with
        | .one (.slice _ _ es) => k (put st dst (.one (.int .i64 es.length)))
        | _ => False
      | _ => False
    | none => False
  | _, _ => False
def appendP (C : Cfg) (dst : Option Nat) (k : St → Prop) (st : St) : List Operand → List TypeId → Prop
  | [s, x], [t, u] => t = u ∧ match C.T t with
    | some d => match d.k with
      | .slice e => match C.T e with
        | some de => match oper C st.env s with
          | .one (.slice ow sz es) => match oper C st.env x with
            | .one (.slice _ sy ys) => 0 < de.size ∧ (sz = de.size ∨ (es = [] ∧ ow = .full)) ∧ (ys = [] ∨ sy = de.size) ∧ okOwn st.live ow ∧ (es.length + ys.length) * de.bytes ≤ 140737488355328 ∧ es.length + ys.length ≤ 9223372036854775807 ∧
              k (put { st with live := grownLive st.live ow } dst (.one (.slice (.tip st.live.nx) de.size (es ++ ys.map fun e => e.map erC))))
            | _ => False
          | _ => False
        | none => False
      | _ => False
    | none => False
  | _, _ => False
def callP (C : Cfg) (dst : Option Nat) (c : Call) (ty : TypeId) (k : St → Prop) (st : St) : Prop := match c.callee with
  | .builtin .len => lenP C dst k st c.args.toList c.argTypes.toList
  | .builtin .append => appendP C dst k st c.args.toList c.argTypes.toList
  | _ => opV C ⟨dst, .call c, ty, "", #[], none⟩ k st
def opP (C : Cfg) (dst : Option Nat) (op : Op) (ty : TypeId) (k : St → Prop) (st : St) : Prop := match op with
  | .move x => k (put st dst (operT C st.env ty x))
  | .assign x => k (put st dst (operT C st.env ty x))
  | .pick c a b => match oper C st.env c with
    | .one (.bool t) => k (put st dst (if t = true then oper C st.env a else oper C st.env b))
    | _ => False
  | .binOp op xt x y _ => match binF C op xt (oper C st.env x) (oper C st.env y) with
    | some r => k (put st dst r)
    | none => False
  | .unOp .not _ x => match oper C st.env x with
    | .one (.bool b) => k (put st dst (.one (.bool (!b))))
    | _ => False
  | .extract x i => match oper C st.env x with
    | .tup vs => match vs[i]? with
      | some v => k (put st dst (erV v))
      | none => False
    | _ => False
  | .fieldAddr s x f => match C.T s with
    | some d => match d.k with
      | .struct fs => match fs[f]? with
        | some q => 0 < q.2 ∧ match addrP (oper C st.env x) q.1 with
          | some r => k (put st dst r)
          | none => False
        | none => False
      | _ => False
    | none => False
  | .indexAddr t x i => match C.T t with
    | some d => match d.k with
      | .slice e => match C.T e with
        | some de => match oper C st.env i with
          | .one (.int _ n) => 0 ≤ n ∧ match oper C st.env x with
            | .one (.slice _ sz es) => de.size = sz ∧ match es[n.toNat]? with
              | some e' => k (put st dst (.one (.cptr e' 0)))
              | none => False
            | _ => False
          | _ => False
        | none => False
      | .array len e => match C.T e with
        | some de => match oper C st.env i with
          | .one (.int _ n) => 0 ≤ n ∧ n < len ∧ match addrP (oper C st.env x) (n.toNat * de.size) with
            | some r => k (put st dst r)
            | none => False
          | _ => False
        | none => False
      | _ => False
    | none => False
  | .build t parts => match C.T t with
    | some d => match d.k with
      | .struct fs => match fillC fs d.zero (parts.toList.map fun q => (q.1, oper C st.env q.2)) with
        | some cs => k (put st dst (.agg cs))
        | none => False
      | _ => False
    | none => False
  | .buildSlice t n parts => match C.T t with
    | some d => match d.k with
      | .slice e => match C.T e with
        | some de => match elemsOf 0 (parts.toList.map fun q => (q.1, oper C st.env q.2)) with
          | some es => es.length = n ∧ (∀ x ∈ es, x.length = de.size) ∧ n * de.size ≤ 16777216 ∧ k (put st dst (.one (.slice .full de.size es)))
          | none => False
        | none => False
      | _ => False
    | none => False
  | .load t x => match C.T t with
    | some d => match oper C st.env x with
      | .one (.box fd tt v off) => match readBox st fd tt v with
        | some cs => off + d.size ≤ cs.length ∧ k (put st dst (if fd = st.σ.length then mkPV d.isAgg ((cs.drop off).take d.size) else erV (mkPV d.isAgg ((cs.drop off).take d.size))))
        | none => False
      | .one (.cptr cs off) => off + d.size ≤ cs.length ∧ k (put st dst (erV (mkPV d.isAgg ((cs.drop off).take d.size))))
      | _ => False
    | none => False
  | .alloc t => match C.T t, dst with
    | some d, some x => k { st with loc := upd st.loc x (st.loc x ++ [d.zero]), env := upd st.env x (.one (.box st.σ.length x (st.loc x).length 0)) }
    | _, _ => False
  | .box t y => match C.T t, dst with
    | some d, some x => match (oper C st.env y).cells with
      | some cs => cs.length = d.size ∧ k { st with loc := upd st.loc x (st.loc x ++ [cs]), env := upd st.env x (.one (.box st.σ.length x (st.loc x).length 0)) }
      | none => False
    | _, _ => False
  | .store t x y => match C.T t with
    | some d => match oper C st.env x with
      | .one (.box fd tt v off) => match readBox st fd tt v with
        | some cs => match (operT C st.env t y).cells with
          | some ns => ns.length = d.size ∧ off + ns.length ≤ cs.length ∧ (fd = st.σ.length ∨ flatL ns = true) ∧ k (put (writeBox st fd tt v off ns) dst .undef)
          | none => False
        | none => False
      | _ => False
    | none => False
  | .call c => callP C dst c ty k st
  | op => opV C ⟨dst, op, ty, "", #[], none⟩ k st
theorem opP_sound {C : Cfg} {dst : Option Nat} {op : Op} {ty : TypeId} {k : St → Prop} {st : St} (h : opP C dst op ty k st) : opV C ⟨dst, op, ty, "", #[], none⟩ k st := by
  unfold opP at h
  split at h
  · rw [opV_move]; exact h
  · rw [opV_assign]; exact h
  · split at h
    · rename_i hc; rw [opV_pick]; exact ⟨_, hc, h⟩
    · exact h.elim
  · split at h
    · rename_i r hr
      rw [opV_bin]
      refine ⟨r, ?_, h⟩
      unfold binF at hr
      split at hr
      · rename_i e1 e2
        split at hr
        · rename_i hk
          split at hr
          · rename_i c hc
            cases hr
            rw [e1, e2]
            exact ⟨hk, c, hc, rfl⟩
          · cases hr
        · cases hr
      · rename_i e1 e2
        rw [e1, e2]
        split at hr
        · rename_i d hd
          split at hr
          · rename_i hk
            split at hr
            · cases hr; exact ⟨⟨d, hd, hk⟩, .inl ⟨rfl, rfl⟩⟩
            · cases hr; exact ⟨⟨d, hd, hk⟩, .inr ⟨rfl, rfl⟩⟩
            · cases hr
          · cases hr
        · cases hr
      · cases hr
    · exact h.elim
  · split at h
    · rename_i hc; rw [opV_not]; exact ⟨_, hc, h⟩
    · exact h.elim
  · split at h
    · rename_i hc
      split at h
      · rename_i hv; rw [opV_extract]; exact ⟨_, _, hc, hv, h⟩
      · exact h.elim
    · exact h.elim
  · split at h
    · rename_i hd
      split at h
      · rename_i hk
        split at h
        · rename_i hq
          obtain ⟨h1, h⟩ := h
          split at h
          · rename_i hr; rw [opV_field]; exact ⟨_, ⟨_, _, _, hd, hk, hq, h1, hr⟩, h⟩
          · exact h.elim
        · exact h.elim
      · exact h.elim
    · exact h.elim
  · split at h
    · rename_i hd
      split at h
      · rename_i hk
        split at h
        · rename_i hde
          split at h
          · rename_i hi
            obtain ⟨h1, h⟩ := h
            split at h
            · rename_i hx
              obtain ⟨h2, h⟩ := h
              split at h
              · rename_i he
                rw [opV_index]
                refine ⟨_, ⟨_, _, _, hd, hi, h1, ?_⟩, h⟩
                rw [hk]
                exact ⟨_, _, _, _, _, hx, hde, h2, he, rfl⟩
              · exact h.elim
            · exact h.elim
          · exact h.elim
        · exact h.elim
      · rename_i hk
        split at h
        · rename_i hde
          split at h
          · rename_i hi
            obtain ⟨h1, h2, h⟩ := h
            split at h
            · rename_i hr
              rw [opV_index]
              refine ⟨_, ⟨_, _, _, hd, hi, h1, ?_⟩, h⟩
              rw [hk]
              exact ⟨_, hde, h2, hr⟩
            · exact h.elim
          · exact h.elim
        · exact h.elim
      · exact h.elim
    · exact h.elim
  · split at h
    · rename_i hd
      split at h
      · rename_i hk
        split at h
        · rename_i hf; rw [opV_build]; exact ⟨_, _, _, hd, hk, hf, h⟩
        · exact h.elim
      · exact h.elim
    · exact h.elim
  · split at h
    · rename_i hd
      split at h
      · rename_i hk
        split at h
        · rename_i hde
          split at h
          · rename_i hf; rw [opV_buildSlice]; exact ⟨_, _, _, _, hd, hk, hde, hf, h⟩
          · exact h.elim
        · exact h.elim
      · exact h.elim
    · exact h.elim
  · split at h
    · rename_i hd
      split at h
      · rename_i hx
        split at h
        · rename_i hb
          rw [opV_load]
          refine ⟨_, ⟨_, hd, ?_⟩, h.2⟩
          rw [hx]
          exact ⟨_, hb, h.1, rfl⟩
        · exact h.elim
      · rename_i hx
        rw [opV_load]
        refine ⟨_, ⟨_, hd, ?_⟩, h.2⟩
        rw [hx]
        exact ⟨h.1, rfl⟩
      · exact h.elim
    · exact h.elim
  · split at h
    · rename_i hd; rw [opV_alloc]; exact ⟨_, hd, h⟩
    · exact h.elim
  · split at h
    · rename_i hd
      split at h
      · rename_i hc; rw [opV_box]; exact ⟨_, _, hd, hc, h⟩
      · exact h.elim
    · exact h.elim
  · split at h
    · rename_i hd
      split at h
      · rename_i hx
        split at h
        · rename_i hb
          split at h
          · rename_i hn; rw [opV_store]; exact ⟨_, _, _, _, _, _, _, hd, hx, hb, hn, h⟩
          · exact h.elim
        · exact h.elim
      · exact h.elim
    · exact h.elim
  · rename_i c
    unfold callP at h
    split at h
    · rename_i hc
      unfold lenP at h
      split at h
      · rename_i x t hxs hts
        split at h
        · rename_i hd
          split at h
          · rename_i hk
            split at h
            · rename_i hx
              simp only [opV, hc, opR]
              exact ⟨_, ⟨x, _, _, _, _, _, hxs, ⟨t, hts, hd⟩, hk, hx, rfl⟩, h⟩
            · exact h.elim
          · exact h.elim
        · exact h.elim
      · exact h.elim
    · rename_i hc
      unfold appendP at h
      split at h
      · rename_i s x t u hxs hts
        obtain ⟨rfl, h⟩ := h
        split at h
        · rename_i hd
          split at h
          · rename_i hk
            split at h
            · rename_i hde
              split at h
              · rename_i hs
                split at h
                · rename_i hx
                  simp only [opV, hc, AppendV]
                  exact ⟨s, x, t, t, _, _, _, _, _, _, _, _, _, hxs, hts, hd, hk, hd, hde, h.1, hs, h.2.1, hx, h.2.2⟩
                · exact h.elim
              · exact h.elim
            · exact h.elim
          · exact h.elim
        · exact h.elim
      · exact h.elim
    · exact h
  · exact h
def opsP (C : Cfg) (K : St → Prop) : List SOp → St → Prop
  | [], st => K st
  | ⟨dst, op, ty, .always⟩ :: l, st => opP C dst op ty (opsP C K l) st
  | ⟨dst, op, ty, .tmp t want⟩ :: l, st => match st.env t with
    | .one (.bool b) => if b = want then opP C dst op ty (opsP C K l) st else opsP C K l (put st dst .gone)
    | .gone => opsP C K l (put st dst .gone)
    | _ => False
  | ⟨_, _, _, .bad⟩ :: _, _ => False
theorem opsP_sound {C : Cfg} {K : St → Prop} : ∀ (l : List SOp) (st : St), opsP C K l st → opsS C K l st
  | [], _, h => h
  | ⟨dst, op, ty, .always⟩ :: l, st, h => opV_mono (fun s hs => opsP_sound l s hs) (opP_sound h)
  | ⟨dst, op, ty, .tmp t want⟩ :: l, st, h => by
    simp only [opsP] at h
    rw [opsS_guard]
    split at h
    · rename_i b hb
      refine ⟨some b, by rw [hb]; try rfl, ?_⟩
      split at h
      · rename_i e; rw [if_pos (by rw [e])]; exact opV_mono (fun s hs => opsP_sound l s hs) (opP_sound h)
      · rename_i e; rw [if_neg (by simpa using e)]; exact opsP_sound l _ h
    · rename_i hb
      exact ⟨none, by rw [hb]; try rfl, by rw [if_neg (by simp)]; exact opsP_sound l _ h⟩
    · exact h.elim
  | ⟨_, _, _, .bad⟩ :: _, _, h => h.elim
def opPD (C : Cfg) (W : Nat → Nat → Nat → Bool) (vs : Nat → Nat) (fr : Bool) (dst : Option Nat) (op : Op) (ty : TypeId) (k : St → Prop) (st : St) : Prop := match op with
  | .alloc t => match C.T t, dst with
    | some d, some x => (st.loc x)[vs x]? = some d.zero ∧ (fr = true → W st.σ.length x (vs x) = false) ∧ k (put st dst (.one (.box st.σ.length x (vs x) 0)))
    | _, _ => False
  | .load t x => (fr = true → match oper C st.env x with
      | .one (.box d tt v _) => W d tt v = false
      | _ => True) ∧ opP C dst (.load t x) ty k st
  | .store t x y => (fr = true → match oper C st.env x with
      | .one (.box d tt v _) => W d tt v = true
      | _ => False) ∧ opP C dst (.store t x y) ty k st
  | .box t x => fr = false ∧ opP C dst (.box t x) ty k st
  | .call c => match c.callee with
    | .builtin .append => opP C dst (.call c) ty k st
    | .builtin .len => opP C dst (.call c) ty k st
    | _ => stepD C W vs fr ⟨dst, .call c, ty, "", #[], none⟩ k st
  | op => opP C dst op ty k st
theorem readBox_writeBox {st : St} {d t v off d' t' v' : Nat} {ns : List Cell} (h : ¬ (d' = d ∧ t' = t ∧ v' = v)) : readBox (writeBox st d t v off ns) d' t' v' = readBox st d' t' v' := by
  unfold writeBox
  split
  · rename_i e
    simp only [readBox]
    split
    · rename_i e'
      by_cases ht : t' = t
      · subst ht
        have hv : ¬ v = v' := fun hv => h ⟨e'.trans e.symm, rfl, hv.symm⟩
        simp [upd, List.getElem?_modify, hv]
      · simp [upd, ht]
    · rfl
  · rename_i e
    simp only [readBox, List.length_modify]
    split
    · rfl
    · simp only [List.getElem?_modify]
      by_cases hd : d = d'
      · subst hd
        cases st.σ[d]? with
        | none => rfl
        | some f =>
          by_cases ht : t' = t
          · subst ht
            have hv : ¬ v = v' := fun hv => h ⟨rfl, rfl, hv.symm⟩
            simp [upd, List.getElem?_modify, hv]
          · simp [upd, ht]
      · simp [hd]
theorem writeBox_length {st : St} {d t v off : Nat} {ns : List Cell} : (writeBox st d t v off ns).σ.length = st.σ.length := by
  unfold writeBox
  split <;> simp
theorem opPD_sound {C : Cfg} {W : Nat → Nat → Nat → Bool} {vs : Nat → Nat} {fr : Bool} {dst : Option Nat} {op : Op} {ty : TypeId} {k : St → Prop} {st : St} (h : opPD C W vs fr dst op ty k st) : stepD C W vs fr ⟨dst, op, ty, "", #[], none⟩ k st := by
  have pure : isEff ⟨dst, op, ty, "", #[], none⟩ = false → isRead ⟨dst, op, ty, "", #[], none⟩ = false → opP C dst op ty k st → stepD C W vs fr ⟨dst, op, ty, "", #[], none⟩ k st := by
    intro he hr h
    have h2 := opP_sound h
    cases op <;> first
      | (simp [isRead] at hr; done)
      | (simp only [stepD]; exact opV_mono (fun x hx => ⟨by rw [he]; simp, hx⟩) h2)
  have bound : isRead ⟨dst, op, ty, "", #[], none⟩ = false → fr = false → opP C dst op ty k st → stepD C W vs fr ⟨dst, op, ty, "", #[], none⟩ k st := by
    intro hr hf h
    have h2 := opP_sound h
    subst hf
    cases op <;> first
      | (simp [isRead] at hr; done)
      | (simp only [stepD]; exact opV_mono (fun x hx => ⟨by simp, hx⟩) h2)
  unfold opPD at h
  split at h
  · split at h
    · rename_i hd
      obtain ⟨h1, h2, h3⟩ := h
      exact ⟨_, _, hd, rfl, by simpa [readBox] using h1, h2, h3⟩
    · exact h.elim
  · exact ⟨h.1, opP_sound h.2⟩
  · have h2 := opP_sound h.2
    have h1 := h.1
    simp only [stepD, opV] at h2 ⊢
    obtain ⟨d, fd, tt, v, off, cs, ns, g1, g2, g3, g4, g5, g6, g7, g8⟩ := h2
    refine ⟨d, fd, tt, v, off, cs, ns, g1, g2, g3, g4, g5, g6, g7, fun hf => ⟨?_, fun a b c hw => ?_⟩, g8⟩
    · cases dst <;> simp [put, writeBox_length]
    · have hf' : fr = true := by simpa [isEff] using hf
      have hW := h1 hf'
      rw [g2] at hW
      have key : readBox (writeBox st fd tt v off ns) a b c = readBox st a b c := readBox_writeBox fun e => by
        obtain ⟨rfl, rfl, rfl⟩ := e
        rw [hW] at hw
        cases hw
      cases dst <;> exact key
  · exact bound rfl h.1 h.2
  · rename_i c
    split at h
    · rename_i hc
      have h2 := opP_sound h
      simp only [stepD]
      simp only [opV, hc, AppendV] at h2 ⊢
      obtain ⟨s, x, t, u, d, e, de, ow, sz, es, oy, sy, ys, h1, h3, h4, h5, h6, h7, h8, h9, h10, h11, h12, h13, h14, h15, h16⟩ := h2
      refine ⟨s, x, t, u, d, e, de, ow, sz, es, oy, sy, ys, h1, h3, h4, h5, h6, h7, h8, h9, h10, h11, h12, h13, h14, h15, fun _ => ⟨by simp, fun d t v _ => ?_⟩, h16⟩
      simp [readBox]
    · rename_i hc
      exact pure (by simp [isEff, hc]) rfl h
    · exact h
  · rename_i h1 h2 h3 h4 h5
    cases op <;> first
      | (exact absurd rfl (h1 _))
      | (exact absurd rfl (h2 _ _))
      | (exact absurd rfl (h3 _ _ _))
      | (exact absurd rfl (h4 _ _))
      | (exact absurd rfl (h5 _))
      | exact pure rfl rfl h
def opsPD (C : Cfg) (W : Nat → Nat → Nat → Bool) (vs : Nat → Nat) (K : St → Prop) : List Bool → List SOp → St → Prop
  | _, [], st => K st
  | fr :: fl, ⟨dst, op, ty, .always⟩ :: l, st => opPD C W vs fr dst op ty (opsPD C W vs K fl l) st
  | fr :: fl, ⟨dst, op, ty, .tmp t want⟩ :: l, st => match st.env t with
    | .one (.bool b) => if b = want then opPD C W vs fr dst op ty (opsPD C W vs K fl l) st else opsPD C W vs K fl l (put st dst .gone)
    | .gone => opsPD C W vs K fl l (put st dst .gone)
    | _ => False
  | _, _ :: _, _ => False
theorem opsPD_sound {C : Cfg} {W : Nat → Nat → Nat → Bool} {vs : Nat → Nat} {K : St → Prop} : ∀ (l : List SOp) (fl : List Bool) (st : St), opsPD C W vs K fl l st → opsSD C W vs K fl l st
  | [], fl, _, h => by simp only [opsPD] at h; rw [opsSD_nil]; exact h
  | s :: l, [], st, h => by simp only [opsPD] at h
  | ⟨dst, op, ty, .always⟩ :: l, fr :: fl, st, h => by
    simp only [opsPD] at h
    rw [opsSD_cons]
    exact stepD_mono (fun s hs => opsPD_sound l fl s hs) (opPD_sound h)
  | ⟨dst, op, ty, .tmp t want⟩ :: l, fr :: fl, st, h => by
    simp only [opsPD] at h
    rw [opsSD_guard]
    split at h
    · rename_i b hb
      refine ⟨some b, by rw [hb]; try rfl, ?_⟩
      split at h
      · rename_i e; rw [if_pos (by rw [e])]; exact stepD_mono (fun s hs => opsPD_sound l fl s hs) (opPD_sound h)
      · rename_i e; rw [if_neg (by simpa using e)]; exact opsPD_sound l fl _ h
    · rename_i hb
      exact ⟨none, by rw [hb]; try rfl, by rw [if_neg (by simp)]; exact opsPD_sound l fl _ h⟩
    · exact h.elim
  | ⟨_, _, _, .bad⟩ :: _, fr :: _, _, h => by simp only [opsPD] at h
end Go.Proofs.YtnpgbkldpdogjaaGreatDoor.V

namespace Go.Proofs.YtnpgbkldpdogjaaGreatDoor.V
open Go
section
variable {C : Cfg} {K k : St → Prop} {st : St} {dst : Option Nat} {ty : TypeId} {W : Nat → Nat → Nat → Bool} {vs : Nat → Nat} {fr : Bool} {fl : List Bool}
@[simp] theorem opsP_nil : opsP C K [] st = K st := rfl
@[simp] theorem opsP_cons {op : Op} {l : List SOp} : opsP C K (⟨dst, op, ty, .always⟩ :: l) st = opP C dst op ty (opsP C K l) st := rfl
@[simp] theorem opsP_guard {op : Op} {l : List SOp} {t : Nat} {want : Bool} : opsP C K (⟨dst, op, ty, .tmp t want⟩ :: l) st = match st.env t with
    | .one (.bool b) => if b = want then opP C dst op ty (opsP C K l) st else opsP C K l (put st dst .gone)
    | .gone => opsP C K l (put st dst .gone)
    | _ => False := rfl
@[simp] theorem opsPD_nil : opsPD C W vs K fl [] st = K st := by simp only [opsPD]
@[simp] theorem opsPD_cons {op : Op} {l : List SOp} : opsPD C W vs K (fr :: fl) (⟨dst, op, ty, .always⟩ :: l) st = opPD C W vs fr dst op ty (opsPD C W vs K fl l) st := rfl
@[simp] theorem opsPD_guard {op : Op} {l : List SOp} {t : Nat} {want : Bool} : opsPD C W vs K (fr :: fl) (⟨dst, op, ty, .tmp t want⟩ :: l) st = match st.env t with
    | .one (.bool b) => if b = want then opPD C W vs fr dst op ty (opsPD C W vs K fl l) st else opsPD C W vs K fl l (put st dst .gone)
    | .gone => opsPD C W vs K fl l (put st dst .gone)
    | _ => False := rfl
@[simp] theorem opP_move {x : Operand} : opP C dst (.move x) ty k st = k (put st dst (operT C st.env ty x)) := rfl
@[simp] theorem opP_assign {x : Operand} : opP C dst (.assign x) ty k st = k (put st dst (operT C st.env ty x)) := rfl
@[simp] theorem opP_pick {c a b : Operand} : opP C dst (.pick c a b) ty k st = match oper C st.env c with
    | .one (.bool t) => k (put st dst (if t = true then oper C st.env a else oper C st.env b))
    | _ => False := rfl
@[simp] theorem opP_bin {op : BinOp} {xt yt : TypeId} {x y : Operand} : opP C dst (.binOp op xt x y yt) ty k st = match binF C op xt (oper C st.env x) (oper C st.env y) with
    | some r => k (put st dst r)
    | none => False := rfl
@[simp] theorem opP_not {xt : TypeId} {x : Operand} : opP C dst (.unOp .not xt x) ty k st = match oper C st.env x with
    | .one (.bool b) => k (put st dst (.one (.bool (!b))))
    | _ => False := rfl
@[simp] theorem opP_extract {x : Operand} {i : Nat} : opP C dst (.extract x i) ty k st = match oper C st.env x with
    | .tup vs => match vs[i]? with
      | some v => k (put st dst (erV v))
      | none => False
    | _ => False := rfl
@[simp] theorem opP_field {s : TypeId} {x : Operand} {f : Nat} : opP C dst (.fieldAddr s x f) ty k st = match C.T s with
    | some d => match d.k with
      | .struct fs => match fs[f]? with
        | some q => 0 < q.2 ∧ match addrP (oper C st.env x) q.1 with
          | some r => k (put st dst r)
          | none => False
        | none => False
      | _ => False
    | none => False := rfl
@[simp] theorem opP_index {t : TypeId} {x i : Operand} : opP C dst (.indexAddr t x i) ty k st = match C.T t with
    | some d => match d.k with
      | .slice e => match C.T e with
        | some de => match oper C st.env i with
          | .one (.int _ n) => 0 ≤ n ∧ match oper C st.env x with
            | .one (.slice _ sz es) => de.size = sz ∧ match es[n.toNat]? with
              | some e' => k (put st dst (.one (.cptr e' 0)))
              | none => False
            | _ => False
          | _ => False
        | none => False
      | .array len e => match C.T e with
        | some de => match oper C st.env i with
          | .one (.int _ n) => 0 ≤ n ∧ n < len ∧ match addrP (oper C st.env x) (n.toNat * de.size) with
            | some r => k (put st dst r)
            | none => False
          | _ => False
        | none => False
      | _ => False
    | none => False := rfl
@[simp] theorem opP_build {t : TypeId} {parts : Array (Nat × Operand)} : opP C dst (.build t parts) ty k st = match C.T t with
    | some d => match d.k with
      | .struct fs => match fillC fs d.zero (parts.toList.map fun q => (q.1, oper C st.env q.2)) with
        | some cs => k (put st dst (.agg cs))
        | none => False
      | _ => False
    | none => False := rfl
@[simp] theorem opP_buildSlice {t : TypeId} {n : Nat} {parts : Array (Nat × Operand)} : opP C dst (.buildSlice t n parts) ty k st = match C.T t with
    | some d => match d.k with
      | .slice e => match C.T e with
        | some de => match elemsOf 0 (parts.toList.map fun q => (q.1, oper C st.env q.2)) with
          | some es => es.length = n ∧ (∀ x ∈ es, x.length = de.size) ∧ n * de.size ≤ 16777216 ∧ k (put st dst (.one (.slice .full de.size es)))
          | none => False
        | none => False
      | _ => False
    | none => False := rfl
@[simp] theorem opP_load {t : TypeId} {x : Operand} : opP C dst (.load t x) ty k st = match C.T t with
    | some d => match oper C st.env x with
      | .one (.box fd tt v off) => match readBox st fd tt v with
        | some cs => off + d.size ≤ cs.length ∧ k (put st dst (if fd = st.σ.length then mkPV d.isAgg ((cs.drop off).take d.size) else erV (mkPV d.isAgg ((cs.drop off).take d.size))))
        | none => False
      | .one (.cptr cs off) => off + d.size ≤ cs.length ∧ k (put st dst (erV (mkPV d.isAgg ((cs.drop off).take d.size))))
      | _ => False
    | none => False := rfl
@[simp] theorem opP_alloc {x : Nat} {t : TypeId} : opP C (some x) (.alloc t) ty k st = match C.T t with
    | some d => k { st with loc := upd st.loc x (st.loc x ++ [d.zero]), env := upd st.env x (.one (.box st.σ.length x (st.loc x).length 0)) }
    | none => False := by simp only [opP]; cases C.T t <;> rfl
@[simp] theorem opP_box {x : Nat} {t : TypeId} {y : Operand} : opP C (some x) (.box t y) ty k st = match C.T t with
    | some d => match (oper C st.env y).cells with
      | some cs => cs.length = d.size ∧ k { st with loc := upd st.loc x (st.loc x ++ [cs]), env := upd st.env x (.one (.box st.σ.length x (st.loc x).length 0)) }
      | none => False
    | none => False := by simp only [opP]; cases C.T t <;> rfl
@[simp] theorem opP_store {t : TypeId} {x y : Operand} : opP C dst (.store t x y) ty k st = match C.T t with
    | some d => match oper C st.env x with
      | .one (.box fd tt v off) => match readBox st fd tt v with
        | some cs => match (operT C st.env t y).cells with
          | some ns => ns.length = d.size ∧ off + ns.length ≤ cs.length ∧ (fd = st.σ.length ∨ flatL ns = true) ∧ k (put (writeBox st fd tt v off ns) dst .undef)
          | none => False
        | none => False
      | _ => False
    | none => False := rfl
@[simp] theorem opP_len {x : Operand} {t : TypeId} : opP C dst (.call ⟨.builtin .len, #[x], #[t]⟩) ty k st = match C.T t with
    | some d => match d.k with
      | .slice _ => match oper C st.env x with
        | .one (.slice _ _ es) => k (put st dst (.one (.int .i64 es.length)))
        | _ => False
      | _ => False
    | none => False := rfl
@[simp] theorem opP_append {t : TypeId} {s x : Operand} : opP C dst (.call ⟨.builtin .append, #[s, x], #[t, t]⟩) ty k st = match C.T t with
    | some d => match d.k with
      | .slice e => match C.T e with
        | some de => match oper C st.env s with
          | .one (.slice ow sz es) => match oper C st.env x with
            | .one (.slice _ sy ys) => 0 < de.size ∧ (sz = de.size ∨ (es = [] ∧ ow = .full)) ∧ (ys = [] ∨ sy = de.size) ∧ okOwn st.live ow ∧ (es.length + ys.length) * de.bytes ≤ 140737488355328 ∧ es.length + ys.length ≤ 9223372036854775807 ∧
              k (put { st with live := grownLive st.live ow } dst (.one (.slice (.tip st.live.nx) de.size (es ++ ys.map fun e => e.map erC))))
            | _ => False
          | _ => False
        | none => False
      | _ => False
    | none => False := by
  exact propext ⟨fun h => h.2, fun h => ⟨rfl, h⟩⟩
@[simp] theorem opPD_alloc {x : Nat} {t : TypeId} : opPD C W vs fr (some x) (.alloc t) ty k st = match C.T t with
    | some d => (st.loc x)[vs x]? = some d.zero ∧ (fr = true → W st.σ.length x (vs x) = false) ∧ k (put st (some x) (.one (.box st.σ.length x (vs x) 0)))
    | none => False := by simp only [opPD]; cases C.T t <;> rfl
@[simp] theorem opPD_load {t : TypeId} {x : Operand} : opPD C W vs fr dst (.load t x) ty k st = ((fr = true → match oper C st.env x with
      | .one (.box d tt v _) => W d tt v = false
      | _ => True) ∧ opP C dst (.load t x) ty k st) := rfl
@[simp] theorem opPD_store {t : TypeId} {x y : Operand} : opPD C W vs fr dst (.store t x y) ty k st = ((fr = true → match oper C st.env x with
      | .one (.box d tt v _) => W d tt v = true
      | _ => False) ∧ opP C dst (.store t x y) ty k st) := rfl
@[simp] theorem opPD_move {x : Operand} : opPD C W vs fr dst (.move x) ty k st = opP C dst (.move x) ty k st := rfl
@[simp] theorem opPD_assign {x : Operand} : opPD C W vs fr dst (.assign x) ty k st = opP C dst (.assign x) ty k st := rfl
@[simp] theorem opPD_pick {c a b : Operand} : opPD C W vs fr dst (.pick c a b) ty k st = opP C dst (.pick c a b) ty k st := rfl
@[simp] theorem opPD_bin {op : BinOp} {xt yt : TypeId} {x y : Operand} : opPD C W vs fr dst (.binOp op xt x y yt) ty k st = opP C dst (.binOp op xt x y yt) ty k st := rfl
@[simp] theorem opPD_not {op : UnOp} {xt : TypeId} {x : Operand} : opPD C W vs fr dst (.unOp op xt x) ty k st = opP C dst (.unOp op xt x) ty k st := rfl
@[simp] theorem opPD_extract {x : Operand} {i : Nat} : opPD C W vs fr dst (.extract x i) ty k st = opP C dst (.extract x i) ty k st := rfl
@[simp] theorem opPD_field {s : TypeId} {x : Operand} {f : Nat} : opPD C W vs fr dst (.fieldAddr s x f) ty k st = opP C dst (.fieldAddr s x f) ty k st := rfl
@[simp] theorem opPD_index {t : TypeId} {x i : Operand} : opPD C W vs fr dst (.indexAddr t x i) ty k st = opP C dst (.indexAddr t x i) ty k st := rfl
@[simp] theorem opPD_build {t : TypeId} {parts : Array (Nat × Operand)} : opPD C W vs fr dst (.build t parts) ty k st = opP C dst (.build t parts) ty k st := rfl
@[simp] theorem opPD_buildSlice {t : TypeId} {n : Nat} {parts : Array (Nat × Operand)} : opPD C W vs fr dst (.buildSlice t n parts) ty k st = opP C dst (.buildSlice t n parts) ty k st := rfl
@[simp] theorem opPD_slice {t : TypeId} {x : Operand} {lo hi mx : Option Operand} : opPD C W vs fr dst (.slice t x lo hi mx) ty k st = opP C dst (.slice t x lo hi mx) ty k st := rfl
@[simp] theorem opPD_nilCheck {x : Operand} : opPD C W vs fr dst (.nilCheck x) ty k st = opP C dst (.nilCheck x) ty k st := rfl
@[simp] theorem opPD_len {xs : Array Operand} {ts : Array TypeId} : opPD C W vs fr dst (.call ⟨.builtin .len, xs, ts⟩) ty k st = opP C dst (.call ⟨.builtin .len, xs, ts⟩) ty k st := rfl
@[simp] theorem opPD_append {xs : Array Operand} {ts : Array TypeId} : opPD C W vs fr dst (.call ⟨.builtin .append, xs, ts⟩) ty k st = opP C dst (.call ⟨.builtin .append, xs, ts⟩) ty k st := rfl
@[simp] theorem opP_call {f : Operand} {xs : Array Operand} {ts : Array TypeId} : opP C dst (.call ⟨.value f, xs, ts⟩) ty k st = opV C ⟨dst, .call ⟨.value f, xs, ts⟩, ty, "", #[], none⟩ k st := rfl
@[simp] theorem opPD_call {f : Operand} {xs : Array Operand} {ts : Array TypeId} : opPD C W vs fr dst (.call ⟨.value f, xs, ts⟩) ty k st = stepD C W vs fr ⟨dst, .call ⟨.value f, xs, ts⟩, ty, "", #[], none⟩ k st := rfl
theorem stepD_call {f : Nat} {xs : Array Operand} {ts : Array TypeId} {p : String} {af : Array Edge} {g : Option (Nat × Bool)} {v : PV} {ps : List PV} (h : CallsV C f ps (st.σ ++ [st.loc]) (.val v) (st.σ ++ [st.loc])) (ha : argsT C st.env ts.toList xs.toList = ps) (hk : K (put st dst v)) : stepD C W vs fr ⟨dst, .call ⟨.value (.func f), xs, ts⟩, ty, p, af, g⟩ K st := by
  simp only [stepD]
  exact opV_call h ha ⟨fun _ => ⟨by simp, fun d t v _ => by simp [readBox]⟩, hk⟩
@[simp] theorem binF_int {op : BinOp} {xt : TypeId} {k : IntKind} {x y : Int} : binF C op xt (.one (.int k x)) (.one (.int k y)) = (intC op k x y).map .one := by
  simp only [binF, if_true]
  cases intC op k x y <;> rfl
@[simp] theorem intC_lss {k : IntKind} {a b : Int} : intC .lss k a b = some (.bool (decide (a < b))) := rfl
@[simp] theorem intC_leq {k : IntKind} {a b : Int} : intC .leq k a b = some (.bool (decide (a ≤ b))) := rfl
@[simp] theorem intC_gtr {k : IntKind} {a b : Int} : intC .gtr k a b = some (.bool (decide (a > b))) := rfl
@[simp] theorem intC_geq {k : IntKind} {a b : Int} : intC .geq k a b = some (.bool (decide (a ≥ b))) := rfl
@[simp] theorem intC_eql {k : IntKind} {a b : Int} : intC .eql k a b = some (.bool (a == b)) := rfl
@[simp] theorem intC_neq {k : IntKind} {a b : Int} : intC .neq k a b = some (.bool (a != b)) := rfl
@[simp] theorem intC_add {k : IntKind} {a b : Int} : intC .add k a b = some (.int k (k.wrap (a + b))) := rfl
@[simp] theorem intC_sub {k : IntKind} {a b : Int} : intC .sub k a b = some (.int k (k.wrap (a - b))) := rfl
@[simp] theorem intC_mul {k : IntKind} {a b : Int} : intC .mul k a b = some (.int k (k.wrap (a * b))) := rfl
end
@[simp] theorem mkPV_agg {cs : List Cell} : mkPV true cs = .agg cs := rfl
@[simp] theorem mkPV_one {c : Cell} : mkPV false [c] = .one c := rfl
@[simp] theorem cells_one {c : Cell} : (PV.one c).cells = some [c] := rfl
@[simp] theorem cells_agg {cs : List Cell} : (PV.agg cs).cells = some cs := rfl
@[simp] theorem isAgg_struct {fs : List (Nat × Nat)} {a b : Nat} {z : List Cell} : TyD.isAgg ⟨.struct fs, a, b, z⟩ = true := rfl
@[simp] theorem isAgg_array {n : Nat} {e : TypeId} {a b : Nat} {z : List Cell} : TyD.isAgg ⟨.array n e, a, b, z⟩ = true := rfl
@[simp] theorem isAgg_slice {e : TypeId} {a b : Nat} {z : List Cell} : TyD.isAgg ⟨.slice e, a, b, z⟩ = false := rfl
@[simp] theorem isAgg_bool {a b : Nat} {z : List Cell} : TyD.isAgg ⟨.bool, a, b, z⟩ = false := rfl
@[simp] theorem isAgg_other {a b : Nat} {z : List Cell} : TyD.isAgg ⟨.other, a, b, z⟩ = false := rfl
@[simp] theorem addrP_box {d t v off o : Nat} : addrP (.one (.box d t v off)) o = some (.one (.box d t v (off + o))) := rfl
@[simp] theorem addrP_cptr {cs : List Cell} {off o : Nat} : addrP (.one (.cptr cs off)) o = some (.one (.cptr cs (off + o))) := rfl
@[simp] theorem initEnv_eq {ps : List PV} {t : Nat} : initEnv ps t = erV (ps.getD t .undef) := rfl
@[simp] theorem SOp_oper {dst : Option Nat} {op : Op} {ty : TypeId} {g : SG} : SOp.oper ⟨dst, op, ty, g⟩ = ⟨dst, op, ty, "", #[], none⟩ := rfl
@[simp] theorem reserve_nil {C : Cfg} {l : Frm} : reserve C [] l = l := rfl
@[simp] theorem reserve_alloc {C : Cfg} {d : Nat} {t ty : TypeId} {p : String} {a : Array Edge} {g : Option (Nat × Bool)} {rest : List Oper} {l : Frm} : reserve C (⟨some d, .alloc t, ty, p, a, g⟩ :: rest) l = match C.T t with
    | some td => reserve C rest (upd l d (l d ++ [td.zero]))
    | none => reserve C rest l := rfl
theorem reserve_other {C : Cfg} {o : Oper} {rest : List Oper} {l : Frm} (h : isAlloc o = false) : reserve C (o :: rest) l = reserve C rest l := by
  cases ho : o.op <;> simp [isAlloc, ho] at h <;> simp [reserve, ho]
section
variable {C : Cfg} {rest : List Oper} {l : Frm} {dst : Option Nat} {ty : TypeId} {p : String} {af : Array Edge} {g : Option (Nat × Bool)}
@[simp] theorem reserve_move {x : Operand} : reserve C (⟨dst, .move x, ty, p, af, g⟩ :: rest) l = reserve C rest l := reserve_other rfl
@[simp] theorem reserve_assign {x : Operand} : reserve C (⟨dst, .assign x, ty, p, af, g⟩ :: rest) l = reserve C rest l := reserve_other rfl
@[simp] theorem reserve_pick {a b c : Operand} : reserve C (⟨dst, .pick c a b, ty, p, af, g⟩ :: rest) l = reserve C rest l := reserve_other rfl
@[simp] theorem reserve_bin {op : BinOp} {xt yt : TypeId} {x y : Operand} : reserve C (⟨dst, .binOp op xt x y yt, ty, p, af, g⟩ :: rest) l = reserve C rest l := reserve_other rfl
@[simp] theorem reserve_un {op : UnOp} {xt : TypeId} {x : Operand} : reserve C (⟨dst, .unOp op xt x, ty, p, af, g⟩ :: rest) l = reserve C rest l := reserve_other rfl
@[simp] theorem reserve_extract {x : Operand} {i : Nat} : reserve C (⟨dst, .extract x i, ty, p, af, g⟩ :: rest) l = reserve C rest l := reserve_other rfl
@[simp] theorem reserve_field {s : TypeId} {x : Operand} {f : Nat} : reserve C (⟨dst, .fieldAddr s x f, ty, p, af, g⟩ :: rest) l = reserve C rest l := reserve_other rfl
@[simp] theorem reserve_index {t : TypeId} {x i : Operand} : reserve C (⟨dst, .indexAddr t x i, ty, p, af, g⟩ :: rest) l = reserve C rest l := reserve_other rfl
@[simp] theorem reserve_build {t : TypeId} {parts : Array (Nat × Operand)} : reserve C (⟨dst, .build t parts, ty, p, af, g⟩ :: rest) l = reserve C rest l := reserve_other rfl
@[simp] theorem reserve_buildSlice {t : TypeId} {n : Nat} {parts : Array (Nat × Operand)} : reserve C (⟨dst, .buildSlice t n parts, ty, p, af, g⟩ :: rest) l = reserve C rest l := reserve_other rfl
@[simp] theorem reserve_load {t : TypeId} {x : Operand} : reserve C (⟨dst, .load t x, ty, p, af, g⟩ :: rest) l = reserve C rest l := reserve_other rfl
@[simp] theorem reserve_store {t : TypeId} {x y : Operand} : reserve C (⟨dst, .store t x y, ty, p, af, g⟩ :: rest) l = reserve C rest l := reserve_other rfl
@[simp] theorem reserve_call {c : Call} : reserve C (⟨dst, .call c, ty, p, af, g⟩ :: rest) l = reserve C rest l := reserve_other rfl
@[simp] theorem reserve_nilCheck {x : Operand} : reserve C (⟨dst, .nilCheck x, ty, p, af, g⟩ :: rest) l = reserve C rest l := reserve_other rfl
@[simp] theorem reserve_slice {t : TypeId} {x : Operand} {lo hi mx : Option Operand} : reserve C (⟨dst, .slice t x lo hi mx, ty, p, af, g⟩ :: rest) l = reserve C rest l := reserve_other rfl
end
def loopK (I : Nat → St → Prop) (Q : Ex → St → Prop) (m : Nat) : Ex → St → Prop := fun e s' => match e with
  | .normal => ∃ k, k < m ∧ I k s'
  | e => Q e s'
@[simp] theorem loopK_exit {I : Nat → St → Prop} {Q : Ex → St → Prop} {m id : Nat} {st : St} : loopK I Q m (.exit id) st = Q (.exit id) st := rfl
@[simp] theorem loopK_ret {I : Nat → St → Prop} {Q : Ex → St → Prop} {m : Nat} {st : St} : loopK I Q m .ret st = Q .ret st := rfl
theorem loopK_normal {I : Nat → St → Prop} {Q : Ex → St → Prop} {m : Nat} {st : St} (k : Nat) (hk : k < m) (h : I k st) : loopK I Q m .normal st := ⟨k, hk, h⟩
def resP (C : Cfg) (st : St) : List ResultVar → (List PV → Prop) → Prop
  | [], k => k []
  | .tmp t :: rs, k => resP C st rs fun ps => k (st.env t :: ps)
  | .cell x t :: rs, k => match C.T t with
    | some d => match st.env x with
      | .one (.box fd tt v off) => match readBox st fd tt v with
        | some cs => off + d.size ≤ cs.length ∧ resP C st rs fun ps => k ((if fd = st.σ.length then mkPV d.isAgg ((cs.drop off).take d.size) else erV (mkPV d.isAgg ((cs.drop off).take d.size))) :: ps)
        | none => False
      | _ => False
    | none => False
theorem resP_sound {C : Cfg} {st : St} : ∀ (rs : List ResultVar) (k : List PV → Prop), resP C st rs k → ∃ ps, resAll C st rs ps ∧ k ps
  | [], k, h => ⟨[], rfl, h⟩
  | .tmp t :: rs, k, h => by
    obtain ⟨ps, h1, h2⟩ := resP_sound rs _ h
    exact ⟨_, ⟨_, ps, rfl, h1, rfl⟩, h2⟩
  | .cell x t :: rs, k, h => by
    simp only [resP] at h
    split at h
    · rename_i d hd
      split at h
      · rename_i fd tt v off hx
        split at h
        · rename_i cs hcs
          obtain ⟨h0, h⟩ := h
          obtain ⟨ps, h1, h2⟩ := resP_sound rs _ h
          refine ⟨_, ⟨_, ps, ?_, h1, rfl⟩, h2⟩
          simp only [resOne, loadR, hx]
          exact ⟨d, hd, cs, hcs, h0, rfl⟩
        · exact h.elim
      · exact h.elim
    · exact h.elim
@[simp] theorem endOk_val {st : St} {q p : PV} : endOk st q (.val p) = (flatV q = true ∧ p = erV q) := rfl
@[simp] theorem resP_nil {C : Cfg} {st : St} {k : List PV → Prop} : resP C st [] k = k [] := rfl
@[simp] theorem resP_tmp {C : Cfg} {st : St} {k : List PV → Prop} {t : Nat} {rs : List ResultVar} : resP C st (.tmp t :: rs) k = resP C st rs fun ps => k (st.env t :: ps) := rfl
@[simp] theorem resP_cell {C : Cfg} {st : St} {k : List PV → Prop} {x : Nat} {t : TypeId} {rs : List ResultVar} : resP C st (.cell x t :: rs) k = match C.T t with
    | some d => match st.env x with
      | .one (.box fd tt v off) => match readBox st fd tt v with
        | some cs => off + d.size ≤ cs.length ∧ resP C st rs fun ps => k ((if fd = st.σ.length then mkPV d.isAgg ((cs.drop off).take d.size) else erV (mkPV d.isAgg ((cs.drop off).take d.size))) :: ps)
        | none => False
      | _ => False
    | none => False := rfl
@[simp] theorem resPV_one {p : PV} : resPV [p] = p := rfl
@[simp] theorem resPV_two {p q : PV} : resPV [p, q] = .tup [p, q] := rfl
@[simp] theorem resPV_three {p q r : PV} : resPV [p, q, r] = .tup [p, q, r] := rfl
@[simp] theorem flatC_int (k : IntKind) (n : Int) : flatC (.int k n) = true := by simp [flatC]
@[simp] theorem flatC_bool (b : Bool) : flatC (.bool b) = true := by simp [flatC]
@[simp] theorem flatC_slice (o : Own) (sz : Nat) (es : List (List Cell)) : flatC (.slice o sz es) = flatLL es := by simp [flatC]
@[simp] theorem flatL_nil : flatL [] = true := rfl
@[simp] theorem flatL_cons (c : Cell) (cs : List Cell) : flatL (c :: cs) = (flatC c && flatL cs) := rfl
@[simp] theorem flatLL_nil : flatLL [] = true := rfl
@[simp] theorem flatLL_cons (c : List Cell) (cs : List (List Cell)) : flatLL (c :: cs) = (flatL c && flatLL cs) := rfl
@[simp] theorem flatL_enc (t : Ty) : flatL (enc t) = true := enc_flat t
@[simp] theorem flatLL_enc (l : List Ty) : flatLL (l.map enc) = true := flatLL_of fun e he => by
  obtain ⟨x, _, rfl⟩ := List.mem_map.1 he
  exact enc_flat x
theorem flatLL_append (a b : List (List Cell)) : flatLL (a ++ b) = (flatLL a && flatLL b) := by
  induction a with
  | nil => simp
  | cons x a ih => simp [ih, Bool.and_assoc]
@[simp] theorem fillC_nil {fs : List (Nat × Nat)} {cs : List Cell} : fillC fs cs [] = some cs := rfl
@[simp] theorem fillC_cons {fs : List (Nat × Nat)} {cs : List Cell} {i : Nat} {p : PV} {rest : List (Nat × PV)} : fillC fs cs ((i, p) :: rest) = match fs[i]?, p.cells with
    | some (off, size), some ns => if ns.length = size ∧ off + ns.length ≤ cs.length then fillC fs (splice cs off ns) rest else none
    | _, _ => none := rfl
@[simp] theorem elemsOf_nil {j : Nat} : elemsOf j [] = some [] := rfl
@[simp] theorem elemsOf_cons {j i : Nat} {p : PV} {rest : List (Nat × PV)} : elemsOf j ((i, p) :: rest) = match p.cells, elemsOf (j + 1) rest with
    | some ns, some es => if i = j then some (ns.map erC :: es) else none
    | _, _ => none := rfl
@[simp] theorem splice_eq (cs : List Cell) (off : Nat) (ns : List Cell) : splice cs off ns = cs.take off ++ ns ++ cs.drop (off + ns.length) := rfl
@[simp] theorem okOwn_full {l : Live} : okOwn l .full = True := rfl
@[simp] theorem okOwn_tip {l : Live} {k : Nat} : okOwn l (.tip k) = (l.on k = true) := rfl
@[simp] theorem grown_on {l : Live} {ow : Own} : (grownLive l ow).on l.nx = true := by simp [grownLive]
def wpP (C : Cfg) : SC → (Ex → St → Prop) → St → Prop
  | .skip, Q, st => Q .normal st
  | .ops l keep, Q, st => opsP C (nextK Q keep) l st
  | .draw l fl keep, Q, st => ∃ W, opsPD C W (fun d => (st.loc d).length) (nextK Q keep) fl l { st with loc := reserve C (l.map SOp.oper) st.loc }
  | .seq a b, Q, st => wpP C a (fun e s => match e with
    | .normal => wpP C b Q s
    | e => Q e s) st
  | .cond c a b, Q, st => match oper C st.env c with
    | .one (.bool t) => if t = true then wpP C a Q st else wpP C b Q st
    | _ => False
  | .block id c, Q, st => wpP C c (blockEx id Q) st
  | .exit id, Q, st => Q (.exit id) st
  | .ret, Q, st => Q .ret st
  | .loop b, Q, st => wpS C (.loop b) Q st
  | .bad, _, _ => False
theorem wpP_sound {C : Cfg} : ∀ (c : SC) (Q : Ex → St → Prop) (st : St), wpP C c Q st → wpS C c Q st := by
  intro c
  induction c with
  | skip => exact fun Q st h => h
  | ops l keep => exact fun Q st h => opsP_sound _ _ h
  | draw l fl keep => exact fun Q st ⟨W, h⟩ => ⟨W, opsPD_sound _ _ _ h⟩
  | seq a b iha ihb =>
    intro Q st h
    refine wpS_mono a (fun e s hs => ?_) (iha _ _ h)
    cases e with
    | normal => exact ihb _ _ hs
    | exit id => exact hs
    | ret => exact hs
  | cond c a b iha ihb =>
    intro Q st h
    simp only [wpP] at h
    split at h
    · rename_i t ht
      refine ⟨t, ht, ?_⟩
      split at h
      · rename_i e; rw [if_pos e]; exact iha _ _ h
      · rename_i e; rw [if_neg e]; exact ihb _ _ h
    · exact h.elim
  | block id c ih => exact fun Q st h => ih _ _ h
  | loop c ih => exact fun Q st h => h
  | exit id => exact fun Q st h => h
  | ret => exact fun Q st h => h
  | bad => exact fun Q st h => h
def seqP (C : Cfg) (b : SC) (Q : Ex → St → Prop) : Ex → St → Prop := fun e s => match e with
  | .normal => wpP C b Q s
  | e => Q e s
section
variable {C : Cfg} {Q : Ex → St → Prop} {st : St}
@[simp] theorem seqP_normal {b : SC} : seqP C b Q .normal st = wpP C b Q st := rfl
@[simp] theorem seqP_exit {b : SC} {id : Nat} : seqP C b Q (.exit id) st = Q (.exit id) st := rfl
@[simp] theorem seqP_ret {b : SC} : seqP C b Q .ret st = Q .ret st := rfl
@[simp] theorem wpP_ops {l : List SOp} {keep : List Nat} : wpP C (.ops l keep) Q st = opsP C (nextK Q keep) l st := rfl
@[simp] theorem wpP_seq {a b : SC} : wpP C (.seq a b) Q st = wpP C a (seqP C b Q) st := rfl
@[simp] theorem wpP_skip : wpP C .skip Q st = Q .normal st := rfl
@[simp] theorem wpP_exit {id : Nat} : wpP C (.exit id) Q st = Q (.exit id) st := rfl
@[simp] theorem wpP_ret : wpP C .ret Q st = Q .ret st := rfl
@[simp] theorem wpP_cond {c : Operand} {a b : SC} : wpP C (.cond c a b) Q st = match oper C st.env c with
    | .one (.bool t) => if t = true then wpP C a Q st else wpP C b Q st
    | _ => False := rfl
@[simp] theorem wpP_block {id : Nat} {c : SC} : wpP C (.block id c) Q st = wpP C c (blockEx id Q) st := rfl
theorem wpP_draw (W : Nat → Nat → Nat → Bool) {l : List SOp} {fl : List Bool} {keep : List Nat} (h : opsPD C W (fun d => (st.loc d).length) (nextK Q keep) fl l { st with loc := reserve C (l.map SOp.oper) st.loc }) : wpP C (.draw l fl keep) Q st := ⟨W, h⟩
theorem callP_mono {k k' : St → Prop} {dst : Option Nat} {c : Call} {ty : TypeId} (hi : ∀ s, k s → k' s) (h : callP C dst c ty k st) : callP C dst c ty k' st := by
  unfold callP at h ⊢
  split at h
  · unfold lenP at h ⊢
    split at h
    · repeat' (split at h)
      all_goals simp_all
    · exact h.elim
  · unfold appendP at h ⊢
    split at h
    · obtain ⟨h0, h⟩ := h
      refine ⟨h0, ?_⟩
      repeat' (split at h)
      all_goals simp_all
    · exact h.elim
  · exact opV_mono hi h
theorem opP_mono {k k' : St → Prop} {dst : Option Nat} {op : Op} {ty : TypeId} (hi : ∀ s, k s → k' s) (h : opP C dst op ty k st) : opP C dst op ty k' st := by
  cases op <;> simp only [opP] at h ⊢ <;> first
    | exact hi _ h
    | exact callP_mono hi h
    | exact opV_mono hi h
    | skip
  all_goals repeat' (split at h)
  all_goals first
    | (exact h.elim; done)
    | (simp_all; done)
    | skip
  all_goals first
    | exact ⟨h.1, h.2.1, h.2.2.1, hi _ h.2.2.2⟩
    | exact opV_mono hi h
theorem opsP_mono {K K' : St → Prop} (hi : ∀ s, K s → K' s) : ∀ (l : List SOp) (st : St), opsP C K l st → opsP C K' l st
  | [], _, h => hi _ h
  | ⟨dst, op, ty, .always⟩ :: l, st, h => opP_mono (fun s hs => opsP_mono hi l s hs) h
  | ⟨dst, op, ty, .tmp t want⟩ :: l, st, h => by
    rw [opsP_guard] at h ⊢
    split at h
    · split at h
      · rename_i e; simp only [e]; exact opP_mono (fun s hs => opsP_mono hi l s hs) (by simpa [e] using h)
      · rename_i e; simp only [if_neg e]; exact opsP_mono hi l _ h
    · exact opsP_mono hi l _ h
    · exact h.elim
  | ⟨_, _, _, .bad⟩ :: _, _, h => h.elim
theorem opPD_mono {k k' : St → Prop} {W : Nat → Nat → Nat → Bool} {vs : Nat → Nat} {fr : Bool} {dst : Option Nat} {op : Op} {ty : TypeId} (hi : ∀ s, k s → k' s) (h : opPD C W vs fr dst op ty k st) : opPD C W vs fr dst op ty k' st := by
  cases op <;> simp only [opPD] at h ⊢ <;> first
    | exact opP_mono hi h
    | exact ⟨h.1, opP_mono hi h.2⟩
    | skip
  · split at h
    · exact ⟨h.1, h.2.1, hi _ h.2.2⟩
    · exact h.elim
  · split at h
    · exact opP_mono hi h
    · exact opP_mono hi h
    · exact stepD_mono hi h
theorem opsPD_mono {K K' : St → Prop} {W : Nat → Nat → Nat → Bool} {vs : Nat → Nat} (hi : ∀ s, K s → K' s) : ∀ (l : List SOp) (fl : List Bool) (st : St), opsPD C W vs K fl l st → opsPD C W vs K' fl l st
  | [], fl, _, h => by simp only [opsPD] at h ⊢; exact hi _ h
  | s :: l, [], st, h => by simp only [opsPD] at h
  | ⟨dst, op, ty, .always⟩ :: l, fr :: fl, st, h => opPD_mono (fun s hs => opsPD_mono hi l fl s hs) h
  | ⟨dst, op, ty, .tmp t want⟩ :: l, fr :: fl, st, h => by
    rw [opsPD_guard] at h ⊢
    split at h
    · split at h
      · rename_i e; simp only [e]; exact opPD_mono (fun s hs => opsPD_mono hi l fl s hs) (by simpa [e] using h)
      · rename_i e; simp only [if_neg e]; exact opsPD_mono hi l fl _ h
    · exact opsPD_mono hi l fl _ h
    · exact h.elim
  | ⟨_, _, _, .bad⟩ :: _, fr :: _, _, h => by simp only [opsPD] at h
theorem wpP_mono : ∀ (c : SC) {Q Q' : Ex → St → Prop} {st : St}, (∀ e s, Q e s → Q' e s) → wpP C c Q st → wpP C c Q' st := by
  intro c
  induction c with
  | skip => exact fun hi h => hi _ _ h
  | ops l keep => exact fun hi h => opsP_mono (fun s hs => hi _ _ hs) l _ h
  | draw l fl keep => exact fun hi ⟨W, h⟩ => ⟨W, opsPD_mono (fun s hs => hi _ _ hs) l fl _ h⟩
  | seq a b iha ihb =>
    intro Q Q' st hi h
    refine iha (fun e s hs => ?_) h
    cases e with
    | normal => exact ihb hi hs
    | exit id => exact hi _ _ hs
    | ret => exact hi _ _ hs
  | cond c a b iha ihb =>
    intro Q Q' st hi h
    simp only [wpP] at h ⊢
    split at h
    · split at h
      · rename_i e; rw [if_pos e]; exact iha hi h
      · rename_i e; rw [if_neg e]; exact ihb hi h
    · exact h.elim
  | block id c ih =>
    intro Q Q' st hi h
    refine ih (fun e s hs => ?_) h
    cases e with
    | normal => exact hi _ _ hs
    | ret => exact hi _ _ hs
    | exit i =>
      simp only [blockEx] at hs ⊢
      split at hs
      · rename_i e; rw [if_pos e]; exact hi _ _ hs
      · rename_i e; rw [if_neg e]; exact hi _ _ hs
  | loop c ih => exact fun hi h => wpS_mono (.loop c) hi h
  | exit id => exact fun hi h => hi _ _ h
  | ret => exact fun hi h => hi _ _ h
  | bad => exact fun _ h => h
def cutK (R : St → Prop) (Q : Ex → St → Prop) : Ex → St → Prop
  | .normal, s => R s
  | e, s => Q e s
@[simp] theorem cutK_normal {R : St → Prop} {Q : Ex → St → Prop} : cutK R Q .normal st = R st := rfl
@[simp] theorem cutK_ret {R : St → Prop} {Q : Ex → St → Prop} : cutK R Q .ret st = Q .ret st := rfl
@[simp] theorem cutK_exit {R : St → Prop} {Q : Ex → St → Prop} {id : Nat} : cutK R Q (.exit id) st = Q (.exit id) st := rfl
theorem wpP_cut (R : St → Prop) {a b : SC} {Q : Ex → St → Prop} (h1 : wpP C a (cutK R Q) st) (h2 : ∀ s, R s → wpP C b Q s) : wpP C (.seq a b) Q st :=
  wpP_mono a (fun e s hs => by
    cases e with
    | normal => exact h2 s hs
    | ret => exact hs
    | exit id => exact hs) h1
theorem wpP_assoc {a b c : SC} {Q : Ex → St → Prop} (h : wpP C (.seq (.seq a b) c) Q st) : wpP C (.seq a (.seq b c)) Q st := by
  simp only [wpP_seq] at h ⊢
  refine wpP_mono a (fun e s hs => ?_) h
  cases e with
  | normal => exact hs
  | ret => exact hs
  | exit id => exact hs
theorem cut2 (R : St → Prop) {a b c : SC} {Q : Ex → St → Prop} (h1 : wpP C (.seq a b) (cutK R Q) st) (h2 : ∀ s, R s → wpP C c Q s) : wpP C (.seq a (.seq b c)) Q st := wpP_assoc (wpP_cut R h1 h2)
theorem cut3 (R : St → Prop) {a b c d : SC} {Q : Ex → St → Prop} (h1 : wpP C (.seq (.seq a b) c) (cutK R Q) st) (h2 : ∀ s, R s → wpP C d Q s) : wpP C (.seq a (.seq b (.seq c d))) Q st := wpP_assoc (cut2 R h1 h2)
theorem cut4 (R : St → Prop) {a b c d e : SC} {Q : Ex → St → Prop} (h1 : wpP C (.seq (.seq (.seq a b) c) d) (cutK R Q) st) (h2 : ∀ s, R s → wpP C e Q s) : wpP C (.seq a (.seq b (.seq c (.seq d e)))) Q st := wpP_assoc (cut3 R h1 h2)
theorem cut (R : St → Prop) {a b : SC} {Q : Ex → St → Prop} (h1 : wpP C a (cutK R Q) st) (h2 : ∀ s, R s → wpP C b Q s) : wpP C a (seqP C b Q) st := wpP_cut R h1 h2
theorem wpP_loop (I : Nat → St → Prop) (n : Nat) {c : SC} (h0 : I n st) (hI : ∀ m s, I m s → wpP C c (loopK I Q m) s) : wpP C (.loop c) Q st := by
  refine wpS_loop I n h0 fun m s hs => ?_
  exact wpS_mono c (fun e s' h => by cases e <;> exact h) (wpP_sound _ _ _ (hI m s hs))
def QEndP (C : Cfg) (rs : List ResultVar) (σ' : List Frm) (r : Ret) (ex : Ex) (st : St) : Prop := match ex with
  | .exit _ => False
  | _ => resP C st rs fun ps => st.σ = σ' ∧ endOk st (resPV ps) r
@[simp] theorem QEndP_ret {rs : List ResultVar} {σ' : List Frm} {r : Ret} : QEndP C rs σ' r .ret st = resP C st rs fun ps => st.σ = σ' ∧ endOk st (resPV ps) r := rfl
@[simp] theorem QEndP_normal {rs : List ResultVar} {σ' : List Frm} {r : Ret} : QEndP C rs σ' r .normal st = resP C st rs fun ps => st.σ = σ' ∧ endOk st (resPV ps) r := rfl
theorem wpP_end {sc : SC} {rs : List ResultVar} {σ' : List Frm} {r : Ret} (h : wpP C sc (QEndP C rs σ' r) st) : wpS C sc (QEnd C rs σ' r) st := by
  refine wpS_mono sc (fun e s hs => ?_) (wpP_sound _ _ _ h)
  cases e with
  | exit id => exact hs
  | ret => exact resP_sound _ _ hs
  | normal => exact resP_sound _ _ hs
end
theorem callsV_of_p {C : Cfg} (hm : C.P.follows .mixedOrders = true) (hT : ∀ t d, C.T t = some d → TyFits C.P t d) (ann : List Ann) {f : FuncId} {fn : Func} {c : Code} {sc : SC} {ps : List PV} {σ σ' : List Frm} {r : Ret} (hf : C.P.funcs[f]? = some fn) (hb : fn.body = some c)
    (hname : (fn.name == "runtime.NumGoroutine") = false) (hok : codeOk fn.ntmps c = true) (hd : drawsOk ann c = true) (hsc : strip ann c = sc) (rs : List ResultVar) (hrs : fn.results.toList = rs) (hr : ∀ p, r = .val p → erV p = p)
    (h : wpP C sc (QEndP C rs σ' r) ⟨initEnv ps, fun _ => [], σ, ⟨fun _ => false, 0⟩⟩) : CallsV C f ps σ r σ' :=
  callsV_of_sc hm hT ann hf hb hname hok hd hsc rs hrs hr (wpP_end h)
@[simp] theorem enc_app_take2 (t : Ty) (l : List Cell) : (enc t ++ l).take 2 = enc t := by rw [enc_eq]; try rfl
@[simp] theorem enc_app_take1 (t : Ty) (l : List Cell) : (enc t ++ l).take 1 = [.int .i64 t.kind] := by rw [enc_eq]; try rfl
@[simp] theorem enc_app_drop2 (t : Ty) (l : List Cell) : (enc t ++ l).drop 2 = l := by rw [enc_eq]; try rfl
@[simp] theorem enc_app_drop1 (t : Ty) (l : List Cell) : (enc t ++ l).drop 1 = .slice .no 2 (t.args.map enc) :: l := by rw [enc_eq]; try rfl
@[simp] theorem enc_app_drop3 (t : Ty) (l : List Cell) : (enc t ++ l).drop 3 = l.drop 1 := by rw [enc_eq]; try rfl
@[simp] theorem enc_app_drop4 (t : Ty) (l : List Cell) : (enc t ++ l).drop 4 = l.drop 2 := by rw [enc_eq]; try rfl
@[simp] theorem enc_app_take3 (t : Ty) (l : List Cell) : (enc t ++ l).take 3 = enc t ++ l.take 1 := by rw [enc_eq]; try rfl
@[simp] theorem enc_take1 (t : Ty) : (enc t).take 1 = [.int .i64 t.kind] := by rw [enc_eq]; try rfl
@[simp] theorem enc_drop1 (t : Ty) : (enc t).drop 1 = [.slice .no 2 (t.args.map enc)] := by rw [enc_eq]; try rfl
@[simp] theorem Ty.kind_mk (k : Int) (l : List Ty) : (Ty.mk k l).kind = k := rfl
@[simp] theorem Ty.args_mk (k : Int) (l : List Ty) : (Ty.mk k l).args = l := rfl
theorem flatL_append (a b : List Cell) : flatL (a ++ b) = (flatL a && flatL b) := by
  induction a with
  | nil => simp
  | cons x a ih => simp [ih, Bool.and_assoc]
inductive Tm where
  | mk (kind index : Int) (type : Ty) (args : List Tm)
def Tm.kind : Tm → Int | .mk k _ _ _ => k
def Tm.index : Tm → Int | .mk _ i _ _ => i
def Tm.type : Tm → Ty | .mk _ _ t _ => t
def Tm.args : Tm → List Tm | .mk _ _ _ l => l
@[simp] theorem Tm.kind_mk (k i : Int) (t : Ty) (l : List Tm) : (Tm.mk k i t l).kind = k := rfl
@[simp] theorem Tm.index_mk (k i : Int) (t : Ty) (l : List Tm) : (Tm.mk k i t l).index = i := rfl
@[simp] theorem Tm.type_mk (k i : Int) (t : Ty) (l : List Tm) : (Tm.mk k i t l).type = t := rfl
@[simp] theorem Tm.args_mk (k i : Int) (t : Ty) (l : List Tm) : (Tm.mk k i t l).args = l := rfl
theorem Tm.ind {P : Tm → Prop} (h : ∀ k i t l, (∀ x ∈ l, P x) → P (.mk k i t l)) : ∀ t, P t
  | .mk k i t l => h k i t l fun x _ => Tm.ind h x
mutual
def encT : Tm → List Cell
  | .mk k i t l => .int .i64 k :: .int .i64 i :: (enc t ++ [.slice .no 5 (encTs l)])
def encTs : List Tm → List (List Cell)
  | [] => []
  | x :: l => encT x :: encTs l
end
theorem encTs_eq (l : List Tm) : encTs l = l.map encT := by
  induction l with
  | nil => rfl
  | cons x l ih => simp only [encTs, List.map_cons, ih]
@[simp] theorem encT_mk (k i : Int) (t : Ty) (l : List Tm) : encT (.mk k i t l) = .int .i64 k :: .int .i64 i :: (enc t ++ [.slice .no 5 (l.map encT)]) := by rw [encT, encTs_eq]
@[simp] theorem encT_length (t : Tm) : (encT t).length = 5 := by cases t; simp
@[simp] theorem encT_er (t : Tm) : (encT t).map erC = encT t := by cases t; simp
@[simp] theorem encT_er' (t : Tm) : List.map (fun c => erC c) (encT t) = encT t := encT_er t
@[simp] theorem encT_take (t : Tm) : (encT t).take 5 = encT t := List.take_of_length_le (by simp)
@[simp] theorem encT_flat (t : Tm) : flatL (encT t) = true := by
  induction t using Tm.ind with
  | _ k i t l ih =>
    rw [encT_mk]
    simp [flatL_append]
    exact flatLL_of fun e he => by
      obtain ⟨x, hx, rfl⟩ := List.mem_map.1 he
      exact ih x hx
@[simp] theorem flatLL_encT (l : List Tm) : flatLL (l.map encT) = true := flatLL_of fun e he => by
  obtain ⟨x, _, rfl⟩ := List.mem_map.1 he
  exact encT_flat x
mutual
def Tm.size : Tm → Nat
  | .mk _ _ t l => 1 + t.size + Tm.sizes l
def Tm.sizes : List Tm → Nat
  | [] => 0
  | x :: l => x.size + Tm.sizes l
end
@[simp] theorem Tm.size_mk (k i : Int) (t : Ty) (l : List Tm) : (Tm.mk k i t l).size = 1 + t.size + Tm.sizes l := by rw [Tm.size]
@[simp] theorem Tm.sizes_nil : Tm.sizes [] = 0 := rfl
@[simp] theorem Tm.sizes_cons (x : Tm) (l : List Tm) : Tm.sizes (x :: l) = x.size + Tm.sizes l := by rw [Tm.sizes]
@[simp] theorem Tm.sizes_append (l m : List Tm) : Tm.sizes (l ++ m) = Tm.sizes l + Tm.sizes m := by
  induction l with
  | nil => simp
  | cons x l ih => simp [ih]; omega
theorem Tm.size_pos (t : Tm) : 1 ≤ t.size := by cases t; simp; omega
theorem Tm.length_le (l : List Tm) : l.length ≤ Tm.sizes l := by
  induction l with
  | nil => simp
  | cons x l ih => have := x.size_pos; simp; omega
theorem Tm.sizes_mem {x : Tm} {l : List Tm} (h : x ∈ l) : x.size ≤ Tm.sizes l := by
  induction l with
  | nil => simp at h
  | cons y l ih =>
    rcases List.mem_cons.1 h with rfl | h
    · simp
    · have := ih h; simp; omega
theorem Tm.sizes_take {l : List Tm} {j : Nat} {x : Tm} (hx : l[j]? = some x) : Tm.sizes (l.take (j + 1)) = Tm.sizes (l.take j) + x.size := by
  rw [List.take_add_one, hx]
  simp
theorem Tm.sizes_take_le (l : List Tm) (j : Nat) : Tm.sizes (l.take j) ≤ Tm.sizes l := by
  have h := Tm.sizes_append (l.take j) (l.drop j)
  rw [List.take_append_drop] at h
  omega
inductive Fm where
  | mk (kind : Int) (type : Ty) (terms : List Tm) (args : List Fm)
def Fm.kind : Fm → Int | .mk k _ _ _ => k
def Fm.type : Fm → Ty | .mk _ t _ _ => t
def Fm.terms : Fm → List Tm | .mk _ _ m _ => m
def Fm.args : Fm → List Fm | .mk _ _ _ l => l
@[simp] theorem Fm.kind_mk (k : Int) (t : Ty) (m : List Tm) (l : List Fm) : (Fm.mk k t m l).kind = k := rfl
@[simp] theorem Fm.type_mk (k : Int) (t : Ty) (m : List Tm) (l : List Fm) : (Fm.mk k t m l).type = t := rfl
@[simp] theorem Fm.terms_mk (k : Int) (t : Ty) (m : List Tm) (l : List Fm) : (Fm.mk k t m l).terms = m := rfl
@[simp] theorem Fm.args_mk (k : Int) (t : Ty) (m : List Tm) (l : List Fm) : (Fm.mk k t m l).args = l := rfl
theorem Fm.ind {P : Fm → Prop} (h : ∀ k t m l, (∀ x ∈ l, P x) → P (.mk k t m l)) : ∀ t, P t
  | .mk k t m l => h k t m l fun x _ => Fm.ind h x
mutual
def encF : Fm → List Cell
  | .mk k t m l => .int .i64 k :: (enc t ++ [.slice .no 5 (m.map encT), .slice .no 5 (encFs l)])
def encFs : List Fm → List (List Cell)
  | [] => []
  | x :: l => encF x :: encFs l
end
theorem encFs_eq (l : List Fm) : encFs l = l.map encF := by
  induction l with
  | nil => rfl
  | cons x l ih => simp only [encFs, List.map_cons, ih]
@[simp] theorem encF_mk (k : Int) (t : Ty) (m : List Tm) (l : List Fm) : encF (.mk k t m l) = .int .i64 k :: (enc t ++ [.slice .no 5 (m.map encT), .slice .no 5 (l.map encF)]) := by rw [encF, encFs_eq]
@[simp] theorem encF_length (t : Fm) : (encF t).length = 5 := by cases t; simp
@[simp] theorem encF_er (t : Fm) : (encF t).map erC = encF t := by cases t; simp
@[simp] theorem encF_er' (t : Fm) : List.map (fun c => erC c) (encF t) = encF t := encF_er t
@[simp] theorem encF_take (t : Fm) : (encF t).take 5 = encF t := List.take_of_length_le (by simp)
@[simp] theorem encF_flat (t : Fm) : flatL (encF t) = true := by
  induction t using Fm.ind with
  | _ k t m l ih =>
    rw [encF_mk]
    simp [flatL_append]
    exact flatLL_of fun e he => by
      obtain ⟨x, hx, rfl⟩ := List.mem_map.1 he
      exact ih x hx
@[simp] theorem flatLL_encF (l : List Fm) : flatLL (l.map encF) = true := flatLL_of fun e he => by
  obtain ⟨x, _, rfl⟩ := List.mem_map.1 he
  exact encF_flat x
mutual
def Fm.size : Fm → Nat
  | .mk _ t m l => 1 + t.size + Tm.sizes m + Fm.sizes l
def Fm.sizes : List Fm → Nat
  | [] => 0
  | x :: l => x.size + Fm.sizes l
end
@[simp] theorem Fm.size_mk (k : Int) (t : Ty) (m : List Tm) (l : List Fm) : (Fm.mk k t m l).size = 1 + t.size + Tm.sizes m + Fm.sizes l := by rw [Fm.size]
@[simp] theorem Fm.sizes_nil : Fm.sizes [] = 0 := rfl
@[simp] theorem Fm.sizes_cons (x : Fm) (l : List Fm) : Fm.sizes (x :: l) = x.size + Fm.sizes l := by rw [Fm.sizes]
@[simp] theorem Fm.sizes_append (l m : List Fm) : Fm.sizes (l ++ m) = Fm.sizes l + Fm.sizes m := by
  induction l with
  | nil => simp
  | cons x l ih => simp [ih]; omega
theorem Fm.size_pos (t : Fm) : 1 ≤ t.size := by cases t; simp; omega
theorem Fm.length_le (l : List Fm) : l.length ≤ Fm.sizes l := by
  induction l with
  | nil => simp
  | cons x l ih => have := x.size_pos; simp; omega
theorem Fm.sizes_mem {x : Fm} {l : List Fm} (h : x ∈ l) : x.size ≤ Fm.sizes l := by
  induction l with
  | nil => simp at h
  | cons y l ih =>
    rcases List.mem_cons.1 h with rfl | h
    · simp
    · have := ih h; simp; omega
theorem Fm.sizes_take {l : List Fm} {j : Nat} {x : Fm} (hx : l[j]? = some x) : Fm.sizes (l.take (j + 1)) = Fm.sizes (l.take j) + x.size := by
  rw [List.take_add_one, hx]
  simp
theorem Fm.sizes_take_le (l : List Fm) (j : Nat) : Fm.sizes (l.take j) ≤ Fm.sizes l := by
  have h := Fm.sizes_append (l.take j) (l.drop j)
  rw [List.take_append_drop] at h
  omega
end Go.Proofs.YtnpgbkldpdogjaaGreatDoor.V

namespace Go.Proofs.YtnpgbkldpdogjaaGreatDoor.V
open Go
def rangeK (b b2 : Nat) (P : St → Prop) (Q : Ex → St → Prop) : Ex → St → Prop
  | .normal, s => P s
  | .exit i, s => if i = b2 then P s else if i = b then Q .normal s else Q (.exit i) s
  | .ret, s => Q .ret s
section
variable {b b2 : Nat} {P : St → Prop} {Q : Ex → St → Prop} {s : St}
@[simp] theorem rangeK_normal : rangeK b b2 P Q .normal s = P s := rfl
@[simp] theorem rangeK_ret : rangeK b b2 P Q .ret s = Q .ret s := rfl
@[simp] theorem rangeK_exit {i : Nat} : rangeK b b2 P Q (.exit i) s = if i = b2 then P s else if i = b then Q .normal s else Q (.exit i) s := rfl
theorem wpP_range {C : Cfg} {ti tn tc ta : Nat} {k1 k2 : List Nat} {x1 x2 y1 y2 t1 t2 t3 : TypeId} {body : SC} {st : St} (N : Nat) (I : Nat → St → Prop) (hN : (N : Int) ≤ 4611686018427387904)
    (h0 : I 0 st) (hI : ∀ j s, I j s → s.env ti = .one (.int .i64 j) ∧ s.env tn = .one (.int .i64 N))
    (hstep : ∀ j s, j < N → I j s → wpP C body (rangeK b b2 (fun s2 => s2.env ti = .one (.int .i64 j) ∧ I (j + 1) (keepE (put (put s2 (some ta) (.one (.int .i64 ((j : Int) + 1)))) (some ti) (.one (.int .i64 ((j : Int) + 1)))) k2)) Q) (keepE (put s (some tc) (.one (.bool true))) k1))
    (hk : tc ∈ k1 := by simp)
    (hend : ∀ s, I N s → Q .normal (keepE (put s (some tc) (.one (.bool false))) k1)) :
    wpP C (.loop (.seq (.ops [⟨some tc, .binOp .lss x1 (.tmp ti) (.tmp tn) x2, t1, .always⟩] k1) (.seq (.cond (.tmp tc) .skip (.exit b)) (.seq (.block b2 body)
      (.ops [⟨some ta, .binOp .add y1 (.tmp ti) (.const (.int .i64 1)) y2, t2, .always⟩, ⟨some ti, .move (.tmp ta), t3, .always⟩] k2))))) (blockEx b Q) st := by
  have hkeep : ∀ (l : List Nat) (env : Nat → PV) (t : Nat), t ∈ l → mkE (l.map fun k => (k, env k)) t = env t := by
    intro l env t
    induction l with
    | nil => intro h; simp at h
    | cons x l ih =>
      intro h
      simp only [List.map_cons, mkE_cons]
      by_cases e : t = x
      · subst e; simp
      · rw [if_neg e]; exact ih ((List.mem_cons.1 h).resolve_left e)
  show wpS C (.loop _) (blockEx b Q) st
  refine wpS_loop (fun m s => ∃ j, j ≤ N ∧ m = N - j ∧ I j s) N ⟨0, Nat.zero_le _, rfl, h0⟩ ?_
  rintro m s ⟨j, hj, rfl, hs⟩
  obtain ⟨h1, h2⟩ := hI j s hs
  obtain ⟨env, loc, σ, live⟩ := s
  simp only at h1 h2
  rw [wpS_seq]
  refine opsP_sound _ _ ?_
  simp only [opsP_cons, opsP_nil, opP_bin, oper_tmp, h1, h2, binF_int, intC_lss, Option.map_some, seqK_normal, put_some]
  rw [wpS_seq]
  refine ⟨decide ((j : Int) < N), ?_, ?_⟩
  · simp only [oper_tmp, keepE]
    rw [hkeep _ _ _ hk]
    simp
  by_cases hlt : j < N
  · have hd : decide ((j : Int) < N) = true := by simpa using hlt
    rw [hd, if_pos rfl, wpS_skip, seqK_normal, wpS_seq, wpS_block]
    have key : ∀ s' : St, (s'.env ti = .one (.int .i64 j) ∧ I (j + 1) (keepE (put (put s' (some ta) (.one (.int .i64 ((j : Int) + 1)))) (some ti) (.one (.int .i64 ((j : Int) + 1)))) k2)) →
        wpS C (.ops [⟨some ta, .binOp .add y1 (.tmp ti) (.const (.int .i64 1)) y2, t2, .always⟩, ⟨some ti, .move (.tmp ta), t3, .always⟩] k2) (loopK (fun m s => ∃ j, j ≤ N ∧ m = N - j ∧ I j s) (blockEx b Q) (N - j)) s' := by
      rintro ⟨env', loc', σ', live'⟩ ⟨e1, e2⟩
      refine opsP_sound _ _ ?_
      simp only at e1
      simp only [opsP_cons, opsP_nil, opP_bin, opP_move, oper_tmp, oper_int, operT_tmp, e1, binF_int, intC_add, Option.map_some, put_some, upd_same]
      rw [wrap_id (by omega) (by omega)]
      exact loopK_normal (N - (j + 1)) (by omega) ⟨j + 1, hlt, rfl, e2⟩
    refine wpS_mono body ?_ (wpP_sound _ _ _ (hstep j _ hlt hs))
    intro e s' hs'
    cases e with
    | normal => exact key s' hs'
    | ret => exact hs'
    | exit i =>
      simp only [rangeK_exit] at hs'
      show blockEx b2 _ (.exit i) s'
      simp only [blockEx_exit]
      split at hs'
      · rename_i e; rw [if_pos e]; exact key s' hs'
      · rename_i e
        rw [if_neg e]
        exact hs'
  · have hd : decide ((j : Int) < N) = false := by simpa using hlt
    obtain rfl : j = N := by omega
    rw [hd, if_neg (by simp), wpS_exit, seqK_exit]
    show blockEx b Q (.exit b) _
    simp only [blockEx_exit, if_true]
    rw [← hd]
    rw [hd]
    exact hend _ hs
end
end Go.Proofs.YtnpgbkldpdogjaaGreatDoor.V

namespace Go.Proofs.YtnpgbkldpdogjaaGreatDoor.V
open Go
theorem Ty.sizes_take {l : List Ty} {j : Nat} {x : Ty} (hx : l[j]? = some x) : Ty.sizes (l.take (j + 1)) = Ty.sizes (l.take j) + x.size := by
  rw [List.take_add_one, hx]
  simp
theorem Ty.sizes_take_le (l : List Ty) (j : Nat) : Ty.sizes (l.take j) ≤ Ty.sizes l := by
  have h := Ty.sizes_append (l.take j) (l.drop j)
  rw [List.take_append_drop] at h
  omega
def Ty.check (t : Ty) : Int := if t.ok = true then if t.size ≤ 64 then 0 else 4 else 2
def tmArity (k : Int) : Option Nat := if 1 ≤ k ∧ k < 14 then some ([0, 0, 1, 2, 0, 1, 3, 0, 2, 3, 2, 1, 1, 0].getD k.toNat 0) else none
def tmTyped (k : Int) : Bool := k == 2 || k == 6 || k == 9
def Ty.none : Ty → Bool
  | .mk k l => k == 0 && l.isEmpty
def Tm.head (k i : Int) (t : Ty) (n : Nat) : Bool := tmArity k == some n && decide (0 ≤ i) && (i == 0 || k == 1) && (if tmTyped k = true then t.check == 0 else t.none)
mutual
def Tm.ok : Tm → Bool
  | .mk k i t l => Tm.head k i t l.length && Tm.oks l
def Tm.oks : List Tm → Bool
  | [] => true
  | x :: l => x.ok && Tm.oks l
end
mutual
def Tm.count : Tm → Nat
  | .mk _ _ _ l => 1 + Tm.counts l
def Tm.counts : List Tm → Nat
  | [] => 0
  | x :: l => x.count + Tm.counts l
end
@[simp] theorem Tm.ok_mk (k i : Int) (t : Ty) (l : List Tm) : (Tm.mk k i t l).ok = (Tm.head k i t l.length && Tm.oks l) := by rw [Tm.ok]
@[simp] theorem Tm.oks_nil : Tm.oks [] = true := rfl
@[simp] theorem Tm.oks_cons (x : Tm) (l : List Tm) : Tm.oks (x :: l) = (x.ok && Tm.oks l) := by rw [Tm.oks]
@[simp] theorem Tm.count_mk (k i : Int) (t : Ty) (l : List Tm) : (Tm.mk k i t l).count = 1 + Tm.counts l := by rw [Tm.count]
@[simp] theorem Tm.counts_nil : Tm.counts [] = 0 := rfl
@[simp] theorem Tm.counts_cons (x : Tm) (l : List Tm) : Tm.counts (x :: l) = x.count + Tm.counts l := by rw [Tm.counts]
@[simp] theorem Tm.counts_append (l m : List Tm) : Tm.counts (l ++ m) = Tm.counts l + Tm.counts m := by
  induction l with
  | nil => simp
  | cons x l ih => simp [ih]; omega
theorem Tm.counts_take {l : List Tm} {j : Nat} {x : Tm} (hx : l[j]? = some x) : Tm.counts (l.take (j + 1)) = Tm.counts (l.take j) + x.count := by
  rw [List.take_add_one, hx]
  simp
theorem Tm.counts_take_le (l : List Tm) (j : Nat) : Tm.counts (l.take j) ≤ Tm.counts l := by
  have h := Tm.counts_append (l.take j) (l.drop j)
  rw [List.take_append_drop] at h
  omega
theorem Tm.count_le (t : Tm) : t.count ≤ t.size := by
  induction t using Tm.ind with
  | _ k i t l ih =>
    simp
    have : Tm.counts l ≤ Tm.sizes l := by
      clear k i t
      induction l with
      | nil => simp
      | cons x l ihl =>
        have := ih x (by simp)
        have := ihl fun y hy => ih y (by simp [hy])
        simp
        omega
    omega
theorem Tm.counts_le (l : List Tm) : Tm.counts l ≤ Tm.sizes l := by
  induction l with
  | nil => simp
  | cons x l ih =>
    have := x.count_le
    simp
    omega
def fmArity (k : Int) : Option (Nat × Nat × Bool) := if k = 1 then some (2, 0, false) else if k = 2 ∨ k = 3 then some (0, 2, false) else if k = 4 ∨ k = 5 ∨ k = 6 ∨ k = 7 then some (0, 1, true) else none
def Fm.head (k : Int) (t : Ty) (nt na : Nat) : Bool := match fmArity k with
  | some (a, b, ty) => (if ty = true then t.check == 0 else t.none) && (nt == a && na == b)
  | none => false
mutual
def Fm.ok : Fm → Bool
  | .mk k t m l => Fm.head k t m.length l.length && (Tm.oks m && Fm.oks l)
def Fm.oks : List Fm → Bool
  | [] => true
  | x :: l => x.ok && Fm.oks l
end
mutual
def Fm.count : Fm → Nat
  | .mk _ _ m l => 1 + Tm.counts m + Fm.counts l
def Fm.counts : List Fm → Nat
  | [] => 0
  | x :: l => x.count + Fm.counts l
end
@[simp] theorem Fm.ok_mk (k : Int) (t : Ty) (m : List Tm) (l : List Fm) : (Fm.mk k t m l).ok = (Fm.head k t m.length l.length && (Tm.oks m && Fm.oks l)) := by rw [Fm.ok]
@[simp] theorem Fm.oks_nil : Fm.oks [] = true := rfl
@[simp] theorem Fm.oks_cons (x : Fm) (l : List Fm) : Fm.oks (x :: l) = (x.ok && Fm.oks l) := by rw [Fm.oks]
@[simp] theorem Fm.count_mk (k : Int) (t : Ty) (m : List Tm) (l : List Fm) : (Fm.mk k t m l).count = 1 + Tm.counts m + Fm.counts l := by rw [Fm.count]
@[simp] theorem Fm.counts_nil : Fm.counts [] = 0 := rfl
@[simp] theorem Fm.counts_cons (x : Fm) (l : List Fm) : Fm.counts (x :: l) = x.count + Fm.counts l := by rw [Fm.counts]
@[simp] theorem Fm.counts_append (l m : List Fm) : Fm.counts (l ++ m) = Fm.counts l + Fm.counts m := by
  induction l with
  | nil => simp
  | cons x l ih => simp [ih]; omega
theorem Fm.counts_take {l : List Fm} {j : Nat} {x : Fm} (hx : l[j]? = some x) : Fm.counts (l.take (j + 1)) = Fm.counts (l.take j) + x.count := by
  rw [List.take_add_one, hx]
  simp
theorem Fm.counts_take_le (l : List Fm) (j : Nat) : Fm.counts (l.take j) ≤ Fm.counts l := by
  have h := Fm.counts_append (l.take j) (l.drop j)
  rw [List.take_append_drop] at h
  omega
theorem Fm.count_le (f : Fm) : f.count ≤ f.size := by
  induction f using Fm.ind with
  | _ k t m l ih =>
    simp
    have h1 := Tm.counts_le m
    have : Fm.counts l ≤ Fm.sizes l := by
      clear h1 k t m
      induction l with
      | nil => simp
      | cons x l ihl =>
        have := ih x (by simp)
        have := ihl fun y hy => ih y (by simp [hy])
        simp
        omega
    omega
theorem Fm.counts_le (l : List Fm) : Fm.counts l ≤ Fm.sizes l := by
  induction l with
  | nil => simp
  | cons x l ih =>
    have := x.count_le
    simp
    omega
def Fm.check (f : Fm) : Int := if f.ok = true then if f.count ≤ 4096 then 0 else 4 else 2
def Ty.zero : Ty := .mk 0 []
def join (k : Int) (a b : Ty) : Ty × Bool × Int := if (Ty.mk k [a, b]).check = 0 then (.mk k [a, b], true, 0) else (.zero, false, (Ty.mk k [a, b]).check)
def ofStep (k : Int) (t : Ty) (fst lst : Ty × Bool × Int) : Ty × Bool × Int :=
  if k = 1 then (.zero, false, 0)
  else if lst.2.2 ≠ 0 then (.zero, false, lst.2.2)
  else if k = 2 then
    if fst.2.2 ≠ 0 ∨ fst.2.1 = false then (lst.1, lst.2.1, fst.2.2)
    else if lst.2.1 = false then (fst.1, true, 0) else join 3 fst.1 lst.1
  else if k = 5 then if lst.2.1 = false then (t, true, 0) else join 3 t lst.1
  else if lst.2.1 = false then (.zero, false, 0)
  else if k = 3 then if fst.2.2 ≠ 0 ∨ fst.2.1 = false then (lst.1, true, fst.2.2) else join 4 fst.1 lst.1
  else if k = 4 then join 4 t lst.1
  else (lst.1, true, 0)
mutual
def Fm.cof : Fm → Ty × Bool × Int
  | .mk k t _ l => ofStep k t ((Fm.cofs l).headD (.zero, false, 0)) ((Fm.cofs l).getLastD (.zero, false, 0))
def Fm.cofs : List Fm → List (Ty × Bool × Int)
  | [] => []
  | x :: l => x.cof :: Fm.cofs l
end
theorem Fm.cofs_eq (l : List Fm) : Fm.cofs l = l.map Fm.cof := by
  induction l with
  | nil => rfl
  | cons x l ih => simp only [Fm.cofs, List.map_cons, ih]
theorem Fm.cof_mk (k : Int) (t : Ty) (m : List Tm) (l : List Fm) : (Fm.mk k t m l).cof = ofStep k t ((l.map Fm.cof).headD (.zero, false, 0)) ((l.map Fm.cof).getLastD (.zero, false, 0)) := by rw [Fm.cof, Fm.cofs_eq]
theorem Ty.check_size {t : Ty} (h : t.check = 0) : t.size ≤ 64 := by
  unfold Ty.check at h
  split at h
  · split at h
    · assumption
    · cases h
  · cases h
theorem Fm.shape {k : Int} {t : Ty} {m : List Tm} {l : List Fm} (h : (Fm.mk k t m l).ok = true) :
    (k = 1 ∧ l = []) ∨ ((k = 2 ∨ k = 3) ∧ ∃ y x, l = [y, x] ∧ y.ok = true ∧ x.ok = true) ∨ ((k = 4 ∨ k = 5 ∨ k = 6 ∨ k = 7) ∧ t.check = 0 ∧ ∃ x, l = [x] ∧ x.ok = true) := by
  simp only [Fm.ok_mk, Bool.and_eq_true] at h
  obtain ⟨h1, _, h3⟩ := h
  unfold Fm.head fmArity at h1
  by_cases a1 : k = 1
  · rw [if_pos a1] at h1
    simp at h1
    exact .inl ⟨a1, h1.2.2⟩
  rw [if_neg a1] at h1
  by_cases a2 : k = 2 ∨ k = 3
  · rw [if_pos a2] at h1
    simp at h1
    obtain ⟨y, x, rfl⟩ : ∃ y x, l = [y, x] := by
      match l, h1.2.2 with
      | [y, x], _ => exact ⟨y, x, rfl⟩
    simp at h3
    exact .inr (.inl ⟨a2, y, x, rfl, h3.1, h3.2⟩)
  rw [if_neg a2] at h1
  by_cases a3 : k = 4 ∨ k = 5 ∨ k = 6 ∨ k = 7
  · rw [if_pos a3] at h1
    simp at h1
    obtain ⟨x, rfl⟩ := List.length_eq_one_iff.1 h1.2.2
    simp at h3
    exact .inr (.inr ⟨a3, h1.1, x, rfl, h3⟩)
  · rw [if_neg a3] at h1
    simp at h1
theorem join_size (k : Int) (a b : Ty) : (join k a b).1.size ≤ 64 := by
  unfold join
  split
  · rename_i h; exact Ty.check_size h
  · simp [Ty.zero]
theorem ofStep_size {k : Int} {t : Ty} {f l : Ty × Bool × Int} (hf : f.1.size ≤ 64) (hl : l.1.size ≤ 64) (ht : k = 5 → t.size ≤ 64) : (ofStep k t f l).1.size ≤ 64 := by
  have hz : Ty.zero.size ≤ 64 := by simp [Ty.zero]
  unfold ofStep
  repeat' split
  all_goals first
    | assumption
    | exact join_size _ _ _
    | exact ht (by assumption)
theorem Fm.cof_size (f : Fm) : f.ok = true → f.cof.1.size ≤ 64 := by
  have hz : Ty.zero.size ≤ 64 := by simp [Ty.zero]
  induction f using Fm.ind with
  | _ k t m l ih =>
    intro hok
    rw [Fm.cof_mk]
    rcases Fm.shape hok with ⟨rfl, rfl⟩ | ⟨hk, y, x, rfl, hy, hx⟩ | ⟨hk, ht, x, rfl, hx⟩
    · simp [ofStep, hz]
    · exact ofStep_size (ih y (by simp) hy) (ih x (by simp) hx) (fun h => by omega)
    · exact ofStep_size (ih x (by simp) hx) (ih x (by simp) hx) (fun _ => Ty.check_size ht)
theorem Fm.check_ok {f : Fm} (h : f.check = 0) : f.ok = true := by
  unfold Fm.check at h
  split at h
  · assumption
  · cases h
def ctype (f : Fm) : Ty × Int := if f.check = 0 then if f.cof.2.2 = 0 then if f.cof.2.1 = true then (f.cof.1, 0) else (.mk 5 [], 0) else (.zero, f.cof.2.2) else (.zero, f.check)
def checks : List Ty → Int
  | [] => 0
  | x :: l => if x.check = 0 then checks l else x.check
def ctxCheck (l : List Ty) : Int := if 16 < l.length then 3 else checks l
def look : List Ty → List Int → List Fm → List Ty × List Int × Int
  | ts, ps, [] => (ts, ps, 0)
  | ts, ps, f :: fs => if f.check = 0 then if f.cof.2.2 = 0 then if f.cof.2.1 = true then look (ts ++ [f.cof.1]) (ps ++ [(ts.length : Int)]) fs else look ts (ps ++ [-1]) fs else ([], [], f.cof.2.2) else ([], [], f.check)
def looks (ts : List Ty) (hs : List Fm) : List Ty × List Int × Int := if ctxCheck ts = 0 then if 16 < hs.length then ([], [], 3) else look ts [] hs else ([], [], ctxCheck ts)
theorem ctx_len {l : List Ty} (h : ctxCheck l = 0) : l.length ≤ 16 := by
  unfold ctxCheck at h
  split at h
  · cases h
  · omega
end Go.Proofs.YtnpgbkldpdogjaaGreatDoor.V

namespace Go.Proofs.YtnpgbkldpdogjaaGreatDoor.V
open Go Go.Proofs
def arity : List Cell := [.int .i64 0, .int .i64 0, .int .i64 1, .int .i64 2, .int .i64 0, .int .i64 1, .int .i64 3, .int .i64 0, .int .i64 2, .int .i64 3, .int .i64 2, .int .i64 1, .int .i64 1, .int .i64 0]
noncomputable def cfg : Cfg := ⟨Tryz.prog, tyOf Tryz.prog, fun g => if g = 0 then some arity else none⟩
theorem follows : cfg.P.follows .mixedOrders = true := by kernel_rfl
theorem cfgP : cfg.P = Tryz.prog := by kernel_rfl
theorem cfgTy : cfg.T = tyOf Tryz.prog := by kernel_rfl
theorem cfgT : ∀ t d, cfg.T t = some d → TyFits cfg.P t d := fun t d h => by rw [cfgP]; rw [cfgTy] at h; exact tyOf_fits h
@[simp] theorem T1 : cfg.T 1 = some ⟨.other, 1, 8, [.nilf]⟩ := by kernel_rfl
@[simp] theorem T2 : cfg.T 2 = some ⟨.other, 1, 8, [.int .i64 0]⟩ := by kernel_rfl
@[simp] theorem T3 : cfg.T 3 = some ⟨.other, 1, 8, [.int .i64 0]⟩ := by kernel_rfl
@[simp] theorem T4 : cfg.T 4 = some ⟨.bool, 1, 1, [.bool false]⟩ := by kernel_rfl
@[simp] theorem T5 : cfg.T 5 = some ⟨.other, 1, 1, [.int .u8 0]⟩ := by kernel_rfl
@[simp] theorem T6 : cfg.T 6 = some ⟨.other, 1, 1, [.int .u8 0]⟩ := by kernel_rfl
@[simp] theorem T7 : cfg.T 7 = some ⟨.struct [(0, 1), (1, 1), (2, 1), (3, 1)], 4, 24, [.int .i64 0, .int .i64 0, .bool false, .int .u8 0]⟩ := by kernel_rfl
@[simp] theorem T8 : cfg.T 8 = some ⟨.struct [(0, 1), (1, 1), (2, 1), (3, 1)], 4, 24, [.int .i64 0, .int .i64 0, .bool false, .int .u8 0]⟩ := by kernel_rfl
@[simp] theorem T12 : cfg.T 12 = some ⟨.other, 1, 8, [.int .u64 0]⟩ := by kernel_rfl
@[simp] theorem T15 : cfg.T 15 = some ⟨.other, 1, 8, [.nilp]⟩ := by kernel_rfl
@[simp] theorem T16 : cfg.T 16 = some ⟨.other, 1, 8, [.nilp]⟩ := by kernel_rfl
@[simp] theorem T17 : cfg.T 17 = some ⟨.other, 1, 8, [.nilp]⟩ := by kernel_rfl
@[simp] theorem T18 : cfg.T 18 = some ⟨.struct [(0, 1)], 1, 8, [.nilp]⟩ := by kernel_rfl
@[simp] theorem T19 : cfg.T 19 = some ⟨.struct [(0, 1)], 1, 8, [.nilp]⟩ := by kernel_rfl
@[simp] theorem T21 : cfg.T 21 = some ⟨.other, 1, 4, [.int .i32 0]⟩ := by kernel_rfl
@[simp] theorem T22 : cfg.T 22 = some ⟨.slice 3, 1, 24, [.slice .full 1 []]⟩ := by kernel_rfl
@[simp] theorem T23 : cfg.T 23 = some ⟨.other, 1, 8, [.nilf]⟩ := by kernel_rfl
@[simp] theorem T24 : cfg.T 24 = some ⟨.other, 1, 8, [.nilf]⟩ := by kernel_rfl
@[simp] theorem T25 : cfg.T 25 = some ⟨.other, 1, 8, [.nilp]⟩ := by kernel_rfl
@[simp] theorem T26 : cfg.T 26 = some ⟨.other, 1, 8, [.nilf]⟩ := by kernel_rfl
@[simp] theorem T27 : cfg.T 27 = some ⟨.slice 30, 1, 24, [.slice .full 2 []]⟩ := by kernel_rfl
@[simp] theorem T28 : cfg.T 28 = some ⟨.other, 1, 8, [.nilf]⟩ := by kernel_rfl
@[simp] theorem T29 : cfg.T 29 = some ⟨.struct [(0, 1), (1, 1)], 2, 32, [.int .i64 0, .slice .full 2 []]⟩ := by kernel_rfl
@[simp] theorem T30 : cfg.T 30 = some ⟨.struct [(0, 1), (1, 1)], 2, 32, [.int .i64 0, .slice .full 2 []]⟩ := by kernel_rfl
@[simp] theorem T31 : cfg.T 31 = some ⟨.slice 42, 1, 24, [.slice .full 5 []]⟩ := by kernel_rfl
@[simp] theorem T32 : cfg.T 32 = some ⟨.slice 34, 1, 24, [.slice .full 5 []]⟩ := by kernel_rfl
@[simp] theorem T33 : cfg.T 33 = some ⟨.struct [(0, 1), (1, 2), (3, 1), (4, 1)], 5, 88, [.int .i64 0, .int .i64 0, .slice .full 2 [], .slice .full 5 [], .slice .full 5 []]⟩ := by kernel_rfl
@[simp] theorem T34 : cfg.T 34 = some ⟨.struct [(0, 1), (1, 2), (3, 1), (4, 1)], 5, 88, [.int .i64 0, .int .i64 0, .slice .full 2 [], .slice .full 5 [], .slice .full 5 []]⟩ := by kernel_rfl
@[simp] theorem T35 : cfg.T 35 = some ⟨.other, 1, 8, [.nilf]⟩ := by kernel_rfl
@[simp] theorem T36 : cfg.T 36 = some ⟨.other, 1, 8, [.int .i64 0]⟩ := by kernel_rfl
@[simp] theorem T38 : cfg.T 38 = some ⟨.other, 1, 8, [.nilf]⟩ := by kernel_rfl
@[simp] theorem T40 : cfg.T 40 = some ⟨.other, 1, 8, [.nilf]⟩ := by kernel_rfl
@[simp] theorem T41 : cfg.T 41 = some ⟨.struct [(0, 1), (1, 1), (2, 2), (4, 1)], 5, 72, [.int .i64 0, .int .i64 0, .int .i64 0, .slice .full 2 [], .slice .full 5 []]⟩ := by kernel_rfl
@[simp] theorem T42 : cfg.T 42 = some ⟨.struct [(0, 1), (1, 1), (2, 2), (4, 1)], 5, 72, [.int .i64 0, .int .i64 0, .int .i64 0, .slice .full 2 [], .slice .full 5 []]⟩ := by kernel_rfl
@[simp] theorem T43 : cfg.T 43 = some ⟨.other, 1, 8, [.nilf]⟩ := by kernel_rfl
@[simp] theorem T45 : cfg.T 45 = some ⟨.other, 1, 8, [.nilf]⟩ := by kernel_rfl
@[simp] theorem T46 : cfg.T 46 = some ⟨.other, 1, 8, [.nilf]⟩ := by kernel_rfl
@[simp] theorem T47 : cfg.T 47 = some ⟨.other, 1, 8, [.nilf]⟩ := by kernel_rfl
@[simp] theorem T48 : cfg.T 48 = some ⟨.other, 1, 8, [.nilf]⟩ := by kernel_rfl
@[simp] theorem T50 : cfg.T 50 = some ⟨.other, 1, 8, [.nilf]⟩ := by kernel_rfl
@[simp] theorem T51 : cfg.T 51 = some ⟨.other, 1, 8, [.nilf]⟩ := by kernel_rfl
@[simp] theorem T52 : cfg.T 52 = some ⟨.struct [(0, 1), (1, 1)], 2, 48, [.slice .full 2 [], .slice .full 5 []]⟩ := by kernel_rfl
@[simp] theorem T53 : cfg.T 53 = some ⟨.struct [(0, 1), (1, 1)], 2, 48, [.slice .full 2 [], .slice .full 5 []]⟩ := by kernel_rfl
@[simp] theorem T54 : cfg.T 54 = some ⟨.other, 1, 8, [.nilf]⟩ := by kernel_rfl
@[simp] theorem T56 : cfg.T 56 = some ⟨.other, 1, 8, [.nilf]⟩ := by kernel_rfl
@[simp] theorem T58 : cfg.T 58 = some ⟨.other, 1, 8, [.nilf]⟩ := by kernel_rfl
@[simp] theorem T59 : cfg.T 59 = some ⟨.other, 1, 8, [.nilf]⟩ := by kernel_rfl
@[simp] theorem T60 : cfg.T 60 = some ⟨.other, 1, 8, [.nilf]⟩ := by kernel_rfl
@[simp] theorem T61 : cfg.T 61 = some ⟨.struct [(0, 1), (1, 1)], 2, 32, [.slice .full 1 [], .int .i64 0]⟩ := by kernel_rfl
@[simp] theorem T62 : cfg.T 62 = some ⟨.struct [(0, 1), (1, 1)], 2, 32, [.slice .full 1 [], .int .i64 0]⟩ := by kernel_rfl
@[simp] theorem T63 : cfg.T 63 = some ⟨.other, 1, 8, [.nilf]⟩ := by kernel_rfl
@[simp] theorem T64 : cfg.T 64 = some ⟨.other, 1, 8, [.nilf]⟩ := by kernel_rfl
@[simp] theorem T65 : cfg.T 65 = some ⟨.other, 1, 8, [.nilf]⟩ := by kernel_rfl
@[simp] theorem T66 : cfg.T 66 = some ⟨.other, 1, 8, [.nilf]⟩ := by kernel_rfl
@[simp] theorem T67 : cfg.T 67 = some ⟨.other, 1, 8, [.nilf]⟩ := by kernel_rfl
@[simp] theorem T68 : cfg.T 68 = some ⟨.other, 1, 8, [.nilf]⟩ := by kernel_rfl
@[simp] theorem T69 : cfg.T 69 = some ⟨.other, 1, 8, [.nilf]⟩ := by kernel_rfl
@[simp] theorem T70 : cfg.T 70 = some ⟨.other, 1, 8, [.nilf]⟩ := by kernel_rfl
@[simp] theorem T71 : cfg.T 71 = some ⟨.other, 1, 8, [.nilf]⟩ := by kernel_rfl
@[simp] theorem T72 : cfg.T 72 = some ⟨.other, 1, 8, [.nilf]⟩ := by kernel_rfl
@[simp] theorem T73 : cfg.T 73 = some ⟨.other, 1, 8, [.nilf]⟩ := by kernel_rfl
@[simp] theorem T74 : cfg.T 74 = some ⟨.other, 1, 8, [.nilf]⟩ := by kernel_rfl
@[simp] theorem T75 : cfg.T 75 = some ⟨.other, 1, 8, [.nilf]⟩ := by kernel_rfl
@[simp] theorem T76 : cfg.T 76 = some ⟨.other, 1, 8, [.nilf]⟩ := by kernel_rfl
@[simp] theorem T77 : cfg.T 77 = some ⟨.other, 1, 8, [.nilf]⟩ := by kernel_rfl
@[simp] theorem T78 : cfg.T 78 = some ⟨.other, 1, 8, [.nilf]⟩ := by kernel_rfl
@[simp] theorem T79 : cfg.T 79 = some ⟨.other, 1, 8, [.nilf]⟩ := by kernel_rfl
@[simp] theorem T80 : cfg.T 80 = some ⟨.other, 1, 8, [.nilf]⟩ := by kernel_rfl
@[simp] theorem T81 : cfg.T 81 = some ⟨.other, 1, 8, [.nilf]⟩ := by kernel_rfl
@[simp] theorem T82 : cfg.T 82 = some ⟨.other, 1, 8, [.nilf]⟩ := by kernel_rfl
@[simp] theorem T83 : cfg.T 83 = some ⟨.other, 1, 8, [.nilf]⟩ := by kernel_rfl
@[simp] theorem T84 : cfg.T 84 = some ⟨.other, 1, 8, [.nilf]⟩ := by kernel_rfl
@[simp] theorem T85 : cfg.T 85 = some ⟨.other, 1, 8, [.nilf]⟩ := by kernel_rfl
@[simp] theorem T86 : cfg.T 86 = some ⟨.other, 1, 8, [.nilf]⟩ := by kernel_rfl
@[simp] theorem T87 : cfg.T 87 = some ⟨.other, 1, 8, [.nilf]⟩ := by kernel_rfl
@[simp] theorem T88 : cfg.T 88 = some ⟨.other, 1, 8, [.nilf]⟩ := by kernel_rfl
@[simp] theorem T89 : cfg.T 89 = some ⟨.other, 1, 8, [.nilf]⟩ := by kernel_rfl
@[simp] theorem T90 : cfg.T 90 = some ⟨.other, 1, 8, [.nilf]⟩ := by kernel_rfl
@[simp] theorem T92 : cfg.T 92 = some ⟨.other, 1, 8, [.nilf]⟩ := by kernel_rfl
@[simp] theorem T94 : cfg.T 94 = some ⟨.other, 1, 8, [.nilf]⟩ := by kernel_rfl
@[simp] theorem T95 : cfg.T 95 = some ⟨.other, 1, 8, [.nilf]⟩ := by kernel_rfl
@[simp] theorem T97 : cfg.T 97 = some ⟨.other, 1, 8, [.nilf]⟩ := by kernel_rfl
@[simp] theorem T98 : cfg.T 98 = some ⟨.other, 1, 8, [.nilf]⟩ := by kernel_rfl
@[simp] theorem T99 : cfg.T 99 = some ⟨.other, 1, 8, [.nilf]⟩ := by kernel_rfl
@[simp] theorem T100 : cfg.T 100 = some ⟨.other, 1, 8, [.nilf]⟩ := by kernel_rfl
@[simp] theorem T101 : cfg.T 101 = some ⟨.other, 1, 8, [.nilf]⟩ := by kernel_rfl
@[simp] theorem T103 : cfg.T 103 = some ⟨.other, 1, 8, [.nilf]⟩ := by kernel_rfl
@[simp] theorem T104 : cfg.T 104 = some ⟨.other, 1, 8, [.nilf]⟩ := by kernel_rfl
@[simp] theorem T105 : cfg.T 105 = some ⟨.other, 1, 8, [.nilf]⟩ := by kernel_rfl
@[simp] theorem T106 : cfg.T 106 = some ⟨.other, 1, 8, [.nilf]⟩ := by kernel_rfl
@[simp] theorem T107 : cfg.T 107 = some ⟨.other, 1, 8, [.nilf]⟩ := by kernel_rfl
@[simp] theorem T108 : cfg.T 108 = some ⟨.other, 1, 8, [.nilf]⟩ := by kernel_rfl
@[simp] theorem T109 : cfg.T 109 = some ⟨.other, 1, 8, [.nilf]⟩ := by kernel_rfl
@[simp] theorem T110 : cfg.T 110 = some ⟨.other, 1, 8, [.nilf]⟩ := by kernel_rfl
@[simp] theorem T111 : cfg.T 111 = some ⟨.other, 1, 8, [.nilf]⟩ := by kernel_rfl
@[simp] theorem T112 : cfg.T 112 = some ⟨.other, 1, 8, [.nilf]⟩ := by kernel_rfl
@[simp] theorem T113 : cfg.T 113 = some ⟨.other, 1, 8, [.nilf]⟩ := by kernel_rfl
@[simp] theorem T114 : cfg.T 114 = some ⟨.other, 1, 8, [.nilf]⟩ := by kernel_rfl
@[simp] theorem T116 : cfg.T 116 = some ⟨.other, 1, 8, [.nilf]⟩ := by kernel_rfl
@[simp] theorem T117 : cfg.T 117 = some ⟨.other, 1, 8, [.nilf]⟩ := by kernel_rfl
@[simp] theorem T118 : cfg.T 118 = some ⟨.other, 1, 8, [.nilf]⟩ := by kernel_rfl
@[simp] theorem T119 : cfg.T 119 = some ⟨.other, 1, 8, [.nilf]⟩ := by kernel_rfl
@[simp] theorem T120 : cfg.T 120 = some ⟨.other, 1, 8, [.nilf]⟩ := by kernel_rfl
@[simp] theorem T121 : cfg.T 121 = some ⟨.other, 1, 8, [.nilf]⟩ := by kernel_rfl
@[simp] theorem T123 : cfg.T 123 = some ⟨.other, 1, 8, [.nilf]⟩ := by kernel_rfl
@[simp] theorem T124 : cfg.T 124 = some ⟨.other, 1, 8, [.nilf]⟩ := by kernel_rfl
@[simp] theorem T125 : cfg.T 125 = some ⟨.other, 1, 8, [.nilf]⟩ := by kernel_rfl
@[simp] theorem T126 : cfg.T 126 = some ⟨.other, 1, 1, [.int .u8 0]⟩ := by kernel_rfl
@[simp] theorem T127 : cfg.T 127 = some ⟨.other, 1, 8, [.nilf]⟩ := by kernel_rfl
@[simp] theorem T128 : cfg.T 128 = some ⟨.other, 1, 8, [.nilf]⟩ := by kernel_rfl
@[simp] theorem T129 : cfg.T 129 = some ⟨.other, 1, 8, [.nilf]⟩ := by kernel_rfl
@[simp] theorem T130 : cfg.T 130 = some ⟨.other, 1, 8, [.nilf]⟩ := by kernel_rfl
@[simp] theorem T131 : cfg.T 131 = some ⟨.other, 1, 8, [.nilf]⟩ := by kernel_rfl
@[simp] theorem T133 : cfg.T 133 = some ⟨.other, 1, 8, [.nilf]⟩ := by kernel_rfl
@[simp] theorem T134 : cfg.T 134 = some ⟨.other, 1, 8, [.nilf]⟩ := by kernel_rfl
@[simp] theorem T135 : cfg.T 135 = some ⟨.other, 1, 8, [.nilf]⟩ := by kernel_rfl
@[simp] theorem T136 : cfg.T 136 = some ⟨.other, 1, 8, [.nilf]⟩ := by kernel_rfl
@[simp] theorem T137 : cfg.T 137 = some ⟨.other, 1, 8, [.nilf]⟩ := by kernel_rfl
@[simp] theorem T138 : cfg.T 138 = some ⟨.other, 1, 8, [.nilf]⟩ := by kernel_rfl
@[simp] theorem T139 : cfg.T 139 = some ⟨.other, 1, 8, [.nilf]⟩ := by kernel_rfl
@[simp] theorem T140 : cfg.T 140 = some ⟨.other, 1, 8, [.nilf]⟩ := by kernel_rfl
@[simp] theorem T141 : cfg.T 141 = some ⟨.other, 1, 8, [.nilf]⟩ := by kernel_rfl
@[simp] theorem T142 : cfg.T 142 = some ⟨.other, 1, 8, [.nilf]⟩ := by kernel_rfl
@[simp] theorem T143 : cfg.T 143 = some ⟨.array 14 3, 14, 112, [.int .i64 0, .int .i64 0, .int .i64 0, .int .i64 0, .int .i64 0, .int .i64 0, .int .i64 0, .int .i64 0, .int .i64 0, .int .i64 0, .int .i64 0, .int .i64 0, .int .i64 0, .int .i64 0]⟩ := by kernel_rfl
@[simp] theorem T144 : cfg.T 144 = some ⟨.other, 1, 8, [.nilf]⟩ := by kernel_rfl
@[simp] theorem T146 : cfg.T 146 = some ⟨.other, 1, 8, [.nilf]⟩ := by kernel_rfl
@[simp] theorem T147 : cfg.T 147 = some ⟨.other, 1, 8, [.nilf]⟩ := by kernel_rfl
@[simp] theorem T148 : cfg.T 148 = some ⟨.other, 1, 8, [.nilf]⟩ := by kernel_rfl
@[simp] theorem T150 : cfg.T 150 = some ⟨.other, 1, 8, [.nilf]⟩ := by kernel_rfl
@[simp] theorem T151 : cfg.T 151 = some ⟨.other, 1, 8, [.nilf]⟩ := by kernel_rfl
@[simp] theorem T152 : cfg.T 152 = some ⟨.other, 1, 8, [.nilf]⟩ := by kernel_rfl
@[simp] theorem T153 : cfg.T 153 = some ⟨.other, 1, 8, [.nilf]⟩ := by kernel_rfl
@[simp] theorem T156 : cfg.T 156 = some ⟨.array 0 16, 0, 0, []⟩ := by kernel_rfl
@[simp] theorem T157 : cfg.T 157 = some ⟨.struct [(0, 0)], 0, 0, []⟩ := by kernel_rfl
@[simp] theorem T158 : cfg.T 158 = some ⟨.struct [(0, 0)], 0, 0, []⟩ := by kernel_rfl
@[simp] theorem T159 : cfg.T 159 = some ⟨.other, 1, 8, [.nilf]⟩ := by kernel_rfl
@[simp] theorem T160 : cfg.T 160 = some ⟨.other, 1, 4, [.int .u32 0]⟩ := by kernel_rfl
@[simp] theorem T161 : cfg.T 161 = some ⟨.other, 1, 1, [.int .u8 0]⟩ := by kernel_rfl
@[simp] theorem T162 : cfg.T 162 = some ⟨.other, 1, 1, [.int .u8 0]⟩ := by kernel_rfl
@[simp] theorem T163 : cfg.T 163 = some ⟨.other, 1, 8, [.nilf]⟩ := by kernel_rfl
@[simp] theorem T164 : cfg.T 164 = some ⟨.other, 1, 8, [.nilp]⟩ := by kernel_rfl
@[simp] theorem T165 : cfg.T 165 = some ⟨.other, 1, 4, [.int .i32 0]⟩ := by kernel_rfl
@[simp] theorem T166 : cfg.T 166 = some ⟨.other, 1, 4, [.int .i32 0]⟩ := by kernel_rfl
@[simp] theorem T167 : cfg.T 167 = some ⟨.struct [(0, 1), (1, 1), (2, 1), (3, 1), (4, 1), (5, 1), (6, 1), (7, 1), (8, 1), (9, 1), (10, 1)], 11, 48, [.int .u64 0, .int .u64 0, .int .u32 0, .int .u8 0, .int .u8 0, .int .u8 0, .int .u8 0, .nilf, .nilp, .int .i32 0, .int .i32 0]⟩ := by kernel_rfl
@[simp] theorem T168 : cfg.T 168 = some ⟨.struct [(0, 1), (1, 1), (2, 1), (3, 1), (4, 1), (5, 1), (6, 1), (7, 1), (8, 1), (9, 1), (10, 1)], 11, 48, [.int .u64 0, .int .u64 0, .int .u32 0, .int .u8 0, .int .u8 0, .int .u8 0, .int .u8 0, .nilf, .nilp, .int .i32 0, .int .i32 0]⟩ := by kernel_rfl
@[simp] theorem T169 : cfg.T 169 = some ⟨.other, 1, 8, [.nilp]⟩ := by kernel_rfl
@[simp] theorem es22 : esize cfg 22 = 1 := by simp [esize]
@[simp] theorem es27 : esize cfg 27 = 2 := by simp [esize]
@[simp] theorem es31 : esize cfg 31 = 5 := by simp [esize]
@[simp] theorem es32 : esize cfg 32 = 5 := by simp [esize]
end Go.Proofs.YtnpgbkldpdogjaaGreatDoor.V

set_option maxRecDepth 100000
namespace Go.Proofs.YtnpgbkldpdogjaaGreatDoor.V
open Go Go.Proofs
noncomputable section
abbrev So (d : Nat) (op : Op) (t : Nat) : SOp := ⟨some d, op, t, .always⟩
abbrev Sn (op : Op) (t : Nat) : SOp := ⟨none, op, t, .always⟩
abbrev Sg (d : Nat) (op : Op) (t g : Nat) (b : Bool) : SOp := ⟨some d, op, t, .tmp g b⟩
abbrev CW (n : Nat) (s : SC) (rs : List ResultVar) : Prop := ∀ {args : List PV} {σ σ' : List Frm} {r : Ret}, (∀ p, r = .val p → erV p = p) → wpP cfg s (QEndP cfg rs σ' r) ⟨initEnv args, fun _ => [], σ, ⟨fun _ => false, 0⟩⟩ → CallsV cfg n args σ r σ'
def a75 : List Ann := [⟨[0, 1], [], []⟩,
 ⟨[4], [], []⟩]
def s75 : SC := .seq (.ops [So 4 (.assign (.const (.int .i64 0))) 3] [0, 1])
 (.seq (.ops [So 5 (.move (.tmp 0)) 3,
 So 6 (.move (.tmp 1)) 3,
 So 7 (.binOp .rem 3 (.tmp 5) (.tmp 6) 3) 3,
 So 8 (.move (.tmp 1)) 3,
 So 9 (.binOp .add 3 (.tmp 7) (.tmp 8) 3) 3,
 So 10 (.move (.tmp 1)) 3,
 So 11 (.binOp .rem 3 (.tmp 9) (.tmp 10) 3) 3,
 So 4 (.assign (.tmp 11)) 3] [4])
 (.ret))
theorem w75 : CW 75 s75 [.tmp 4] := fun hr h => callsV_of_p follows cfgT a75 (fn := Tryz.f75) (c := Tryz.f75.body.getD .skip) (by kernel_rfl) (by kernel_rfl) (by kernel_rfl) (by kernel_rfl) (by kernel_rfl) (sc := s75) (by kernel_rfl) [.tmp 4] (by kernel_rfl) hr h
def a27 : List Ann := [⟨[0, 1], [], []⟩,
 ⟨[0, 1, 19], [0, 1, 3, 7, 15, 31, 63, 7, 135, 391, 903, 1927, 4095, 8191], [false, false, false, false, false, false, false, false, false, false, false, false, false, false]⟩,
 ⟨[4], [], []⟩,
 ⟨[0, 1, 5], [0, 1, 3, 7, 0, 16, 48, 112, 255, 511, 1023], [false, false, false, false, false, false, false, false, false, false, false]⟩,
 ⟨[1, 5], [], []⟩,
 ⟨[4], [], []⟩]
def s27 : SC := .seq (.ops [So 4 (.assign (.const (.int .i64 0))) 3] [0, 1])
 (.seq (.seq (.draw [So 6 (.move (.tmp 1)) 3,
 So 7 (.binOp .lss 3 (.tmp 6) (.const (.int .i64 1)) 3) 4,
 So 8 (.move (.tmp 7)) 4,
 Sg 9 (.move (.tmp 0)) 25 8 false,
 Sg 10 (.nilCheck (.tmp 9)) 0 8 false,
 Sg 11 (.fieldAddr 62 (.tmp 10) 1) 0 8 false,
 Sg 12 (.load 3 (.tmp 11)) 3 8 false,
 Sg 13 (.move (.tmp 0)) 25 8 false,
 Sg 14 (.nilCheck (.tmp 13)) 0 8 false,
 Sg 15 (.fieldAddr 62 (.tmp 14) 0) 0 8 false,
 Sg 16 (.load 22 (.tmp 15)) 22 8 false,
 Sg 17 (.call ⟨.builtin .len, #[.tmp 16], #[22]⟩) 3 8 false,
 Sg 18 (.binOp .geq 3 (.tmp 12) (.tmp 17) 3) 4 8 false,
 So 19 (.pick (.tmp 8) (.const (.bool true)) (.tmp 18)) 4] [false, false, false, false, false, false, false, false, false, false, false, false, false, false] [0, 1, 19])
 (.cond (.tmp 19)
 (.seq (.ops [So 4 (.assign (.const (.int .i64 0))) 3] [4])
 (.ret))
 (.skip)))
 (.seq (.draw [So 20 (.move (.tmp 0)) 25,
 So 21 (.nilCheck (.tmp 20)) 0,
 So 22 (.fieldAddr 62 (.tmp 21) 0) 0,
 So 23 (.load 22 (.tmp 22)) 22,
 So 24 (.move (.tmp 0)) 25,
 So 25 (.nilCheck (.tmp 24)) 0,
 So 26 (.fieldAddr 62 (.tmp 25) 1) 0,
 So 27 (.load 3 (.tmp 26)) 3,
 So 28 (.indexAddr 22 (.tmp 23) (.tmp 27)) 0,
 So 29 (.load 3 (.tmp 28)) 3,
 So 5 (.assign (.tmp 29)) 3] [false, false, false, false, false, false, false, false, false, false, false] [0, 1, 5])
 (.seq (.ops [So 30 (.move (.tmp 0)) 25,
 So 31 (.nilCheck (.tmp 30)) 0,
 So 32 (.fieldAddr 62 (.tmp 31) 1) 0,
 So 33 (.load 3 (.tmp 32)) 3,
 So 34 (.binOp .add 3 (.tmp 33) (.const (.int .i64 1)) 3) 3,
 So 35 (.nilCheck (.tmp 30)) 0,
 So 36 (.fieldAddr 62 (.tmp 35) 1) 0,
 Sn (.store 3 (.tmp 36) (.tmp 34)) 0] [1, 5])
 (.seq (.ops [So 37 (.move (.tmp 5)) 3,
 So 38 (.move (.tmp 1)) 3,
 So 39 (.call ⟨.value (.func 75), #[.tmp 37, .tmp 38], #[3, 3]⟩) 3,
 So 4 (.assign (.tmp 39)) 3] [4])
 (.ret)))))
theorem w27 : CW 27 s27 [.tmp 4] := fun hr h => callsV_of_p follows cfgT a27 (fn := Tryz.f27) (c := Tryz.f27.body.getD .skip) (by kernel_rfl) (by kernel_rfl) (by kernel_rfl) (by kernel_rfl) (by kernel_rfl) (sc := s27) (by kernel_rfl) [.tmp 4] (by kernel_rfl) hr h
def a32 : List Ann := [⟨[0], [], []⟩,
 ⟨[0], [], []⟩]
def s32 : SC := .seq (.ops [So 0 (.alloc 30) 0] [0])
 (.seq (.ops [So 1 (.build 30 #[(0, .const (.int .i64 1))]) 30,
 Sn (.store 30 (.tmp 0) (.tmp 1)) 0] [0])
 (.ret))
theorem w32 : CW 32 s32 [.cell 0 30] := fun hr h => callsV_of_p follows cfgT a32 (fn := Tryz.f32) (c := Tryz.f32.body.getD .skip) (by kernel_rfl) (by kernel_rfl) (by kernel_rfl) (by kernel_rfl) (by kernel_rfl) (sc := s32) (by kernel_rfl) [.cell 0 30] (by kernel_rfl) hr h
def a48 : List Ann := [⟨[0], [], []⟩,
 ⟨[0], [], []⟩]
def s48 : SC := .seq (.ops [So 0 (.alloc 30) 0] [0])
 (.seq (.ops [So 1 (.build 30 #[(0, .const (.int .i64 2))]) 30,
 Sn (.store 30 (.tmp 0) (.tmp 1)) 0] [0])
 (.ret))
theorem w48 : CW 48 s48 [.cell 0 30] := fun hr h => callsV_of_p follows cfgT a48 (fn := Tryz.f48) (c := Tryz.f48.body.getD .skip) (by kernel_rfl) (by kernel_rfl) (by kernel_rfl) (by kernel_rfl) (by kernel_rfl) (sc := s48) (by kernel_rfl) [.cell 0 30] (by kernel_rfl) hr h
def a76 : List Ann := [⟨[0], [], []⟩,
 ⟨[0], [], []⟩]
def s76 : SC := .seq (.ops [So 0 (.alloc 30) 0] [0])
 (.seq (.ops [So 1 (.build 30 #[(0, .const (.int .i64 5))]) 30,
 Sn (.store 30 (.tmp 0) (.tmp 1)) 0] [0])
 (.ret))
theorem w76 : CW 76 s76 [.cell 0 30] := fun hr h => callsV_of_p follows cfgT a76 (fn := Tryz.f76) (c := Tryz.f76.body.getD .skip) (by kernel_rfl) (by kernel_rfl) (by kernel_rfl) (by kernel_rfl) (by kernel_rfl) (sc := s76) (by kernel_rfl) [.cell 0 30] (by kernel_rfl) hr h
def a79 : List Ann := [⟨[1, 2], [], []⟩,
 ⟨[1, 2, 3], [], []⟩,
 ⟨[1, 2, 3, 7, 8, 9], [], []⟩,
 ⟨[1, 2, 3, 7, 8, 9, 10], [], []⟩,
 ⟨[1, 2, 3, 5, 7, 8, 9], [], []⟩,
 ⟨[1, 2, 3, 7, 8, 9], [], []⟩,
 ⟨[1, 2, 3, 7, 8, 9], [], []⟩,
 ⟨[2], [], []⟩]
def s79 : SC := .seq (.ops [So 1 (.box 30 (.tmp 0)) 0,
 So 2 (.alloc 30) 0] [1, 2])
 (.seq (.ops [So 3 (.assign (.const (.slice none 0 0))) 27] [1, 2, 3])
 (.seq (.seq (.ops [So 6 (.fieldAddr 30 (.tmp 1) 1) 0,
 So 7 (.load 27 (.tmp 6)) 27,
 So 8 (.call ⟨.builtin .len, #[.tmp 7], #[27]⟩) 3,
 So 9 (.move (.const (.int .i64 0))) 3] [1, 2, 3, 7, 8, 9])
 (.block 0
 (.loop
 (.seq (.ops [So 10 (.binOp .lss 3 (.tmp 9) (.tmp 8) 3) 0] [1, 2, 3, 7, 8, 9, 10])
 (.seq (.cond (.tmp 10)
 (.skip)
 (.exit 0))
 (.seq (.block 1
 (.seq (.ops [So 11 (.indexAddr 27 (.tmp 7) (.tmp 9)) 0,
 So 12 (.load 30 (.tmp 11)) 30,
 So 5 (.alloc 30) 0,
 Sn (.store 30 (.tmp 5) (.tmp 12)) 0] [1, 2, 3, 5, 7, 8, 9])
 (.ops [So 13 (.move (.tmp 3)) 27,
 So 14 (.load 30 (.tmp 5)) 30,
 So 15 (.call ⟨.value (.func 79), #[.tmp 14], #[30]⟩) 30,
 So 16 (.buildSlice 27 1 #[(0, .tmp 15)]) 27,
 So 17 (.call ⟨.builtin .append, #[.tmp 13, .tmp 16], #[27, 27]⟩) 27,
 So 3 (.assign (.tmp 17)) 27] [1, 2, 3, 7, 8, 9])))
 (.ops [So 18 (.binOp .add 3 (.tmp 9) (.const (.int .i64 1)) 3) 3,
 So 9 (.move (.tmp 18)) 3] [1, 2, 3, 7, 8, 9])))))))
 (.seq (.ops [So 19 (.fieldAddr 30 (.tmp 1) 0) 0,
 So 20 (.load 3 (.tmp 19)) 3,
 So 21 (.move (.tmp 3)) 27,
 So 22 (.build 30 #[(0, .tmp 20), (1, .tmp 21)]) 30,
 Sn (.store 30 (.tmp 2) (.tmp 22)) 0] [2])
 (.ret))))
theorem w79 : CW 79 s79 [.cell 2 30] := fun hr h => callsV_of_p follows cfgT a79 (fn := Tryz.f79) (c := Tryz.f79.body.getD .skip) (by kernel_rfl) (by kernel_rfl) (by kernel_rfl) (by kernel_rfl) (by kernel_rfl) (sc := s79) (by kernel_rfl) [.cell 2 30] (by kernel_rfl) hr h
def a77 : List Ann := [⟨[2, 3, 4], [], []⟩,
 ⟨[4], [0, 1, 0, 7, 15, 31, 63], [false, true, true, false, false, false, false]⟩]
def s77 : SC := .seq (.ops [So 2 (.box 30 (.tmp 0)) 0,
 So 3 (.box 30 (.tmp 1)) 0,
 So 4 (.alloc 30) 0] [2, 3, 4])
 (.seq (.draw [So 5 (.load 30 (.tmp 2)) 30,
 So 6 (.call ⟨.value (.func 79), #[.tmp 5], #[30]⟩) 30,
 So 7 (.load 30 (.tmp 3)) 30,
 So 8 (.call ⟨.value (.func 79), #[.tmp 7], #[30]⟩) 30,
 So 9 (.buildSlice 27 2 #[(0, .tmp 6), (1, .tmp 8)]) 27,
 So 10 (.build 30 #[(0, .const (.int .i64 3)), (1, .tmp 9)]) 30,
 Sn (.store 30 (.tmp 4) (.tmp 10)) 0] [false, true, true, false, false, false, false] [4])
 (.ret))
theorem w77 : CW 77 s77 [.cell 4 30] := fun hr h => callsV_of_p follows cfgT a77 (fn := Tryz.f77) (c := Tryz.f77.body.getD .skip) (by kernel_rfl) (by kernel_rfl) (by kernel_rfl) (by kernel_rfl) (by kernel_rfl) (sc := s77) (by kernel_rfl) [.cell 4 30] (by kernel_rfl) hr h
def a78 : List Ann := [⟨[2, 3, 4], [], []⟩,
 ⟨[4], [0, 1, 0, 7, 15, 31, 63], [false, true, true, false, false, false, false]⟩]
def s78 : SC := .seq (.ops [So 2 (.box 30 (.tmp 0)) 0,
 So 3 (.box 30 (.tmp 1)) 0,
 So 4 (.alloc 30) 0] [2, 3, 4])
 (.seq (.draw [So 5 (.load 30 (.tmp 2)) 30,
 So 6 (.call ⟨.value (.func 79), #[.tmp 5], #[30]⟩) 30,
 So 7 (.load 30 (.tmp 3)) 30,
 So 8 (.call ⟨.value (.func 79), #[.tmp 7], #[30]⟩) 30,
 So 9 (.buildSlice 27 2 #[(0, .tmp 6), (1, .tmp 8)]) 27,
 So 10 (.build 30 #[(0, .const (.int .i64 4)), (1, .tmp 9)]) 30,
 Sn (.store 30 (.tmp 4) (.tmp 10)) 0] [false, true, true, false, false, false, false] [4])
 (.ret))
theorem w78 : CW 78 s78 [.cell 4 30] := fun hr h => callsV_of_p follows cfgT a78 (fn := Tryz.f78) (c := Tryz.f78.body.getD .skip) (by kernel_rfl) (by kernel_rfl) (by kernel_rfl) (by kernel_rfl) (by kernel_rfl) (sc := s78) (by kernel_rfl) [.cell 4 30] (by kernel_rfl) hr h
def a28 : List Ann := [⟨[0, 1, 4], [], []⟩,
 ⟨[0, 1, 4, 6], [], []⟩,
 ⟨[0, 1, 4, 6, 7], [], []⟩,
 ⟨[0, 1, 4, 6, 7], [], []⟩,
 ⟨[0, 1, 4, 6, 7], [], []⟩,
 ⟨[4], [], []⟩,
 ⟨[0, 1, 4, 6, 12], [], []⟩,
 ⟨[4], [], []⟩,
 ⟨[0, 1, 4, 6, 15], [], []⟩,
 ⟨[4], [], []⟩,
 ⟨[0, 1, 4, 6, 18], [], []⟩,
 ⟨[0, 1, 4, 21], [], []⟩,
 ⟨[4], [], []⟩,
 ⟨[0, 1, 4, 31], [], []⟩,
 ⟨[0, 1, 4, 34], [], []⟩,
 ⟨[4], [], []⟩,
 ⟨[4], [], []⟩]
def s28 : SC := .seq (.ops [So 4 (.alloc 30) 0] [0, 1, 4])
 (.seq (.seq (.ops [So 5 (.move (.tmp 0)) 25,
 So 6 (.call ⟨.value (.func 27), #[.tmp 5, .const (.int .i64 7)], #[25, 3]⟩) 3] [0, 1, 4, 6])
 (.block 0
 (.seq (.seq (.ops [So 8 (.binOp .eql 3 (.tmp 6) (.const (.int .i64 0)) 3) 4,
 So 7 (.assign (.tmp 8)) 4] [0, 1, 4, 6, 7])
 (.cond (.tmp 7)
 (.skip)
 (.seq (.ops [So 9 (.binOp .eql 3 (.tmp 6) (.const (.int .i64 1)) 3) 4,
 So 7 (.assign (.tmp 9)) 4] [0, 1, 4, 6, 7])
 (.cond (.tmp 7)
 (.skip)
 (.ops [So 10 (.binOp .eql 3 (.tmp 6) (.const (.int .i64 2)) 3) 4,
 So 7 (.assign (.tmp 10)) 4] [0, 1, 4, 6, 7])))))
 (.cond (.tmp 7)
 (.seq (.ops [So 11 (.call ⟨.value (.func 32), #[], #[]⟩) 30,
 Sn (.store 30 (.tmp 4) (.tmp 11)) 0] [4])
 (.ret))
 (.seq (.ops [So 13 (.binOp .eql 3 (.tmp 6) (.const (.int .i64 3)) 3) 4,
 So 12 (.assign (.tmp 13)) 4] [0, 1, 4, 6, 12])
 (.cond (.tmp 12)
 (.seq (.ops [So 14 (.call ⟨.value (.func 48), #[], #[]⟩) 30,
 Sn (.store 30 (.tmp 4) (.tmp 14)) 0] [4])
 (.ret))
 (.seq (.ops [So 16 (.binOp .eql 3 (.tmp 6) (.const (.int .i64 4)) 3) 4,
 So 15 (.assign (.tmp 16)) 4] [0, 1, 4, 6, 15])
 (.cond (.tmp 15)
 (.seq (.ops [So 17 (.call ⟨.value (.func 76), #[], #[]⟩) 30,
 Sn (.store 30 (.tmp 4) (.tmp 17)) 0] [4])
 (.ret))
 (.seq (.ops [So 19 (.binOp .eql 3 (.tmp 6) (.const (.int .i64 5)) 3) 4,
 So 18 (.assign (.tmp 19)) 4] [0, 1, 4, 6, 18])
 (.cond (.tmp 18)
 (.seq (.ops [So 20 (.move (.tmp 1)) 3,
 So 21 (.binOp .gtr 3 (.tmp 20) (.const (.int .i64 0)) 3) 4] [0, 1, 4, 21])
 (.cond (.tmp 21)
 (.seq (.ops [So 22 (.move (.tmp 0)) 25,
 So 23 (.move (.tmp 1)) 3,
 So 24 (.binOp .sub 3 (.tmp 23) (.const (.int .i64 1)) 3) 3,
 So 25 (.call ⟨.value (.func 28), #[.tmp 22, .tmp 24], #[25, 3]⟩) 30,
 So 26 (.move (.tmp 0)) 25,
 So 27 (.move (.tmp 1)) 3,
 So 28 (.binOp .sub 3 (.tmp 27) (.const (.int .i64 1)) 3) 3,
 So 29 (.call ⟨.value (.func 28), #[.tmp 26, .tmp 28], #[25, 3]⟩) 30,
 So 30 (.call ⟨.value (.func 77), #[.tmp 25, .tmp 29], #[30, 30]⟩) 30,
 Sn (.store 30 (.tmp 4) (.tmp 30)) 0] [4])
 (.ret))
 (.skip)))
 (.seq (.ops [So 32 (.binOp .eql 3 (.tmp 6) (.const (.int .i64 6)) 3) 4,
 So 31 (.assign (.tmp 32)) 4] [0, 1, 4, 31])
 (.cond (.tmp 31)
 (.seq (.ops [So 33 (.move (.tmp 1)) 3,
 So 34 (.binOp .gtr 3 (.tmp 33) (.const (.int .i64 0)) 3) 4] [0, 1, 4, 34])
 (.cond (.tmp 34)
 (.seq (.ops [So 35 (.move (.tmp 0)) 25,
 So 36 (.move (.tmp 1)) 3,
 So 37 (.binOp .sub 3 (.tmp 36) (.const (.int .i64 1)) 3) 3,
 So 38 (.call ⟨.value (.func 28), #[.tmp 35, .tmp 37], #[25, 3]⟩) 30,
 So 39 (.move (.tmp 0)) 25,
 So 40 (.move (.tmp 1)) 3,
 So 41 (.binOp .sub 3 (.tmp 40) (.const (.int .i64 1)) 3) 3,
 So 42 (.call ⟨.value (.func 28), #[.tmp 39, .tmp 41], #[25, 3]⟩) 30,
 So 43 (.call ⟨.value (.func 78), #[.tmp 38, .tmp 42], #[30, 30]⟩) 30,
 Sn (.store 30 (.tmp 4) (.tmp 43)) 0] [4])
 (.ret))
 (.skip)))
 (.skip)))))))))))))
 (.seq (.ops [So 44 (.call ⟨.value (.func 32), #[], #[]⟩) 30,
 Sn (.store 30 (.tmp 4) (.tmp 44)) 0] [4])
 (.ret)))
theorem w28 : CW 28 s28 [.cell 4 30] := fun hr h => callsV_of_p follows cfgT a28 (fn := Tryz.f28) (c := Tryz.f28.body.getD .skip) (by kernel_rfl) (by kernel_rfl) (by kernel_rfl) (by kernel_rfl) (by kernel_rfl) (sc := s28) (by kernel_rfl) [.cell 4 30] (by kernel_rfl) hr h
def a31 : List Ann := [⟨[0, 1], [], []⟩,
 ⟨[4], [], []⟩]
def s31 : SC := .seq (.ops [So 4 (.assign (.const (.slice none 0 0))) 27] [0, 1])
 (.seq (.ops [So 5 (.move (.tmp 0)) 27,
 So 6 (.call ⟨.builtin .append, #[.const (.slice none 0 0), .tmp 5], #[27, 27]⟩) 27,
 So 7 (.move (.tmp 1)) 27,
 So 8 (.call ⟨.builtin .append, #[.tmp 6, .tmp 7], #[27, 27]⟩) 27,
 So 4 (.assign (.tmp 8)) 27] [4])
 (.ret))
theorem w31 : CW 31 s31 [.tmp 4] := fun hr h => callsV_of_p follows cfgT a31 (fn := Tryz.f31) (c := Tryz.f31.body.getD .skip) (by kernel_rfl) (by kernel_rfl) (by kernel_rfl) (by kernel_rfl) (by kernel_rfl) (sc := s31) (by kernel_rfl) [.tmp 4] (by kernel_rfl) hr h
def a49 : List Ann := [⟨[2, 3], [], []⟩,
 ⟨[2, 3, 19], [], []⟩,
 ⟨[4], [], []⟩,
 ⟨[2, 3, 22, 23], [], []⟩,
 ⟨[2, 3, 22, 23, 24], [], []⟩,
 ⟨[2, 3, 5, 22, 23], [], []⟩,
 ⟨[2, 3, 22, 23, 37], [0, 1, 0, 7, 15, 0, 32, 0, 224, 480, 1023, 2047], [false, false, false, false, false, false, false, false, false, false, false, false]⟩,
 ⟨[4], [], []⟩,
 ⟨[2, 3, 22, 23], [], []⟩,
 ⟨[4], [], []⟩]
def s49 : SC := .seq (.ops [So 2 (.box 30 (.tmp 0)) 0,
 So 3 (.box 30 (.tmp 1)) 0,
 So 4 (.assign (.const (.bool false))) 4] [2, 3])
 (.seq (.seq (.ops [So 6 (.fieldAddr 30 (.tmp 2) 0) 0,
 So 7 (.load 3 (.tmp 6)) 3,
 So 8 (.fieldAddr 30 (.tmp 3) 0) 0,
 So 9 (.load 3 (.tmp 8)) 3,
 So 10 (.binOp .neq 3 (.tmp 7) (.tmp 9) 3) 4,
 So 11 (.move (.tmp 10)) 4,
 Sg 12 (.fieldAddr 30 (.tmp 2) 1) 0 11 false,
 Sg 13 (.load 27 (.tmp 12)) 27 11 false,
 Sg 14 (.call ⟨.builtin .len, #[.tmp 13], #[27]⟩) 3 11 false,
 Sg 15 (.fieldAddr 30 (.tmp 3) 1) 0 11 false,
 Sg 16 (.load 27 (.tmp 15)) 27 11 false,
 Sg 17 (.call ⟨.builtin .len, #[.tmp 16], #[27]⟩) 3 11 false,
 Sg 18 (.binOp .neq 3 (.tmp 14) (.tmp 17) 3) 4 11 false,
 So 19 (.pick (.tmp 11) (.const (.bool true)) (.tmp 18)) 4] [2, 3, 19])
 (.cond (.tmp 19)
 (.seq (.ops [So 4 (.assign (.const (.bool false))) 4] [4])
 (.ret))
 (.skip)))
 (.seq (.seq (.ops [So 20 (.fieldAddr 30 (.tmp 2) 1) 0,
 So 21 (.load 27 (.tmp 20)) 27,
 So 22 (.call ⟨.builtin .len, #[.tmp 21], #[27]⟩) 3,
 So 23 (.move (.const (.int .i64 0))) 3] [2, 3, 22, 23])
 (.block 0
 (.loop
 (.seq (.ops [So 24 (.binOp .lss 3 (.tmp 23) (.tmp 22) 3) 0] [2, 3, 22, 23, 24])
 (.seq (.cond (.tmp 24)
 (.skip)
 (.exit 0))
 (.seq (.block 1
 (.seq (.ops [So 25 (.move (.tmp 23)) 3,
 So 5 (.assign (.tmp 25)) 3] [2, 3, 5, 22, 23])
 (.seq (.draw [So 26 (.fieldAddr 30 (.tmp 2) 1) 0,
 So 27 (.load 27 (.tmp 26)) 27,
 So 28 (.move (.tmp 5)) 3,
 So 29 (.indexAddr 27 (.tmp 27) (.tmp 28)) 0,
 So 30 (.load 30 (.tmp 29)) 30,
 So 31 (.fieldAddr 30 (.tmp 3) 1) 0,
 So 32 (.load 27 (.tmp 31)) 27,
 So 33 (.move (.tmp 5)) 3,
 So 34 (.indexAddr 27 (.tmp 32) (.tmp 33)) 0,
 So 35 (.load 30 (.tmp 34)) 30,
 So 36 (.call ⟨.value (.func 49), #[.tmp 30, .tmp 35], #[30, 30]⟩) 4,
 So 37 (.unOp .not 4 (.tmp 36)) 4] [false, false, false, false, false, false, false, false, false, false, false, false] [2, 3, 22, 23, 37])
 (.cond (.tmp 37)
 (.seq (.ops [So 4 (.assign (.const (.bool false))) 4] [4])
 (.ret))
 (.skip)))))
 (.ops [So 38 (.binOp .add 3 (.tmp 23) (.const (.int .i64 1)) 3) 3,
 So 23 (.move (.tmp 38)) 3] [2, 3, 22, 23])))))))
 (.seq (.ops [So 4 (.assign (.const (.bool true))) 4] [4])
 (.ret))))
theorem w49 : CW 49 s49 [.tmp 4] := fun hr h => callsV_of_p follows cfgT a49 (fn := Tryz.f49) (c := Tryz.f49.body.getD .skip) (by kernel_rfl) (by kernel_rfl) (by kernel_rfl) (by kernel_rfl) (by kernel_rfl) (sc := s49) (by kernel_rfl) [.tmp 4] (by kernel_rfl) hr h
def a43 : List Ann := [⟨[0, 3], [], []⟩,
 ⟨[0, 3, 5], [], []⟩,
 ⟨[0, 3, 5, 8, 9], [], []⟩,
 ⟨[0, 3, 5, 8, 9, 10], [], []⟩,
 ⟨[0, 3, 5, 6, 8, 9], [], []⟩,
 ⟨[0, 3, 5, 6, 8, 9, 21], [0, 0, 2, 6, 0, 30, 63, 127, 0, 511], [false, false, false, false, false, false, false, false, false, false]⟩,
 ⟨[0, 3, 5, 8, 9], [], []⟩,
 ⟨[0, 3, 5, 8, 9], [], []⟩,
 ⟨[4], [], []⟩]
def s43 : SC := .seq (.ops [So 3 (.box 30 (.tmp 1)) 0,
 So 4 (.assign (.const (.slice none 0 0))) 22] [0, 3])
 (.seq (.ops [So 5 (.assign (.const (.slice none 0 0))) 22] [0, 3, 5])
 (.seq (.seq (.ops [So 7 (.move (.tmp 0)) 27,
 So 8 (.call ⟨.builtin .len, #[.tmp 7], #[27]⟩) 3,
 So 9 (.move (.const (.int .i64 0))) 3] [0, 3, 5, 8, 9])
 (.block 0
 (.loop
 (.seq (.ops [So 10 (.binOp .lss 3 (.tmp 9) (.tmp 8) 3) 0] [0, 3, 5, 8, 9, 10])
 (.seq (.cond (.tmp 10)
 (.skip)
 (.exit 0))
 (.seq (.block 1
 (.seq (.ops [So 11 (.move (.tmp 9)) 3,
 So 6 (.assign (.tmp 11)) 3] [0, 3, 5, 6, 8, 9])
 (.seq (.draw [So 12 (.move (.tmp 0)) 27,
 So 13 (.move (.tmp 0)) 27,
 So 14 (.call ⟨.builtin .len, #[.tmp 13], #[27]⟩) 3,
 So 15 (.binOp .sub 3 (.tmp 14) (.const (.int .i64 1)) 3) 3,
 So 16 (.move (.tmp 6)) 3,
 So 17 (.binOp .sub 3 (.tmp 15) (.tmp 16) 3) 3,
 So 18 (.indexAddr 27 (.tmp 12) (.tmp 17)) 0,
 So 19 (.load 30 (.tmp 18)) 30,
 So 20 (.load 30 (.tmp 3)) 30,
 So 21 (.call ⟨.value (.func 49), #[.tmp 19, .tmp 20], #[30, 30]⟩) 4] [false, false, false, false, false, false, false, false, false, false] [0, 3, 5, 6, 8, 9, 21])
 (.cond (.tmp 21)
 (.ops [So 22 (.move (.tmp 5)) 22,
 So 23 (.move (.tmp 6)) 3,
 So 24 (.buildSlice 22 1 #[(0, .tmp 23)]) 22,
 So 25 (.call ⟨.builtin .append, #[.tmp 22, .tmp 24], #[22, 22]⟩) 22,
 So 5 (.assign (.tmp 25)) 22] [0, 3, 5, 8, 9])
 (.skip)))))
 (.ops [So 26 (.binOp .add 3 (.tmp 9) (.const (.int .i64 1)) 3) 3,
 So 9 (.move (.tmp 26)) 3] [0, 3, 5, 8, 9])))))))
 (.seq (.ops [So 27 (.move (.tmp 5)) 22,
 So 4 (.assign (.tmp 27)) 22] [4])
 (.ret))))
theorem w43 : CW 43 s43 [.tmp 4] := fun hr h => callsV_of_p follows cfgT a43 (fn := Tryz.f43) (c := Tryz.f43.body.getD .skip) (by kernel_rfl) (by kernel_rfl) (by kernel_rfl) (by kernel_rfl) (by kernel_rfl) (sc := s43) (by kernel_rfl) [.tmp 4] (by kernel_rfl) hr h
def a44 : List Ann := [⟨[0, 2], [], []⟩,
 ⟨[2], [], []⟩]
def s44 : SC := .seq (.ops [So 2 (.alloc 42) 0] [0, 2])
 (.seq (.ops [So 3 (.move (.tmp 0)) 3,
 So 4 (.build 42 #[(0, .const (.int .i64 1)), (1, .tmp 3)]) 42,
 Sn (.store 42 (.tmp 2) (.tmp 4)) 0] [2])
 (.ret))
theorem w44 : CW 44 s44 [.cell 2 42] := fun hr h => callsV_of_p follows cfgT a44 (fn := Tryz.f44) (c := Tryz.f44.body.getD .skip) (by kernel_rfl) (by kernel_rfl) (by kernel_rfl) (by kernel_rfl) (by kernel_rfl) (sc := s44) (by kernel_rfl) [.cell 2 42] (by kernel_rfl) hr h
def a66 : List Ann := [⟨[1, 2], [], []⟩,
 ⟨[1, 2, 3], [], []⟩,
 ⟨[1, 2, 3, 7, 8, 9], [], []⟩,
 ⟨[1, 2, 3, 7, 8, 9, 10], [], []⟩,
 ⟨[1, 2, 3, 5, 7, 8, 9], [], []⟩,
 ⟨[1, 2, 3, 7, 8, 9], [], []⟩,
 ⟨[1, 2, 3, 7, 8, 9], [], []⟩,
 ⟨[2], [0, 1, 0, 4, 0, 16, 48, 0, 255, 511], [false, true, false, true, false, false, true, false, false, false]⟩]
def s66 : SC := .seq (.ops [So 1 (.box 42 (.tmp 0)) 0,
 So 2 (.alloc 42) 0] [1, 2])
 (.seq (.ops [So 3 (.assign (.const (.slice none 0 0))) 31] [1, 2, 3])
 (.seq (.seq (.ops [So 6 (.fieldAddr 42 (.tmp 1) 3) 0,
 So 7 (.load 31 (.tmp 6)) 31,
 So 8 (.call ⟨.builtin .len, #[.tmp 7], #[31]⟩) 3,
 So 9 (.move (.const (.int .i64 0))) 3] [1, 2, 3, 7, 8, 9])
 (.block 0
 (.loop
 (.seq (.ops [So 10 (.binOp .lss 3 (.tmp 9) (.tmp 8) 3) 0] [1, 2, 3, 7, 8, 9, 10])
 (.seq (.cond (.tmp 10)
 (.skip)
 (.exit 0))
 (.seq (.block 1
 (.seq (.ops [So 11 (.indexAddr 31 (.tmp 7) (.tmp 9)) 0,
 So 12 (.load 42 (.tmp 11)) 42,
 So 5 (.alloc 42) 0,
 Sn (.store 42 (.tmp 5) (.tmp 12)) 0] [1, 2, 3, 5, 7, 8, 9])
 (.ops [So 13 (.move (.tmp 3)) 31,
 So 14 (.load 42 (.tmp 5)) 42,
 So 15 (.call ⟨.value (.func 66), #[.tmp 14], #[42]⟩) 42,
 So 16 (.buildSlice 31 1 #[(0, .tmp 15)]) 31,
 So 17 (.call ⟨.builtin .append, #[.tmp 13, .tmp 16], #[31, 31]⟩) 31,
 So 3 (.assign (.tmp 17)) 31] [1, 2, 3, 7, 8, 9])))
 (.ops [So 18 (.binOp .add 3 (.tmp 9) (.const (.int .i64 1)) 3) 3,
 So 9 (.move (.tmp 18)) 3] [1, 2, 3, 7, 8, 9])))))))
 (.seq (.draw [So 19 (.fieldAddr 42 (.tmp 1) 0) 0,
 So 20 (.load 3 (.tmp 19)) 3,
 So 21 (.fieldAddr 42 (.tmp 1) 1) 0,
 So 22 (.load 3 (.tmp 21)) 3,
 So 23 (.fieldAddr 42 (.tmp 1) 2) 0,
 So 24 (.load 30 (.tmp 23)) 30,
 So 25 (.call ⟨.value (.func 79), #[.tmp 24], #[30]⟩) 30,
 So 26 (.move (.tmp 3)) 31,
 So 27 (.build 42 #[(0, .tmp 20), (1, .tmp 22), (2, .tmp 25), (3, .tmp 26)]) 42,
 Sn (.store 42 (.tmp 2) (.tmp 27)) 0] [false, true, false, true, false, false, true, false, false, false] [2])
 (.ret))))
theorem w66 : CW 66 s66 [.cell 2 42] := fun hr h => callsV_of_p follows cfgT a66 (fn := Tryz.f66) (c := Tryz.f66.body.getD .skip) (by kernel_rfl) (by kernel_rfl) (by kernel_rfl) (by kernel_rfl) (by kernel_rfl) (sc := s66) (by kernel_rfl) [.cell 2 42] (by kernel_rfl) hr h
def a45 : List Ann := [⟨[0, 1, 4], [], []⟩,
 ⟨[0, 1, 4, 5], [], []⟩,
 ⟨[0, 4, 5, 8, 9, 10], [], []⟩,
 ⟨[0, 4, 5, 8, 9, 10, 11], [], []⟩,
 ⟨[0, 4, 5, 7, 8, 9, 10], [], []⟩,
 ⟨[0, 4, 5, 8, 9, 10], [], []⟩,
 ⟨[0, 4, 5, 8, 9, 10], [], []⟩,
 ⟨[4], [], []⟩]
def s45 : SC := .seq (.ops [So 4 (.alloc 42) 0] [0, 1, 4])
 (.seq (.ops [So 5 (.assign (.const (.slice none 0 0))) 31] [0, 1, 4, 5])
 (.seq (.seq (.ops [So 8 (.move (.tmp 1)) 31,
 So 9 (.call ⟨.builtin .len, #[.tmp 8], #[31]⟩) 3,
 So 10 (.move (.const (.int .i64 0))) 3] [0, 4, 5, 8, 9, 10])
 (.block 0
 (.loop
 (.seq (.ops [So 11 (.binOp .lss 3 (.tmp 10) (.tmp 9) 3) 0] [0, 4, 5, 8, 9, 10, 11])
 (.seq (.cond (.tmp 11)
 (.skip)
 (.exit 0))
 (.seq (.block 1
 (.seq (.ops [So 12 (.indexAddr 31 (.tmp 8) (.tmp 10)) 0,
 So 13 (.load 42 (.tmp 12)) 42,
 So 7 (.alloc 42) 0,
 Sn (.store 42 (.tmp 7) (.tmp 13)) 0] [0, 4, 5, 7, 8, 9, 10])
 (.ops [So 14 (.move (.tmp 5)) 31,
 So 15 (.load 42 (.tmp 7)) 42,
 So 16 (.call ⟨.value (.func 66), #[.tmp 15], #[42]⟩) 42,
 So 17 (.buildSlice 31 1 #[(0, .tmp 16)]) 31,
 So 18 (.call ⟨.builtin .append, #[.tmp 14, .tmp 17], #[31, 31]⟩) 31,
 So 5 (.assign (.tmp 18)) 31] [0, 4, 5, 8, 9, 10])))
 (.ops [So 19 (.binOp .add 3 (.tmp 10) (.const (.int .i64 1)) 3) 3,
 So 10 (.move (.tmp 19)) 3] [0, 4, 5, 8, 9, 10])))))))
 (.seq (.ops [So 20 (.move (.tmp 0)) 3,
 So 21 (.move (.tmp 5)) 31,
 So 22 (.build 42 #[(0, .tmp 20), (3, .tmp 21)]) 42,
 Sn (.store 42 (.tmp 4) (.tmp 22)) 0] [4])
 (.ret))))
theorem w45 : CW 45 s45 [.cell 4 42] := fun hr h => callsV_of_p follows cfgT a45 (fn := Tryz.f45) (c := Tryz.f45.body.getD .skip) (by kernel_rfl) (by kernel_rfl) (by kernel_rfl) (by kernel_rfl) (by kernel_rfl) (sc := s45) (by kernel_rfl) [.cell 4 42] (by kernel_rfl) hr h
def a46 : List Ann := [⟨[0, 2, 4, 6], [], []⟩,
 ⟨[4, 6, 7], [], []⟩,
 ⟨[6, 7], [], []⟩,
 ⟨[6], [], []⟩]
def s46 : SC := .seq (.ops [So 4 (.box 30 (.tmp 1)) 0,
 So 6 (.alloc 42) 0] [0, 2, 4, 6])
 (.seq (.ops [So 8 (.move (.tmp 0)) 3,
 So 9 (.move (.tmp 2)) 31,
 So 10 (.call ⟨.value (.func 45), #[.tmp 8, .tmp 9], #[3, 31]⟩) 42,
 So 7 (.alloc 42) 0,
 Sn (.store 42 (.tmp 7) (.tmp 10)) 0] [4, 6, 7])
 (.seq (.ops [So 11 (.load 30 (.tmp 4)) 30,
 So 12 (.call ⟨.value (.func 79), #[.tmp 11], #[30]⟩) 30,
 So 13 (.fieldAddr 42 (.tmp 7) 2) 0,
 Sn (.store 30 (.tmp 13) (.tmp 12)) 0] [6, 7])
 (.seq (.ops [So 14 (.load 42 (.tmp 7)) 42,
 Sn (.store 42 (.tmp 6) (.tmp 14)) 0] [6])
 (.ret))))
theorem w46 : CW 46 s46 [.cell 6 42] := fun hr h => callsV_of_p follows cfgT a46 (fn := Tryz.f46) (c := Tryz.f46.body.getD .skip) (by kernel_rfl) (by kernel_rfl) (by kernel_rfl) (by kernel_rfl) (by kernel_rfl) (sc := s46) (by kernel_rfl) [.cell 6 42] (by kernel_rfl) hr h
def a128 : List Ann := [⟨[0, 2], [], []⟩,
 ⟨[0, 2, 3], [], []⟩,
 ⟨[0, 2, 3, 6], [], []⟩,
 ⟨[0, 2, 3], [], []⟩,
 ⟨[0, 2, 3], [], []⟩,
 ⟨[2], [], []⟩]
def s128 : SC := .seq (.ops [So 2 (.alloc 42) 0] [0, 2])
 (.seq (.ops [So 4 (.call ⟨.value (.func 45), #[.const (.int .i64 4), .const (.slice none 0 0)], #[3, 31]⟩) 42,
 So 3 (.alloc 42) 0,
 Sn (.store 42 (.tmp 3) (.tmp 4)) 0] [0, 2, 3])
 (.seq (.block 0
 (.loop
 (.seq (.seq (.ops [So 5 (.move (.tmp 0)) 3,
 So 6 (.binOp .gtr 3 (.tmp 5) (.const (.int .i64 0)) 3) 4] [0, 2, 3, 6])
 (.cond (.tmp 6)
 (.skip)
 (.exit 0)))
 (.seq (.block 1
 (.ops [So 9 (.load 42 (.tmp 3)) 42,
 So 10 (.buildSlice 31 1 #[(0, .tmp 9)]) 31,
 So 11 (.build 42 #[(0, .const (.int .i64 5)), (3, .tmp 10)]) 42,
 Sn (.store 42 (.tmp 3) (.tmp 11)) 0] [0, 2, 3]))
 (.ops [So 7 (.move (.tmp 0)) 3,
 So 8 (.binOp .sub 3 (.tmp 7) (.const (.int .i64 1)) 3) 3,
 So 0 (.assign (.tmp 8)) 3] [0, 2, 3])))))
 (.seq (.ops [So 12 (.load 42 (.tmp 3)) 42,
 Sn (.store 42 (.tmp 2) (.tmp 12)) 0] [2])
 (.ret))))
theorem w128 : CW 128 s128 [.cell 2 42] := fun hr h => callsV_of_p follows cfgT a128 (fn := Tryz.f128) (c := Tryz.f128.body.getD .skip) (by kernel_rfl) (by kernel_rfl) (by kernel_rfl) (by kernel_rfl) (by kernel_rfl) (sc := s128) (by kernel_rfl) [.cell 2 42] (by kernel_rfl) hr h
def a98 : List Ann := [⟨[0, 2], [], []⟩,
 ⟨[0, 2, 5], [], []⟩,
 ⟨[2, 3], [], []⟩,
 ⟨[0, 2, 8], [], []⟩,
 ⟨[2, 3], [], []⟩,
 ⟨[2, 3], [], []⟩]
def s98 : SC := .seq (.ops [So 2 (.alloc 42) 0,
 So 3 (.assign (.const (.int .i64 0))) 36] [0, 2])
 (.seq (.seq (.ops [So 4 (.move (.tmp 0)) 3,
 So 5 (.binOp .lss 3 (.tmp 4) (.const (.int .i64 0)) 3) 4] [0, 2, 5])
 (.cond (.tmp 5)
 (.seq (.ops [So 6 (.build 42 #[]) 42,
 Sn (.store 42 (.tmp 2) (.tmp 6)) 0,
 So 3 (.assign (.const (.int .i64 1))) 36] [2, 3])
 (.ret))
 (.skip)))
 (.seq (.seq (.ops [So 7 (.move (.tmp 0)) 3,
 So 8 (.binOp .geq 3 (.tmp 7) (.const (.int .i64 4096)) 3) 4] [0, 2, 8])
 (.cond (.tmp 8)
 (.seq (.ops [So 9 (.build 42 #[]) 42,
 Sn (.store 42 (.tmp 2) (.tmp 9)) 0,
 So 3 (.assign (.const (.int .i64 4))) 36] [2, 3])
 (.ret))
 (.skip)))
 (.seq (.ops [So 10 (.move (.tmp 0)) 3,
 So 11 (.call ⟨.value (.func 128), #[.tmp 10], #[3]⟩) 42,
 Sn (.store 42 (.tmp 2) (.tmp 11)) 0,
 So 3 (.assign (.const (.int .i64 0))) 36] [2, 3])
 (.ret))))
theorem w98 : CW 98 s98 [.cell 2 42, .tmp 3] := fun hr h => callsV_of_p follows cfgT a98 (fn := Tryz.f98) (c := Tryz.f98.body.getD .skip) (by kernel_rfl) (by kernel_rfl) (by kernel_rfl) (by kernel_rfl) (by kernel_rfl) (sc := s98) (by kernel_rfl) [.cell 2 42, .tmp 3] (by kernel_rfl) hr h
def a47 : List Ann := [⟨[0, 2], [], []⟩,
 ⟨[2, 3], [], []⟩,
 ⟨[2], [], []⟩]
def s47 : SC := .seq (.ops [So 2 (.alloc 42) 0] [0, 2])
 (.seq (.ops [So 6 (.move (.tmp 0)) 3,
 So 7 (.call ⟨.value (.func 98), #[.tmp 6], #[3]⟩) 49,
 So 5 (.move (.tmp 7)) 49,
 So 8 (.extract (.tmp 5) 0) 42,
 So 9 (.extract (.tmp 5) 1) 36,
 So 3 (.alloc 42) 0,
 Sn (.store 42 (.tmp 3) (.tmp 8)) 0,
 So 4 (.assign (.tmp 9)) 36] [2, 3])
 (.seq (.ops [So 10 (.load 42 (.tmp 3)) 42,
 Sn (.store 42 (.tmp 2) (.tmp 10)) 0] [2])
 (.ret)))
theorem w47 : CW 47 s47 [.cell 2 42] := fun hr h => callsV_of_p follows cfgT a47 (fn := Tryz.f47) (c := Tryz.f47.body.getD .skip) (by kernel_rfl) (by kernel_rfl) (by kernel_rfl) (by kernel_rfl) (by kernel_rfl) (sc := s47) (by kernel_rfl) [.cell 2 42] (by kernel_rfl) hr h
def a50 : List Ann := [⟨[1, 2, 4], [], []⟩,
 ⟨[2, 4, 7, 8, 9], [], []⟩,
 ⟨[2, 4, 7, 8, 9, 10], [], []⟩,
 ⟨[2, 4, 6, 7, 8, 9], [], []⟩,
 ⟨[2, 4, 7, 8, 9], [], []⟩,
 ⟨[2, 4, 7, 8, 9], [], []⟩,
 ⟨[4], [], []⟩]
def s50 : SC := .seq (.ops [So 2 (.box 42 (.tmp 0)) 0,
 So 4 (.alloc 42) 0] [1, 2, 4])
 (.seq (.seq (.ops [So 7 (.move (.tmp 1)) 31,
 So 8 (.call ⟨.builtin .len, #[.tmp 7], #[31]⟩) 3,
 So 9 (.move (.const (.int .i64 0))) 3] [2, 4, 7, 8, 9])
 (.block 0
 (.loop
 (.seq (.ops [So 10 (.binOp .lss 3 (.tmp 9) (.tmp 8) 3) 0] [2, 4, 7, 8, 9, 10])
 (.seq (.cond (.tmp 10)
 (.skip)
 (.exit 0))
 (.seq (.block 1
 (.seq (.ops [So 11 (.indexAddr 31 (.tmp 7) (.tmp 9)) 0,
 So 12 (.load 42 (.tmp 11)) 42,
 So 6 (.alloc 42) 0,
 Sn (.store 42 (.tmp 6) (.tmp 12)) 0] [2, 4, 6, 7, 8, 9])
 (.ops [So 13 (.load 42 (.tmp 2)) 42,
 So 14 (.load 42 (.tmp 6)) 42,
 So 15 (.buildSlice 31 2 #[(0, .tmp 13), (1, .tmp 14)]) 31,
 So 16 (.call ⟨.value (.func 45), #[.const (.int .i64 3), .tmp 15], #[3, 31]⟩) 42,
 Sn (.store 42 (.tmp 2) (.tmp 16)) 0] [2, 4, 7, 8, 9])))
 (.ops [So 17 (.binOp .add 3 (.tmp 9) (.const (.int .i64 1)) 3) 3,
 So 9 (.move (.tmp 17)) 3] [2, 4, 7, 8, 9])))))))
 (.seq (.ops [So 18 (.load 42 (.tmp 2)) 42,
 Sn (.store 42 (.tmp 4) (.tmp 18)) 0] [4])
 (.ret)))
theorem w50 : CW 50 s50 [.cell 4 42] := fun hr h => callsV_of_p follows cfgT a50 (fn := Tryz.f50) (c := Tryz.f50.body.getD .skip) (by kernel_rfl) (by kernel_rfl) (by kernel_rfl) (by kernel_rfl) (by kernel_rfl) (sc := s50) (by kernel_rfl) [.cell 4 42] (by kernel_rfl) hr h
def a99 : List Ann := [⟨[1, 2], [], []⟩,
 ⟨[2], [0, 0, 2, 7, 15], [true, true, false, false, false]⟩]
def s99 : SC := .seq (.ops [So 1 (.box 42 (.tmp 0)) 0,
 So 2 (.alloc 42) 0] [1, 2])
 (.seq (.draw [So 3 (.call ⟨.value (.func 32), #[], #[]⟩) 30,
 So 4 (.load 42 (.tmp 1)) 42,
 So 5 (.buildSlice 31 1 #[(0, .tmp 4)]) 31,
 So 6 (.call ⟨.value (.func 46), #[.const (.int .i64 2), .tmp 3, .tmp 5], #[3, 30, 31]⟩) 42,
 Sn (.store 42 (.tmp 2) (.tmp 6)) 0] [true, true, false, false, false] [2])
 (.ret))
theorem w99 : CW 99 s99 [.cell 2 42] := fun hr h => callsV_of_p follows cfgT a99 (fn := Tryz.f99) (c := Tryz.f99.body.getD .skip) (by kernel_rfl) (by kernel_rfl) (by kernel_rfl) (by kernel_rfl) (by kernel_rfl) (sc := s99) (by kernel_rfl) [.cell 2 42] (by kernel_rfl) hr h
def a100 : List Ann := [⟨[3, 4, 5, 6], [], []⟩,
 ⟨[6], [0, 0, 0, 0, 14, 31, 63], [true, true, true, true, false, false, false]⟩]
def s100 : SC := .seq (.ops [So 3 (.box 42 (.tmp 0)) 0,
 So 4 (.box 42 (.tmp 1)) 0,
 So 5 (.box 42 (.tmp 2)) 0,
 So 6 (.alloc 42) 0] [3, 4, 5, 6])
 (.seq (.draw [So 7 (.call ⟨.value (.func 32), #[], #[]⟩) 30,
 So 8 (.load 42 (.tmp 3)) 42,
 So 9 (.load 42 (.tmp 4)) 42,
 So 10 (.load 42 (.tmp 5)) 42,
 So 11 (.buildSlice 31 3 #[(0, .tmp 8), (1, .tmp 9), (2, .tmp 10)]) 31,
 So 12 (.call ⟨.value (.func 46), #[.const (.int .i64 6), .tmp 7, .tmp 11], #[3, 30, 31]⟩) 42,
 Sn (.store 42 (.tmp 6) (.tmp 12)) 0] [true, true, true, true, false, false, false] [6])
 (.ret))
theorem w100 : CW 100 s100 [.cell 6 42] := fun hr h => callsV_of_p follows cfgT a100 (fn := Tryz.f100) (c := Tryz.f100.body.getD .skip) (by kernel_rfl) (by kernel_rfl) (by kernel_rfl) (by kernel_rfl) (by kernel_rfl) (sc := s100) (by kernel_rfl) [.cell 6 42] (by kernel_rfl) hr h
def a51 : List Ann := [⟨[0], [], []⟩,
 ⟨[0], [], []⟩]
def s51 : SC := .seq (.ops [So 0 (.alloc 42) 0] [0])
 (.seq (.ops [So 1 (.call ⟨.value (.func 44), #[.const (.int .i64 1)], #[3]⟩) 42,
 So 2 (.call ⟨.value (.func 44), #[.const (.int .i64 0)], #[3]⟩) 42,
 So 3 (.buildSlice 31 1 #[(0, .tmp 2)]) 31,
 So 4 (.call ⟨.value (.func 45), #[.const (.int .i64 5), .tmp 3], #[3, 31]⟩) 42,
 So 5 (.call ⟨.value (.func 99), #[.tmp 4], #[42]⟩) 42,
 So 6 (.call ⟨.value (.func 99), #[.tmp 5], #[42]⟩) 42,
 So 7 (.call ⟨.value (.func 44), #[.const (.int .i64 0)], #[3]⟩) 42,
 So 8 (.call ⟨.value (.func 100), #[.tmp 1, .tmp 6, .tmp 7], #[42, 42, 42]⟩) 42,
 So 9 (.call ⟨.value (.func 99), #[.tmp 8], #[42]⟩) 42,
 So 10 (.call ⟨.value (.func 99), #[.tmp 9], #[42]⟩) 42,
 Sn (.store 42 (.tmp 0) (.tmp 10)) 0] [0])
 (.ret))
theorem w51 : CW 51 s51 [.cell 0 42] := fun hr h => callsV_of_p follows cfgT a51 (fn := Tryz.f51) (c := Tryz.f51.body.getD .skip) (by kernel_rfl) (by kernel_rfl) (by kernel_rfl) (by kernel_rfl) (by kernel_rfl) (sc := s51) (by kernel_rfl) [.cell 0 42] (by kernel_rfl) hr h
def a101 : List Ann := [⟨[0], [], []⟩,
 ⟨[0], [], []⟩]
def s101 : SC := .seq (.ops [So 0 (.alloc 42) 0] [0])
 (.seq (.ops [So 1 (.call ⟨.value (.func 45), #[.const (.int .i64 4), .const (.slice none 0 0)], #[3, 31]⟩) 42,
 So 2 (.call ⟨.value (.func 44), #[.const (.int .i64 1)], #[3]⟩) 42,
 So 3 (.call ⟨.value (.func 99), #[.tmp 2], #[42]⟩) 42,
 So 4 (.call ⟨.value (.func 99), #[.tmp 3], #[42]⟩) 42,
 So 5 (.call ⟨.value (.func 44), #[.const (.int .i64 0)], #[3]⟩) 42,
 So 6 (.call ⟨.value (.func 100), #[.tmp 1, .tmp 4, .tmp 5], #[42, 42, 42]⟩) 42,
 So 7 (.call ⟨.value (.func 99), #[.tmp 6], #[42]⟩) 42,
 Sn (.store 42 (.tmp 0) (.tmp 7)) 0] [0])
 (.ret))
theorem w101 : CW 101 s101 [.cell 0 42] := fun hr h => callsV_of_p follows cfgT a101 (fn := Tryz.f101) (c := Tryz.f101.body.getD .skip) (by kernel_rfl) (by kernel_rfl) (by kernel_rfl) (by kernel_rfl) (by kernel_rfl) (sc := s101) (by kernel_rfl) [.cell 0 42] (by kernel_rfl) hr h
def a52 : List Ann := [⟨[0], [], []⟩,
 ⟨[0], [], []⟩]
def s52 : SC := .seq (.ops [So 0 (.alloc 42) 0] [0])
 (.seq (.ops [So 1 (.call ⟨.value (.func 44), #[.const (.int .i64 1)], #[3]⟩) 42,
 So 2 (.call ⟨.value (.func 101), #[], #[]⟩) 42,
 So 3 (.call ⟨.value (.func 44), #[.const (.int .i64 0)], #[3]⟩) 42,
 So 4 (.buildSlice 31 2 #[(0, .tmp 2), (1, .tmp 3)]) 31,
 So 5 (.call ⟨.value (.func 45), #[.const (.int .i64 3), .tmp 4], #[3, 31]⟩) 42,
 So 6 (.call ⟨.value (.func 99), #[.tmp 5], #[42]⟩) 42,
 So 7 (.call ⟨.value (.func 99), #[.tmp 6], #[42]⟩) 42,
 So 8 (.call ⟨.value (.func 44), #[.const (.int .i64 0)], #[3]⟩) 42,
 So 9 (.call ⟨.value (.func 100), #[.tmp 1, .tmp 7, .tmp 8], #[42, 42, 42]⟩) 42,
 So 10 (.call ⟨.value (.func 99), #[.tmp 9], #[42]⟩) 42,
 So 11 (.call ⟨.value (.func 99), #[.tmp 10], #[42]⟩) 42,
 Sn (.store 42 (.tmp 0) (.tmp 11)) 0] [0])
 (.ret))
theorem w52 : CW 52 s52 [.cell 0 42] := fun hr h => callsV_of_p follows cfgT a52 (fn := Tryz.f52) (c := Tryz.f52.body.getD .skip) (by kernel_rfl) (by kernel_rfl) (by kernel_rfl) (by kernel_rfl) (by kernel_rfl) (sc := s52) (by kernel_rfl) [.cell 0 42] (by kernel_rfl) hr h
def a15 : List Ann := [⟨[0, 1, 3, 6, 8], [], []⟩,
 ⟨[0, 1, 3, 6, 8, 9], [], []⟩,
 ⟨[0, 1, 3, 6, 8, 9, 27], [], []⟩,
 ⟨[8], [], []⟩,
 ⟨[0, 1, 3, 6, 8, 37], [], []⟩,
 ⟨[0, 1, 3, 6, 8, 39], [], []⟩,
 ⟨[0, 1, 3, 6, 8, 39, 40], [], []⟩,
 ⟨[0, 1, 3, 6, 8, 10], [], []⟩,
 ⟨[8], [0, 0, 0, 0, 8, 28, 0, 0, 128, 510, 1022, 2047, 0, 0, 0, 0, 32768, 131071, 262143, 524287, 1048575], [true, false, false, false, false, true, true, false, false, true, false, true, false, false, true, false, false, false, false, false, false]⟩,
 ⟨[0, 1, 3, 6, 8, 39, 64], [], []⟩,
 ⟨[0, 1, 3, 6, 8, 11], [], []⟩,
 ⟨[8], [0, 0, 0, 0, 8, 31, 0, 0, 0, 0, 512, 2047, 4095, 8191, 16383, 32767, 65535], [false, false, false, false, false, true, false, false, true, false, false, false, false, false, false, false, false]⟩,
 ⟨[0, 1, 3, 6, 8, 39, 84], [], []⟩,
 ⟨[0, 1, 3, 6, 8, 12], [0, 0, 0, 0, 1, 0, 49, 121, 0, 0, 512, 2045, 4093, 8191, 16383, 32767, 0, 131071], [true, true, false, false, true, true, false, true, true, false, false, true, false, true, false, true, true, false]⟩,
 ⟨[8], [0, 0, 0, 0, 0, 16, 62, 0, 0, 382, 894, 2046, 4095, 8191], [true, false, false, false, false, false, true, true, false, true, true, false, false, false]⟩,
 ⟨[0, 1, 3, 6, 8, 39, 115], [], []⟩,
 ⟨[0, 1, 3, 6, 8, 13], [0, 1, 0, 0, 0, 3, 35, 0, 227, 499, 0, 0, 2048, 8187, 16379, 32767, 65535, 131071, 262143, 524287, 0, 2097151], [true, true, true, false, false, true, true, true, false, true, true, false, false, true, false, true, false, true, false, true, true, false]⟩,
 ⟨[8], [0, 0, 0, 0, 0, 16, 62, 0, 0, 0, 126, 0, 2048, 8062, 16382, 32767, 65535], [true, false, false, false, false, false, true, true, false, false, true, false, false, true, false, false, false]⟩,
 ⟨[0, 1, 3, 6, 8, 39, 153], [], []⟩,
 ⟨[0, 1, 3, 6, 8, 14], [], []⟩,
 ⟨[8], [0, 0, 0, 0, 8, 31, 0, 0, 0, 0, 512, 2047, 4095, 8191, 16383, 32767, 65535], [false, false, false, false, false, true, false, false, true, false, false, false, false, false, false, false, false]⟩,
 ⟨[0, 1, 3, 6, 8, 173], [], []⟩,
 ⟨[0, 1, 3, 6, 8, 176, 177], [], []⟩,
 ⟨[0, 1, 3, 6, 8, 176, 177, 178], [], []⟩,
 ⟨[0, 1, 3, 6, 8, 15, 176, 177], [], []⟩,
 ⟨[0, 1, 3, 6, 8, 15, 16, 176, 177], [], []⟩,
 ⟨[0, 1, 3, 6, 8, 15, 16, 176, 177, 198], [0, 1, 3, 7, 15, 31, 63, 127, 15, 511, 1023], [false, false, false, false, false, false, false, false, false, false, false]⟩,
 ⟨[8], [0, 1, 0, 0, 0, 16, 48, 112, 0, 256, 1023, 2047, 4095, 8191], [false, true, false, false, false, true, false, true, false, false, false, false, false, false]⟩,
 ⟨[0, 1, 3, 6, 8, 176, 177], [], []⟩,
 ⟨[0, 1, 3, 6, 8, 214], [], []⟩,
 ⟨[0, 1, 3, 6, 8, 214, 215], [], []⟩,
 ⟨[0, 1, 3, 6, 8, 218], [], []⟩,
 ⟨[0, 1, 3, 6, 8, 220], [], []⟩,
 ⟨[0, 1, 3, 6, 8, 220, 221], [], []⟩,
 ⟨[8], [], []⟩,
 ⟨[0, 1, 3, 6, 8, 220, 231], [], []⟩,
 ⟨[8], [0, 0, 0, 0, 0, 16, 63, 0, 0, 0, 0, 1024, 4095, 8191, 16383, 32767], [true, false, false, true, false, false, true, false, false, true, false, false, false, false, false, false]⟩,
 ⟨[0, 1, 3, 6, 8, 248], [], []⟩,
 ⟨[8], [0, 0, 0, 0, 0, 16, 63, 0, 0, 0, 0, 1024, 4095, 8191, 16383, 32767], [true, false, false, true, false, false, true, false, false, true, false, false, false, false, false, false]⟩,
 ⟨[8], [], []⟩,
 ⟨[0, 1, 3, 6, 8, 214, 268], [], []⟩,
 ⟨[0, 1, 3, 6, 8, 276], [], []⟩,
 ⟨[8], [0, 0, 0, 0, 8, 31, 0, 0, 0, 0, 512, 2047, 4095, 8191, 16383], [false, false, true, false, false, true, false, false, true, false, false, false, false, false, false]⟩,
 ⟨[8], [], []⟩,
 ⟨[0, 1, 3, 6, 8, 214, 292], [], []⟩,
 ⟨[8], [0, 0, 0, 4, 12, 28, 0, 64, 255, 0, 0, 0, 2048, 6144, 14336, 0, 32768, 131071, 262143, 524287, 1048575], [false, false, false, false, false, false, false, false, true, false, false, false, true, false, true, false, false, false, false, false, false]⟩,
 ⟨[0, 1, 3, 6, 8, 314], [], []⟩,
 ⟨[8], [0, 1, 3, 7, 0, 0, 0, 64, 192, 448, 960, 2016, 0, 4096, 12288, 28672, 0, 65536, 262128, 524272, 1048575, 2097151], [false, true, false, true, false, false, false, false, false, false, false, true, false, true, false, true, false, false, true, false, false, false]⟩,
 ⟨[8], [], []⟩]
def s15 : SC := .seq (.ops [So 6 (.box 30 (.tmp 2)) 0,
 So 8 (.alloc 42) 0] [0, 1, 3, 6, 8])
 (.seq (.ops [So 17 (.move (.tmp 1)) 27,
 So 18 (.load 30 (.tmp 6)) 30,
 So 19 (.call ⟨.value (.func 43), #[.tmp 17, .tmp 18], #[27, 30]⟩) 22,
 So 9 (.assign (.tmp 19)) 22] [0, 1, 3, 6, 8, 9])
 (.seq (.seq (.ops [So 20 (.move (.tmp 9)) 22,
 So 21 (.call ⟨.builtin .len, #[.tmp 20], #[22]⟩) 3,
 So 22 (.binOp .gtr 3 (.tmp 21) (.const (.int .i64 0)) 3) 4,
 So 23 (.move (.tmp 22)) 4,
 Sg 24 (.move (.tmp 0)) 25 23 true,
 Sg 25 (.call ⟨.value (.func 27), #[.tmp 24, .const (.int .i64 3)], #[25, 3]⟩) 3 23 true,
 Sg 26 (.binOp .gtr 3 (.tmp 25) (.const (.int .i64 0)) 3) 4 23 true,
 So 27 (.pick (.tmp 23) (.tmp 26) (.const (.bool false))) 4] [0, 1, 3, 6, 8, 9, 27])
 (.cond (.tmp 27)
 (.seq (.ops [So 28 (.move (.tmp 9)) 22,
 So 29 (.move (.tmp 0)) 25,
 So 30 (.move (.tmp 9)) 22,
 So 31 (.call ⟨.builtin .len, #[.tmp 30], #[22]⟩) 3,
 So 32 (.call ⟨.value (.func 27), #[.tmp 29, .tmp 31], #[25, 3]⟩) 3,
 So 33 (.indexAddr 22 (.tmp 28) (.tmp 32)) 0,
 So 34 (.load 3 (.tmp 33)) 3,
 So 35 (.call ⟨.value (.func 44), #[.tmp 34], #[3]⟩) 42,
 Sn (.store 42 (.tmp 8) (.tmp 35)) 0] [8])
 (.ret))
 (.skip)))
 (.seq (.seq (.ops [So 36 (.move (.tmp 3)) 3,
 So 37 (.binOp .gtr 3 (.tmp 36) (.const (.int .i64 0)) 3) 4] [0, 1, 3, 6, 8, 37])
 (.cond (.tmp 37)
 (.seq (.ops [So 38 (.move (.tmp 0)) 25,
 So 39 (.call ⟨.value (.func 27), #[.tmp 38, .const (.int .i64 8)], #[25, 3]⟩) 3] [0, 1, 3, 6, 8, 39])
 (.block 0
 (.seq (.ops [So 41 (.binOp .eql 3 (.tmp 39) (.const (.int .i64 0)) 3) 4,
 So 40 (.assign (.tmp 41)) 4] [0, 1, 3, 6, 8, 39, 40])
 (.cond (.tmp 40)
 (.seq (.ops [So 42 (.move (.tmp 0)) 25,
 So 43 (.call ⟨.value (.func 28), #[.tmp 42, .const (.int .i64 0)], #[25, 3]⟩) 30,
 So 10 (.alloc 30) 0,
 Sn (.store 30 (.tmp 10) (.tmp 43)) 0] [0, 1, 3, 6, 8, 10])
 (.seq (.draw [So 44 (.load 30 (.tmp 10)) 30,
 So 45 (.move (.tmp 0)) 25,
 So 46 (.move (.tmp 1)) 27,
 So 47 (.load 30 (.tmp 10)) 30,
 So 48 (.buildSlice 27 1 #[(0, .tmp 47)]) 27,
 So 49 (.call ⟨.value (.func 31), #[.tmp 46, .tmp 48], #[27, 27]⟩) 27,
 So 50 (.load 30 (.tmp 6)) 30,
 So 51 (.move (.tmp 3)) 3,
 So 52 (.binOp .sub 3 (.tmp 51) (.const (.int .i64 1)) 3) 3,
 So 53 (.call ⟨.value (.func 15), #[.tmp 45, .tmp 49, .tmp 50, .tmp 52], #[25, 27, 30, 3]⟩) 42,
 So 54 (.buildSlice 31 1 #[(0, .tmp 53)]) 31,
 So 55 (.call ⟨.value (.func 46), #[.const (.int .i64 2), .tmp 44, .tmp 54], #[3, 30, 31]⟩) 42,
 So 56 (.move (.tmp 0)) 25,
 So 57 (.move (.tmp 1)) 27,
 So 58 (.load 30 (.tmp 10)) 30,
 So 59 (.move (.tmp 3)) 3,
 So 60 (.binOp .sub 3 (.tmp 59) (.const (.int .i64 1)) 3) 3,
 So 61 (.call ⟨.value (.func 15), #[.tmp 56, .tmp 57, .tmp 58, .tmp 60], #[25, 27, 30, 3]⟩) 42,
 So 62 (.buildSlice 31 2 #[(0, .tmp 55), (1, .tmp 61)]) 31,
 So 63 (.call ⟨.value (.func 45), #[.const (.int .i64 3), .tmp 62], #[3, 31]⟩) 42,
 Sn (.store 42 (.tmp 8) (.tmp 63)) 0] [true, false, false, false, false, true, true, false, false, true, false, true, false, false, true, false, false, false, false, false, false] [8])
 (.ret)))
 (.seq (.ops [So 65 (.binOp .eql 3 (.tmp 39) (.const (.int .i64 1)) 3) 4,
 So 64 (.assign (.tmp 65)) 4] [0, 1, 3, 6, 8, 39, 64])
 (.cond (.tmp 64)
 (.seq (.ops [So 66 (.move (.tmp 0)) 25,
 So 67 (.call ⟨.value (.func 28), #[.tmp 66, .const (.int .i64 0)], #[25, 3]⟩) 30,
 So 11 (.alloc 30) 0,
 Sn (.store 30 (.tmp 11) (.tmp 67)) 0] [0, 1, 3, 6, 8, 11])
 (.seq (.draw [So 68 (.move (.tmp 0)) 25,
 So 69 (.move (.tmp 1)) 27,
 So 70 (.load 30 (.tmp 6)) 30,
 So 71 (.move (.tmp 3)) 3,
 So 72 (.binOp .sub 3 (.tmp 71) (.const (.int .i64 1)) 3) 3,
 So 73 (.call ⟨.value (.func 15), #[.tmp 68, .tmp 69, .tmp 70, .tmp 72], #[25, 27, 30, 3]⟩) 42,
 So 74 (.move (.tmp 0)) 25,
 So 75 (.move (.tmp 1)) 27,
 So 76 (.load 30 (.tmp 11)) 30,
 So 77 (.move (.tmp 3)) 3,
 So 78 (.binOp .sub 3 (.tmp 77) (.const (.int .i64 1)) 3) 3,
 So 79 (.call ⟨.value (.func 15), #[.tmp 74, .tmp 75, .tmp 76, .tmp 78], #[25, 27, 30, 3]⟩) 42,
 So 80 (.buildSlice 31 2 #[(0, .tmp 73), (1, .tmp 79)]) 31,
 So 81 (.call ⟨.value (.func 45), #[.const (.int .i64 10), .tmp 80], #[3, 31]⟩) 42,
 So 82 (.buildSlice 31 1 #[(0, .tmp 81)]) 31,
 So 83 (.call ⟨.value (.func 45), #[.const (.int .i64 11), .tmp 82], #[3, 31]⟩) 42,
 Sn (.store 42 (.tmp 8) (.tmp 83)) 0] [false, false, false, false, false, true, false, false, true, false, false, false, false, false, false, false, false] [8])
 (.ret)))
 (.seq (.ops [So 85 (.binOp .eql 3 (.tmp 39) (.const (.int .i64 2)) 3) 4,
 So 84 (.assign (.tmp 85)) 4] [0, 1, 3, 6, 8, 39, 84])
 (.cond (.tmp 84)
 (.seq (.draw [So 86 (.call ⟨.value (.func 32), #[], #[]⟩) 30,
 So 87 (.load 30 (.tmp 6)) 30,
 So 88 (.move (.tmp 0)) 25,
 So 89 (.move (.tmp 1)) 27,
 So 90 (.call ⟨.value (.func 32), #[], #[]⟩) 30,
 So 91 (.load 30 (.tmp 6)) 30,
 So 92 (.buildSlice 27 2 #[(0, .tmp 90), (1, .tmp 91)]) 27,
 So 93 (.call ⟨.value (.func 31), #[.tmp 89, .tmp 92], #[27, 27]⟩) 27,
 So 94 (.load 30 (.tmp 6)) 30,
 So 95 (.move (.tmp 3)) 3,
 So 96 (.binOp .sub 3 (.tmp 95) (.const (.int .i64 1)) 3) 3,
 So 97 (.call ⟨.value (.func 15), #[.tmp 88, .tmp 93, .tmp 94, .tmp 96], #[25, 27, 30, 3]⟩) 42,
 So 98 (.buildSlice 31 1 #[(0, .tmp 97)]) 31,
 So 99 (.call ⟨.value (.func 46), #[.const (.int .i64 2), .tmp 87, .tmp 98], #[3, 30, 31]⟩) 42,
 So 100 (.buildSlice 31 1 #[(0, .tmp 99)]) 31,
 So 101 (.call ⟨.value (.func 46), #[.const (.int .i64 2), .tmp 86, .tmp 100], #[3, 30, 31]⟩) 42,
 So 12 (.alloc 42) 0,
 Sn (.store 42 (.tmp 12) (.tmp 101)) 0] [true, true, false, false, true, true, false, true, true, false, false, true, false, true, false, true, true, false] [0, 1, 3, 6, 8, 12])
 (.seq (.draw [So 102 (.load 30 (.tmp 6)) 30,
 So 103 (.move (.tmp 0)) 25,
 So 104 (.move (.tmp 1)) 27,
 So 105 (.load 30 (.tmp 6)) 30,
 So 106 (.move (.tmp 3)) 3,
 So 107 (.binOp .sub 3 (.tmp 106) (.const (.int .i64 1)) 3) 3,
 So 108 (.call ⟨.value (.func 15), #[.tmp 103, .tmp 104, .tmp 105, .tmp 107], #[25, 27, 30, 3]⟩) 42,
 So 109 (.load 42 (.tmp 12)) 42,
 So 110 (.move (.tmp 0)) 25,
 So 111 (.call ⟨.value (.func 27), #[.tmp 110, .const (.int .i64 3)], #[25, 3]⟩) 3,
 So 112 (.call ⟨.value (.func 47), #[.tmp 111], #[3]⟩) 42,
 So 113 (.buildSlice 31 3 #[(0, .tmp 108), (1, .tmp 109), (2, .tmp 112)]) 31,
 So 114 (.call ⟨.value (.func 46), #[.const (.int .i64 6), .tmp 102, .tmp 113], #[3, 30, 31]⟩) 42,
 Sn (.store 42 (.tmp 8) (.tmp 114)) 0] [true, false, false, false, false, false, true, true, false, true, true, false, false, false] [8])
 (.ret)))
 (.seq (.ops [So 116 (.binOp .eql 3 (.tmp 39) (.const (.int .i64 3)) 3) 4,
 So 115 (.assign (.tmp 116)) 4] [0, 1, 3, 6, 8, 39, 115])
 (.cond (.tmp 115)
 (.seq (.draw [So 117 (.call ⟨.value (.func 32), #[], #[]⟩) 30,
 So 118 (.call ⟨.value (.func 48), #[], #[]⟩) 30,
 So 119 (.load 30 (.tmp 6)) 30,
 So 120 (.move (.tmp 0)) 25,
 So 121 (.move (.tmp 1)) 27,
 So 122 (.call ⟨.value (.func 32), #[], #[]⟩) 30,
 So 123 (.call ⟨.value (.func 48), #[], #[]⟩) 30,
 So 124 (.load 30 (.tmp 6)) 30,
 So 125 (.buildSlice 27 3 #[(0, .tmp 122), (1, .tmp 123), (2, .tmp 124)]) 27,
 So 126 (.call ⟨.value (.func 31), #[.tmp 121, .tmp 125], #[27, 27]⟩) 27,
 So 127 (.load 30 (.tmp 6)) 30,
 So 128 (.move (.tmp 3)) 3,
 So 129 (.binOp .sub 3 (.tmp 128) (.const (.int .i64 1)) 3) 3,
 So 130 (.call ⟨.value (.func 15), #[.tmp 120, .tmp 126, .tmp 127, .tmp 129], #[25, 27, 30, 3]⟩) 42,
 So 131 (.buildSlice 31 1 #[(0, .tmp 130)]) 31,
 So 132 (.call ⟨.value (.func 46), #[.const (.int .i64 2), .tmp 119, .tmp 131], #[3, 30, 31]⟩) 42,
 So 133 (.buildSlice 31 1 #[(0, .tmp 132)]) 31,
 So 134 (.call ⟨.value (.func 46), #[.const (.int .i64 2), .tmp 118, .tmp 133], #[3, 30, 31]⟩) 42,
 So 135 (.buildSlice 31 1 #[(0, .tmp 134)]) 31,
 So 136 (.call ⟨.value (.func 46), #[.const (.int .i64 2), .tmp 117, .tmp 135], #[3, 30, 31]⟩) 42,
 So 13 (.alloc 42) 0,
 Sn (.store 42 (.tmp 13) (.tmp 136)) 0] [true, true, true, false, false, true, true, true, false, true, true, false, false, true, false, true, false, true, false, true, true, false] [0, 1, 3, 6, 8, 13])
 (.seq (.draw [So 137 (.load 30 (.tmp 6)) 30,
 So 138 (.move (.tmp 0)) 25,
 So 139 (.move (.tmp 1)) 27,
 So 140 (.load 30 (.tmp 6)) 30,
 So 141 (.move (.tmp 3)) 3,
 So 142 (.binOp .sub 3 (.tmp 141) (.const (.int .i64 1)) 3) 3,
 So 143 (.call ⟨.value (.func 15), #[.tmp 138, .tmp 139, .tmp 140, .tmp 142], #[25, 27, 30, 3]⟩) 42,
 So 144 (.load 42 (.tmp 13)) 42,
 So 145 (.move (.tmp 0)) 25,
 So 146 (.move (.tmp 1)) 27,
 So 147 (.call ⟨.value (.func 48), #[], #[]⟩) 30,
 So 148 (.move (.tmp 3)) 3,
 So 149 (.binOp .sub 3 (.tmp 148) (.const (.int .i64 1)) 3) 3,
 So 150 (.call ⟨.value (.func 15), #[.tmp 145, .tmp 146, .tmp 147, .tmp 149], #[25, 27, 30, 3]⟩) 42,
 So 151 (.buildSlice 31 3 #[(0, .tmp 143), (1, .tmp 144), (2, .tmp 150)]) 31,
 So 152 (.call ⟨.value (.func 46), #[.const (.int .i64 9), .tmp 137, .tmp 151], #[3, 30, 31]⟩) 42,
 Sn (.store 42 (.tmp 8) (.tmp 152)) 0] [true, false, false, false, false, false, true, true, false, false, true, false, false, true, false, false, false] [8])
 (.ret)))
 (.seq (.ops [So 154 (.binOp .eql 3 (.tmp 39) (.const (.int .i64 4)) 3) 4,
 So 153 (.assign (.tmp 154)) 4] [0, 1, 3, 6, 8, 39, 153])
 (.cond (.tmp 153)
 (.seq (.ops [So 155 (.move (.tmp 0)) 25,
 So 156 (.call ⟨.value (.func 28), #[.tmp 155, .const (.int .i64 0)], #[25, 3]⟩) 30,
 So 14 (.alloc 30) 0,
 Sn (.store 30 (.tmp 14) (.tmp 156)) 0] [0, 1, 3, 6, 8, 14])
 (.seq (.draw [So 157 (.move (.tmp 0)) 25,
 So 158 (.move (.tmp 1)) 27,
 So 159 (.load 30 (.tmp 14)) 30,
 So 160 (.move (.tmp 3)) 3,
 So 161 (.binOp .sub 3 (.tmp 160) (.const (.int .i64 1)) 3) 3,
 So 162 (.call ⟨.value (.func 15), #[.tmp 157, .tmp 158, .tmp 159, .tmp 161], #[25, 27, 30, 3]⟩) 42,
 So 163 (.move (.tmp 0)) 25,
 So 164 (.move (.tmp 1)) 27,
 So 165 (.load 30 (.tmp 6)) 30,
 So 166 (.move (.tmp 3)) 3,
 So 167 (.binOp .sub 3 (.tmp 166) (.const (.int .i64 1)) 3) 3,
 So 168 (.call ⟨.value (.func 15), #[.tmp 163, .tmp 164, .tmp 165, .tmp 167], #[25, 27, 30, 3]⟩) 42,
 So 169 (.buildSlice 31 2 #[(0, .tmp 162), (1, .tmp 168)]) 31,
 So 170 (.call ⟨.value (.func 45), #[.const (.int .i64 10), .tmp 169], #[3, 31]⟩) 42,
 So 171 (.buildSlice 31 1 #[(0, .tmp 170)]) 31,
 So 172 (.call ⟨.value (.func 45), #[.const (.int .i64 12), .tmp 171], #[3, 31]⟩) 42,
 Sn (.store 42 (.tmp 8) (.tmp 172)) 0] [false, false, false, false, false, true, false, false, true, false, false, false, false, false, false, false, false] [8])
 (.ret)))
 (.seq (.ops [So 174 (.binOp .eql 3 (.tmp 39) (.const (.int .i64 5)) 3) 4,
 So 173 (.assign (.tmp 174)) 4] [0, 1, 3, 6, 8, 173])
 (.cond (.tmp 173)
 (.seq (.ops [So 175 (.move (.tmp 1)) 27,
 So 176 (.call ⟨.builtin .len, #[.tmp 175], #[27]⟩) 3,
 So 177 (.move (.const (.int .i64 0))) 3] [0, 1, 3, 6, 8, 176, 177])
 (.block 1
 (.loop
 (.seq (.ops [So 178 (.binOp .lss 3 (.tmp 177) (.tmp 176) 3) 0] [0, 1, 3, 6, 8, 176, 177, 178])
 (.seq (.cond (.tmp 178)
 (.skip)
 (.exit 1))
 (.seq (.block 2
 (.seq (.ops [So 179 (.move (.tmp 177)) 3,
 So 15 (.assign (.tmp 179)) 3] [0, 1, 3, 6, 8, 15, 176, 177])
 (.seq (.ops [So 180 (.move (.tmp 1)) 27,
 So 181 (.move (.tmp 1)) 27,
 So 182 (.call ⟨.builtin .len, #[.tmp 181], #[27]⟩) 3,
 So 183 (.binOp .sub 3 (.tmp 182) (.const (.int .i64 1)) 3) 3,
 So 184 (.move (.tmp 15)) 3,
 So 185 (.binOp .sub 3 (.tmp 183) (.tmp 184) 3) 3,
 So 186 (.indexAddr 27 (.tmp 180) (.tmp 185)) 0,
 So 187 (.load 30 (.tmp 186)) 30,
 So 16 (.alloc 30) 0,
 Sn (.store 30 (.tmp 16) (.tmp 187)) 0] [0, 1, 3, 6, 8, 15, 16, 176, 177])
 (.seq (.draw [So 188 (.fieldAddr 30 (.tmp 16) 0) 0,
 So 189 (.load 3 (.tmp 188)) 3,
 So 190 (.binOp .eql 3 (.tmp 189) (.const (.int .i64 4)) 3) 4,
 So 191 (.move (.tmp 190)) 4,
 Sg 192 (.fieldAddr 30 (.tmp 16) 1) 0 191 true,
 Sg 193 (.load 27 (.tmp 192)) 27 191 true,
 Sg 194 (.indexAddr 27 (.tmp 193) (.const (.int .i64 1))) 0 191 true,
 Sg 195 (.load 30 (.tmp 194)) 30 191 true,
 Sg 196 (.load 30 (.tmp 6)) 30 191 true,
 Sg 197 (.call ⟨.value (.func 49), #[.tmp 195, .tmp 196], #[30, 30]⟩) 4 191 true,
 So 198 (.pick (.tmp 191) (.tmp 197) (.const (.bool false))) 4] [false, false, false, false, false, false, false, false, false, false, false] [0, 1, 3, 6, 8, 15, 16, 176, 177, 198])
 (.cond (.tmp 198)
 (.seq (.draw [So 199 (.move (.tmp 15)) 3,
 So 200 (.call ⟨.value (.func 44), #[.tmp 199], #[3]⟩) 42,
 So 201 (.move (.tmp 0)) 25,
 So 202 (.move (.tmp 1)) 27,
 So 203 (.fieldAddr 30 (.tmp 16) 1) 0,
 So 204 (.load 27 (.tmp 203)) 27,
 So 205 (.indexAddr 27 (.tmp 204) (.const (.int .i64 0))) 0,
 So 206 (.load 30 (.tmp 205)) 30,
 So 207 (.move (.tmp 3)) 3,
 So 208 (.binOp .sub 3 (.tmp 207) (.const (.int .i64 1)) 3) 3,
 So 209 (.call ⟨.value (.func 15), #[.tmp 201, .tmp 202, .tmp 206, .tmp 208], #[25, 27, 30, 3]⟩) 42,
 So 210 (.buildSlice 31 2 #[(0, .tmp 200), (1, .tmp 209)]) 31,
 So 211 (.call ⟨.value (.func 45), #[.const (.int .i64 3), .tmp 210], #[3, 31]⟩) 42,
 Sn (.store 42 (.tmp 8) (.tmp 211)) 0] [false, true, false, false, false, true, false, true, false, false, false, false, false, false] [8])
 (.ret))
 (.skip))))))
 (.ops [So 212 (.binOp .add 3 (.tmp 177) (.const (.int .i64 1)) 3) 3,
 So 177 (.move (.tmp 212)) 3] [0, 1, 3, 6, 8, 176, 177])))))))
 (.skip)))))))))))))))
 (.skip)))
 (.seq (.seq (.ops [So 213 (.fieldAddr 30 (.tmp 6) 0) 0,
 So 214 (.load 3 (.tmp 213)) 3] [0, 1, 3, 6, 8, 214])
 (.block 3
 (.seq (.ops [So 216 (.binOp .eql 3 (.tmp 214) (.const (.int .i64 1)) 3) 4,
 So 215 (.assign (.tmp 216)) 4] [0, 1, 3, 6, 8, 214, 215])
 (.cond (.tmp 215)
 (.seq (.seq (.ops [So 217 (.move (.tmp 3)) 3,
 So 218 (.binOp .gtr 3 (.tmp 217) (.const (.int .i64 0)) 3) 4] [0, 1, 3, 6, 8, 218])
 (.cond (.tmp 218)
 (.seq (.ops [So 219 (.move (.tmp 0)) 25,
 So 220 (.call ⟨.value (.func 27), #[.tmp 219, .const (.int .i64 5)], #[25, 3]⟩) 3] [0, 1, 3, 6, 8, 220])
 (.block 4
 (.seq (.ops [So 222 (.binOp .eql 3 (.tmp 220) (.const (.int .i64 0)) 3) 4,
 So 221 (.assign (.tmp 222)) 4] [0, 1, 3, 6, 8, 220, 221])
 (.cond (.tmp 221)
 (.seq (.ops [So 223 (.move (.tmp 0)) 25,
 So 224 (.move (.tmp 1)) 27,
 So 225 (.load 30 (.tmp 6)) 30,
 So 226 (.move (.tmp 3)) 3,
 So 227 (.binOp .sub 3 (.tmp 226) (.const (.int .i64 1)) 3) 3,
 So 228 (.call ⟨.value (.func 15), #[.tmp 223, .tmp 224, .tmp 225, .tmp 227], #[25, 27, 30, 3]⟩) 42,
 So 229 (.buildSlice 31 1 #[(0, .tmp 228)]) 31,
 So 230 (.call ⟨.value (.func 45), #[.const (.int .i64 5), .tmp 229], #[3, 31]⟩) 42,
 Sn (.store 42 (.tmp 8) (.tmp 230)) 0] [8])
 (.ret))
 (.seq (.ops [So 232 (.binOp .eql 3 (.tmp 220) (.const (.int .i64 1)) 3) 4,
 So 231 (.assign (.tmp 232)) 4] [0, 1, 3, 6, 8, 220, 231])
 (.cond (.tmp 231)
 (.seq (.draw [So 233 (.call ⟨.value (.func 51), #[], #[]⟩) 42,
 So 234 (.move (.tmp 0)) 25,
 So 235 (.move (.tmp 1)) 27,
 So 236 (.load 30 (.tmp 6)) 30,
 So 237 (.move (.tmp 3)) 3,
 So 238 (.binOp .sub 3 (.tmp 237) (.const (.int .i64 1)) 3) 3,
 So 239 (.call ⟨.value (.func 15), #[.tmp 234, .tmp 235, .tmp 236, .tmp 238], #[25, 27, 30, 3]⟩) 42,
 So 240 (.move (.tmp 0)) 25,
 So 241 (.move (.tmp 1)) 27,
 So 242 (.load 30 (.tmp 6)) 30,
 So 243 (.move (.tmp 3)) 3,
 So 244 (.binOp .sub 3 (.tmp 243) (.const (.int .i64 1)) 3) 3,
 So 245 (.call ⟨.value (.func 15), #[.tmp 240, .tmp 241, .tmp 242, .tmp 244], #[25, 27, 30, 3]⟩) 42,
 So 246 (.buildSlice 31 2 #[(0, .tmp 239), (1, .tmp 245)]) 31,
 So 247 (.call ⟨.value (.func 50), #[.tmp 233, .tmp 246], #[42, 31]⟩) 42,
 Sn (.store 42 (.tmp 8) (.tmp 247)) 0] [true, false, false, true, false, false, true, false, false, true, false, false, false, false, false, false] [8])
 (.ret))
 (.seq (.ops [So 249 (.binOp .eql 3 (.tmp 220) (.const (.int .i64 2)) 3) 4,
 So 248 (.assign (.tmp 249)) 4] [0, 1, 3, 6, 8, 248])
 (.cond (.tmp 248)
 (.seq (.draw [So 250 (.call ⟨.value (.func 52), #[], #[]⟩) 42,
 So 251 (.move (.tmp 0)) 25,
 So 252 (.move (.tmp 1)) 27,
 So 253 (.load 30 (.tmp 6)) 30,
 So 254 (.move (.tmp 3)) 3,
 So 255 (.binOp .sub 3 (.tmp 254) (.const (.int .i64 1)) 3) 3,
 So 256 (.call ⟨.value (.func 15), #[.tmp 251, .tmp 252, .tmp 253, .tmp 255], #[25, 27, 30, 3]⟩) 42,
 So 257 (.move (.tmp 0)) 25,
 So 258 (.move (.tmp 1)) 27,
 So 259 (.load 30 (.tmp 6)) 30,
 So 260 (.move (.tmp 3)) 3,
 So 261 (.binOp .sub 3 (.tmp 260) (.const (.int .i64 1)) 3) 3,
 So 262 (.call ⟨.value (.func 15), #[.tmp 257, .tmp 258, .tmp 259, .tmp 261], #[25, 27, 30, 3]⟩) 42,
 So 263 (.buildSlice 31 2 #[(0, .tmp 256), (1, .tmp 262)]) 31,
 So 264 (.call ⟨.value (.func 50), #[.tmp 250, .tmp 263], #[42, 31]⟩) 42,
 Sn (.store 42 (.tmp 8) (.tmp 264)) 0] [true, false, false, true, false, false, true, false, false, true, false, false, false, false, false, false] [8])
 (.ret))
 (.skip)))))))))
 (.skip)))
 (.seq (.ops [So 265 (.move (.tmp 0)) 25,
 So 266 (.call ⟨.value (.func 27), #[.tmp 265, .const (.int .i64 3)], #[25, 3]⟩) 3,
 So 267 (.call ⟨.value (.func 47), #[.tmp 266], #[3]⟩) 42,
 Sn (.store 42 (.tmp 8) (.tmp 267)) 0] [8])
 (.ret)))
 (.seq (.ops [So 269 (.binOp .eql 3 (.tmp 214) (.const (.int .i64 2)) 3) 4,
 So 268 (.assign (.tmp 269)) 4] [0, 1, 3, 6, 8, 214, 268])
 (.cond (.tmp 268)
 (.seq (.seq (.ops [So 270 (.move (.tmp 3)) 3,
 So 271 (.binOp .gtr 3 (.tmp 270) (.const (.int .i64 0)) 3) 4,
 So 272 (.move (.tmp 271)) 4,
 Sg 273 (.move (.tmp 0)) 25 272 true,
 Sg 274 (.call ⟨.value (.func 27), #[.tmp 273, .const (.int .i64 2)], #[25, 3]⟩) 3 272 true,
 Sg 275 (.binOp .eql 3 (.tmp 274) (.const (.int .i64 0)) 3) 4 272 true,
 So 276 (.pick (.tmp 272) (.tmp 275) (.const (.bool false))) 4] [0, 1, 3, 6, 8, 276])
 (.cond (.tmp 276)
 (.seq (.draw [So 277 (.move (.tmp 0)) 25,
 So 278 (.move (.tmp 1)) 27,
 So 279 (.call ⟨.value (.func 32), #[], #[]⟩) 30,
 So 280 (.move (.tmp 3)) 3,
 So 281 (.binOp .sub 3 (.tmp 280) (.const (.int .i64 1)) 3) 3,
 So 282 (.call ⟨.value (.func 15), #[.tmp 277, .tmp 278, .tmp 279, .tmp 281], #[25, 27, 30, 3]⟩) 42,
 So 283 (.move (.tmp 0)) 25,
 So 284 (.move (.tmp 1)) 27,
 So 285 (.load 30 (.tmp 6)) 30,
 So 286 (.move (.tmp 3)) 3,
 So 287 (.binOp .sub 3 (.tmp 286) (.const (.int .i64 1)) 3) 3,
 So 288 (.call ⟨.value (.func 15), #[.tmp 283, .tmp 284, .tmp 285, .tmp 287], #[25, 27, 30, 3]⟩) 42,
 So 289 (.buildSlice 31 2 #[(0, .tmp 282), (1, .tmp 288)]) 31,
 So 290 (.call ⟨.value (.func 45), #[.const (.int .i64 8), .tmp 289], #[3, 31]⟩) 42,
 Sn (.store 42 (.tmp 8) (.tmp 290)) 0] [false, false, true, false, false, true, false, false, true, false, false, false, false, false, false] [8])
 (.ret))
 (.skip)))
 (.seq (.ops [So 291 (.call ⟨.value (.func 45), #[.const (.int .i64 7), .const (.slice none 0 0)], #[3, 31]⟩) 42,
 Sn (.store 42 (.tmp 8) (.tmp 291)) 0] [8])
 (.ret)))
 (.seq (.ops [So 293 (.binOp .eql 3 (.tmp 214) (.const (.int .i64 3)) 3) 4,
 So 292 (.assign (.tmp 293)) 4] [0, 1, 3, 6, 8, 214, 292])
 (.cond (.tmp 292)
 (.seq (.draw [So 294 (.move (.tmp 0)) 25,
 So 295 (.move (.tmp 1)) 27,
 So 296 (.fieldAddr 30 (.tmp 6) 1) 0,
 So 297 (.load 27 (.tmp 296)) 27,
 So 298 (.indexAddr 27 (.tmp 297) (.const (.int .i64 0))) 0,
 So 299 (.load 30 (.tmp 298)) 30,
 So 300 (.move (.tmp 3)) 3,
 So 301 (.binOp .sub 3 (.tmp 300) (.const (.int .i64 1)) 3) 3,
 So 302 (.call ⟨.value (.func 15), #[.tmp 294, .tmp 295, .tmp 299, .tmp 301], #[25, 27, 30, 3]⟩) 42,
 So 303 (.move (.tmp 0)) 25,
 So 304 (.move (.tmp 1)) 27,
 So 305 (.fieldAddr 30 (.tmp 6) 1) 0,
 So 306 (.load 27 (.tmp 305)) 27,
 So 307 (.indexAddr 27 (.tmp 306) (.const (.int .i64 1))) 0,
 So 308 (.load 30 (.tmp 307)) 30,
 So 309 (.move (.tmp 3)) 3,
 So 310 (.binOp .sub 3 (.tmp 309) (.const (.int .i64 1)) 3) 3,
 So 311 (.call ⟨.value (.func 15), #[.tmp 303, .tmp 304, .tmp 308, .tmp 310], #[25, 27, 30, 3]⟩) 42,
 So 312 (.buildSlice 31 2 #[(0, .tmp 302), (1, .tmp 311)]) 31,
 So 313 (.call ⟨.value (.func 45), #[.const (.int .i64 10), .tmp 312], #[3, 31]⟩) 42,
 Sn (.store 42 (.tmp 8) (.tmp 313)) 0] [false, false, false, false, false, false, false, false, true, false, false, false, true, false, true, false, false, false, false, false, false] [8])
 (.ret))
 (.seq (.ops [So 315 (.binOp .eql 3 (.tmp 214) (.const (.int .i64 4)) 3) 4,
 So 314 (.assign (.tmp 315)) 4] [0, 1, 3, 6, 8, 314])
 (.cond (.tmp 314)
 (.seq (.draw [So 316 (.fieldAddr 30 (.tmp 6) 1) 0,
 So 317 (.load 27 (.tmp 316)) 27,
 So 318 (.indexAddr 27 (.tmp 317) (.const (.int .i64 0))) 0,
 So 319 (.load 30 (.tmp 318)) 30,
 So 320 (.move (.tmp 0)) 25,
 So 321 (.move (.tmp 1)) 27,
 So 322 (.fieldAddr 30 (.tmp 6) 1) 0,
 So 323 (.load 27 (.tmp 322)) 27,
 So 324 (.indexAddr 27 (.tmp 323) (.const (.int .i64 0))) 0,
 So 325 (.load 30 (.tmp 324)) 30,
 So 326 (.buildSlice 27 1 #[(0, .tmp 325)]) 27,
 So 327 (.call ⟨.value (.func 31), #[.tmp 321, .tmp 326], #[27, 27]⟩) 27,
 So 328 (.fieldAddr 30 (.tmp 6) 1) 0,
 So 329 (.load 27 (.tmp 328)) 27,
 So 330 (.indexAddr 27 (.tmp 329) (.const (.int .i64 1))) 0,
 So 331 (.load 30 (.tmp 330)) 30,
 So 332 (.move (.tmp 3)) 3,
 So 333 (.binOp .sub 3 (.tmp 332) (.const (.int .i64 1)) 3) 3,
 So 334 (.call ⟨.value (.func 15), #[.tmp 320, .tmp 327, .tmp 331, .tmp 333], #[25, 27, 30, 3]⟩) 42,
 So 335 (.buildSlice 31 1 #[(0, .tmp 334)]) 31,
 So 336 (.call ⟨.value (.func 46), #[.const (.int .i64 2), .tmp 319, .tmp 335], #[3, 30, 31]⟩) 42,
 Sn (.store 42 (.tmp 8) (.tmp 336)) 0] [false, true, false, true, false, false, false, false, false, false, false, true, false, true, false, true, false, false, true, false, false, false] [8])
 (.ret))
 (.skip)))))))))))
 (.seq (.ops [So 337 (.call ⟨.value (.func 45), #[.const (.int .i64 13), .const (.slice none 0 0)], #[3, 31]⟩) 42,
 Sn (.store 42 (.tmp 8) (.tmp 337)) 0] [8])
 (.ret))))))
theorem w15 : CW 15 s15 [.cell 8 42] := fun hr h => callsV_of_p follows cfgT a15 (fn := Tryz.f15) (c := Tryz.f15.body.getD .skip) (by kernel_rfl) (by kernel_rfl) (by kernel_rfl) (by kernel_rfl) (by kernel_rfl) (sc := s15) (by kernel_rfl) [.cell 8 42] (by kernel_rfl) hr h
def a63 : List Ann := [⟨[1, 2], [], []⟩,
 ⟨[1, 2, 3], [0, 1, 0, 4, 12, 31, 0, 127], [false, true, false, false, true, false, true, false]⟩,
 ⟨[1, 2, 3, 15, 16, 17], [], []⟩,
 ⟨[1, 2, 3, 15, 16, 17, 18], [], []⟩,
 ⟨[1, 2, 3, 5, 15, 16, 17], [], []⟩,
 ⟨[1, 2, 3, 15, 16, 17], [0, 1, 0, 4, 12, 31, 63, 127], [false, true, false, true, false, false, false, false]⟩,
 ⟨[1, 2, 3, 15, 16, 17], [], []⟩,
 ⟨[2, 3, 30, 31, 32], [], []⟩,
 ⟨[2, 3, 30, 31, 32, 33], [], []⟩,
 ⟨[2, 3, 7, 30, 31, 32], [], []⟩,
 ⟨[2, 3, 30, 31, 32], [0, 1, 0, 4, 12, 31, 63, 127], [false, true, false, true, false, false, false, false]⟩,
 ⟨[2, 3, 30, 31, 32], [], []⟩,
 ⟨[2], [], []⟩]
def s63 : SC := .seq (.ops [So 1 (.box 34 (.tmp 0)) 0,
 So 2 (.alloc 34) 0] [1, 2])
 (.seq (.draw [So 8 (.fieldAddr 34 (.tmp 1) 0) 0,
 So 9 (.load 3 (.tmp 8)) 3,
 So 10 (.fieldAddr 34 (.tmp 1) 1) 0,
 So 11 (.load 30 (.tmp 10)) 30,
 So 12 (.call ⟨.value (.func 79), #[.tmp 11], #[30]⟩) 30,
 So 13 (.build 34 #[(0, .tmp 9), (1, .tmp 12)]) 34,
 So 3 (.alloc 34) 0,
 Sn (.store 34 (.tmp 3) (.tmp 13)) 0] [false, true, false, false, true, false, true, false] [1, 2, 3])
 (.seq (.seq (.ops [So 14 (.fieldAddr 34 (.tmp 1) 2) 0,
 So 15 (.load 31 (.tmp 14)) 31,
 So 16 (.call ⟨.builtin .len, #[.tmp 15], #[31]⟩) 3,
 So 17 (.move (.const (.int .i64 0))) 3] [1, 2, 3, 15, 16, 17])
 (.block 0
 (.loop
 (.seq (.ops [So 18 (.binOp .lss 3 (.tmp 17) (.tmp 16) 3) 0] [1, 2, 3, 15, 16, 17, 18])
 (.seq (.cond (.tmp 18)
 (.skip)
 (.exit 0))
 (.seq (.block 1
 (.seq (.ops [So 19 (.indexAddr 31 (.tmp 15) (.tmp 17)) 0,
 So 20 (.load 42 (.tmp 19)) 42,
 So 5 (.alloc 42) 0,
 Sn (.store 42 (.tmp 5) (.tmp 20)) 0] [1, 2, 3, 5, 15, 16, 17])
 (.draw [So 21 (.fieldAddr 34 (.tmp 3) 2) 0,
 So 22 (.load 31 (.tmp 21)) 31,
 So 23 (.load 42 (.tmp 5)) 42,
 So 24 (.call ⟨.value (.func 66), #[.tmp 23], #[42]⟩) 42,
 So 25 (.buildSlice 31 1 #[(0, .tmp 24)]) 31,
 So 26 (.call ⟨.builtin .append, #[.tmp 22, .tmp 25], #[31, 31]⟩) 31,
 So 27 (.fieldAddr 34 (.tmp 3) 2) 0,
 Sn (.store 31 (.tmp 27) (.tmp 26)) 0] [false, true, false, true, false, false, false, false] [1, 2, 3, 15, 16, 17])))
 (.ops [So 28 (.binOp .add 3 (.tmp 17) (.const (.int .i64 1)) 3) 3,
 So 17 (.move (.tmp 28)) 3] [1, 2, 3, 15, 16, 17])))))))
 (.seq (.seq (.ops [So 29 (.fieldAddr 34 (.tmp 1) 3) 0,
 So 30 (.load 32 (.tmp 29)) 32,
 So 31 (.call ⟨.builtin .len, #[.tmp 30], #[32]⟩) 3,
 So 32 (.move (.const (.int .i64 0))) 3] [2, 3, 30, 31, 32])
 (.block 2
 (.loop
 (.seq (.ops [So 33 (.binOp .lss 3 (.tmp 32) (.tmp 31) 3) 0] [2, 3, 30, 31, 32, 33])
 (.seq (.cond (.tmp 33)
 (.skip)
 (.exit 2))
 (.seq (.block 3
 (.seq (.ops [So 34 (.indexAddr 32 (.tmp 30) (.tmp 32)) 0,
 So 35 (.load 34 (.tmp 34)) 34,
 So 7 (.alloc 34) 0,
 Sn (.store 34 (.tmp 7) (.tmp 35)) 0] [2, 3, 7, 30, 31, 32])
 (.draw [So 36 (.fieldAddr 34 (.tmp 3) 3) 0,
 So 37 (.load 32 (.tmp 36)) 32,
 So 38 (.load 34 (.tmp 7)) 34,
 So 39 (.call ⟨.value (.func 63), #[.tmp 38], #[34]⟩) 34,
 So 40 (.buildSlice 32 1 #[(0, .tmp 39)]) 32,
 So 41 (.call ⟨.builtin .append, #[.tmp 37, .tmp 40], #[32, 32]⟩) 32,
 So 42 (.fieldAddr 34 (.tmp 3) 3) 0,
 Sn (.store 32 (.tmp 42) (.tmp 41)) 0] [false, true, false, true, false, false, false, false] [2, 3, 30, 31, 32])))
 (.ops [So 43 (.binOp .add 3 (.tmp 32) (.const (.int .i64 1)) 3) 3,
 So 32 (.move (.tmp 43)) 3] [2, 3, 30, 31, 32])))))))
 (.seq (.ops [So 44 (.load 34 (.tmp 3)) 34,
 Sn (.store 34 (.tmp 2) (.tmp 44)) 0] [2])
 (.ret)))))
theorem w63 : CW 63 s63 [.cell 2 34] := fun hr h => callsV_of_p follows cfgT a63 (fn := Tryz.f63) (c := Tryz.f63.body.getD .skip) (by kernel_rfl) (by kernel_rfl) (by kernel_rfl) (by kernel_rfl) (by kernel_rfl) (sc := s63) (by kernel_rfl) [.cell 2 34] (by kernel_rfl) hr h
def a29 : List Ann := [⟨[0, 4, 5, 6], [], []⟩,
 ⟨[6], [0, 0, 2, 0, 14, 30, 63, 127], [false, false, true, true, false, false, false, false]⟩]
def s29 : SC := .seq (.ops [So 4 (.box 34 (.tmp 1)) 0,
 So 5 (.box 34 (.tmp 2)) 0,
 So 6 (.alloc 34) 0] [0, 4, 5, 6])
 (.seq (.draw [So 7 (.move (.tmp 0)) 3,
 So 8 (.load 34 (.tmp 4)) 34,
 So 9 (.call ⟨.value (.func 63), #[.tmp 8], #[34]⟩) 34,
 So 10 (.load 34 (.tmp 5)) 34,
 So 11 (.call ⟨.value (.func 63), #[.tmp 10], #[34]⟩) 34,
 So 12 (.buildSlice 32 2 #[(0, .tmp 9), (1, .tmp 11)]) 32,
 So 13 (.build 34 #[(0, .tmp 7), (3, .tmp 12)]) 34,
 Sn (.store 34 (.tmp 6) (.tmp 13)) 0] [false, false, true, true, false, false, false, false] [6])
 (.ret))
theorem w29 : CW 29 s29 [.cell 6 34] := fun hr h => callsV_of_p follows cfgT a29 (fn := Tryz.f29) (c := Tryz.f29.body.getD .skip) (by kernel_rfl) (by kernel_rfl) (by kernel_rfl) (by kernel_rfl) (by kernel_rfl) (sc := s29) (by kernel_rfl) [.cell 6 34] (by kernel_rfl) hr h
def a30 : List Ann := [⟨[0, 4, 5, 6], [], []⟩,
 ⟨[6], [0, 0, 2, 0, 14, 30, 63, 127], [false, false, true, true, false, false, false, false]⟩]
def s30 : SC := .seq (.ops [So 4 (.box 30 (.tmp 1)) 0,
 So 5 (.box 34 (.tmp 2)) 0,
 So 6 (.alloc 34) 0] [0, 4, 5, 6])
 (.seq (.draw [So 7 (.move (.tmp 0)) 3,
 So 8 (.load 30 (.tmp 4)) 30,
 So 9 (.call ⟨.value (.func 79), #[.tmp 8], #[30]⟩) 30,
 So 10 (.load 34 (.tmp 5)) 34,
 So 11 (.call ⟨.value (.func 63), #[.tmp 10], #[34]⟩) 34,
 So 12 (.buildSlice 32 1 #[(0, .tmp 11)]) 32,
 So 13 (.build 34 #[(0, .tmp 7), (1, .tmp 9), (3, .tmp 12)]) 34,
 Sn (.store 34 (.tmp 6) (.tmp 13)) 0] [false, false, true, true, false, false, false, false] [6])
 (.ret))
theorem w30 : CW 30 s30 [.cell 6 34] := fun hr h => callsV_of_p follows cfgT a30 (fn := Tryz.f30) (c := Tryz.f30.body.getD .skip) (by kernel_rfl) (by kernel_rfl) (by kernel_rfl) (by kernel_rfl) (by kernel_rfl) (sc := s30) (by kernel_rfl) [.cell 6 34] (by kernel_rfl) hr h
def a33 : List Ann := [⟨[2, 3, 4], [], []⟩,
 ⟨[4], [0, 1, 0, 7, 15, 31, 63], [false, true, true, false, false, false, false]⟩]
def s33 : SC := .seq (.ops [So 2 (.box 42 (.tmp 0)) 0,
 So 3 (.box 42 (.tmp 1)) 0,
 So 4 (.alloc 34) 0] [2, 3, 4])
 (.seq (.draw [So 5 (.load 42 (.tmp 2)) 42,
 So 6 (.call ⟨.value (.func 66), #[.tmp 5], #[42]⟩) 42,
 So 7 (.load 42 (.tmp 3)) 42,
 So 8 (.call ⟨.value (.func 66), #[.tmp 7], #[42]⟩) 42,
 So 9 (.buildSlice 31 2 #[(0, .tmp 6), (1, .tmp 8)]) 31,
 So 10 (.build 34 #[(0, .const (.int .i64 1)), (2, .tmp 9)]) 34,
 Sn (.store 34 (.tmp 4) (.tmp 10)) 0] [false, true, true, false, false, false, false] [4])
 (.ret))
theorem w33 : CW 33 s33 [.cell 4 34] := fun hr h => callsV_of_p follows cfgT a33 (fn := Tryz.f33) (c := Tryz.f33.body.getD .skip) (by kernel_rfl) (by kernel_rfl) (by kernel_rfl) (by kernel_rfl) (by kernel_rfl) (sc := s33) (by kernel_rfl) [.cell 4 34] (by kernel_rfl) hr h
def a12 : List Ann := [⟨[0, 1, 2, 6], [], []⟩,
 ⟨[0, 1, 2, 6, 12], [], []⟩,
 ⟨[0, 1, 2, 6, 14], [], []⟩,
 ⟨[0, 1, 2, 6, 14, 15], [], []⟩,
 ⟨[6], [], []⟩,
 ⟨[0, 1, 2, 6, 14, 28], [], []⟩,
 ⟨[0, 1, 2, 6, 14, 28], [], []⟩,
 ⟨[6], [], []⟩,
 ⟨[0, 1, 2, 6, 14, 42], [], []⟩,
 ⟨[0, 1, 2, 6, 14, 42], [], []⟩,
 ⟨[0, 1, 2, 6, 7], [], []⟩,
 ⟨[6], [0, 0, 0, 0, 8, 28, 0, 64, 254, 511, 1023], [true, false, false, false, false, true, false, false, true, false, false]⟩,
 ⟨[0, 1, 2, 6, 14, 57], [], []⟩,
 ⟨[0, 1, 2, 6, 8], [], []⟩,
 ⟨[6], [0, 0, 0, 0, 8, 28, 0, 64, 254, 511, 1023], [true, false, false, false, false, true, false, false, true, false, false]⟩,
 ⟨[0, 1, 2, 6, 71], [], []⟩,
 ⟨[0, 1, 2, 6, 9], [], []⟩,
 ⟨[6], [0, 1, 3, 0, 0, 0, 0, 64, 227, 0, 512, 2035, 4095, 8191], [false, true, false, true, false, false, true, false, true, false, false, true, false, false]⟩,
 ⟨[0, 1, 6, 10], [], []⟩,
 ⟨[6], [0, 0, 0, 7, 0, 0, 0, 127, 255, 511], [false, false, false, true, false, false, true, false, false, false]⟩]
def s12 : SC := .seq (.ops [So 6 (.alloc 34) 0] [0, 1, 2, 6])
 (.seq (.seq (.ops [So 11 (.move (.tmp 2)) 3,
 So 12 (.binOp .gtr 3 (.tmp 11) (.const (.int .i64 0)) 3) 4] [0, 1, 2, 6, 12])
 (.cond (.tmp 12)
 (.seq (.ops [So 13 (.move (.tmp 0)) 25,
 So 14 (.call ⟨.value (.func 27), #[.tmp 13, .const (.int .i64 9)], #[25, 3]⟩) 3] [0, 1, 2, 6, 14])
 (.block 0
 (.seq (.ops [So 16 (.binOp .eql 3 (.tmp 14) (.const (.int .i64 0)) 3) 4,
 So 15 (.assign (.tmp 16)) 4] [0, 1, 2, 6, 14, 15])
 (.cond (.tmp 15)
 (.seq (.ops [So 17 (.move (.tmp 0)) 25,
 So 18 (.move (.tmp 1)) 27,
 So 19 (.move (.tmp 2)) 3,
 So 20 (.binOp .sub 3 (.tmp 19) (.const (.int .i64 1)) 3) 3,
 So 21 (.call ⟨.value (.func 12), #[.tmp 17, .tmp 18, .tmp 20], #[25, 27, 3]⟩) 34,
 So 22 (.move (.tmp 0)) 25,
 So 23 (.move (.tmp 1)) 27,
 So 24 (.move (.tmp 2)) 3,
 So 25 (.binOp .sub 3 (.tmp 24) (.const (.int .i64 1)) 3) 3,
 So 26 (.call ⟨.value (.func 12), #[.tmp 22, .tmp 23, .tmp 25], #[25, 27, 3]⟩) 34,
 So 27 (.call ⟨.value (.func 29), #[.const (.int .i64 2), .tmp 21, .tmp 26], #[3, 34, 34]⟩) 34,
 Sn (.store 34 (.tmp 6) (.tmp 27)) 0] [6])
 (.ret))
 (.seq (.seq (.ops [So 29 (.binOp .eql 3 (.tmp 14) (.const (.int .i64 1)) 3) 4,
 So 28 (.assign (.tmp 29)) 4] [0, 1, 2, 6, 14, 28])
 (.cond (.tmp 28)
 (.skip)
 (.ops [So 30 (.binOp .eql 3 (.tmp 14) (.const (.int .i64 2)) 3) 4,
 So 28 (.assign (.tmp 30)) 4] [0, 1, 2, 6, 14, 28])))
 (.cond (.tmp 28)
 (.seq (.ops [So 31 (.move (.tmp 0)) 25,
 So 32 (.move (.tmp 1)) 27,
 So 33 (.move (.tmp 2)) 3,
 So 34 (.binOp .sub 3 (.tmp 33) (.const (.int .i64 1)) 3) 3,
 So 35 (.call ⟨.value (.func 12), #[.tmp 31, .tmp 32, .tmp 34], #[25, 27, 3]⟩) 34,
 So 36 (.move (.tmp 0)) 25,
 So 37 (.move (.tmp 1)) 27,
 So 38 (.move (.tmp 2)) 3,
 So 39 (.binOp .sub 3 (.tmp 38) (.const (.int .i64 1)) 3) 3,
 So 40 (.call ⟨.value (.func 12), #[.tmp 36, .tmp 37, .tmp 39], #[25, 27, 3]⟩) 34,
 So 41 (.call ⟨.value (.func 29), #[.const (.int .i64 3), .tmp 35, .tmp 40], #[3, 34, 34]⟩) 34,
 Sn (.store 34 (.tmp 6) (.tmp 41)) 0] [6])
 (.ret))
 (.seq (.seq (.ops [So 43 (.binOp .eql 3 (.tmp 14) (.const (.int .i64 3)) 3) 4,
 So 42 (.assign (.tmp 43)) 4] [0, 1, 2, 6, 14, 42])
 (.cond (.tmp 42)
 (.skip)
 (.ops [So 44 (.binOp .eql 3 (.tmp 14) (.const (.int .i64 4)) 3) 4,
 So 42 (.assign (.tmp 44)) 4] [0, 1, 2, 6, 14, 42])))
 (.cond (.tmp 42)
 (.seq (.ops [So 45 (.move (.tmp 0)) 25,
 So 46 (.call ⟨.value (.func 28), #[.tmp 45, .const (.int .i64 1)], #[25, 3]⟩) 30,
 So 7 (.alloc 30) 0,
 Sn (.store 30 (.tmp 7) (.tmp 46)) 0] [0, 1, 2, 6, 7])
 (.seq (.draw [So 47 (.load 30 (.tmp 7)) 30,
 So 48 (.move (.tmp 0)) 25,
 So 49 (.move (.tmp 1)) 27,
 So 50 (.load 30 (.tmp 7)) 30,
 So 51 (.buildSlice 27 1 #[(0, .tmp 50)]) 27,
 So 52 (.call ⟨.value (.func 31), #[.tmp 49, .tmp 51], #[27, 27]⟩) 27,
 So 53 (.move (.tmp 2)) 3,
 So 54 (.binOp .sub 3 (.tmp 53) (.const (.int .i64 1)) 3) 3,
 So 55 (.call ⟨.value (.func 12), #[.tmp 48, .tmp 52, .tmp 54], #[25, 27, 3]⟩) 34,
 So 56 (.call ⟨.value (.func 30), #[.const (.int .i64 4), .tmp 47, .tmp 55], #[3, 30, 34]⟩) 34,
 Sn (.store 34 (.tmp 6) (.tmp 56)) 0] [true, false, false, false, false, true, false, false, true, false, false] [6])
 (.ret)))
 (.seq (.ops [So 58 (.binOp .eql 3 (.tmp 14) (.const (.int .i64 5)) 3) 4,
 So 57 (.assign (.tmp 58)) 4] [0, 1, 2, 6, 14, 57])
 (.cond (.tmp 57)
 (.seq (.ops [So 59 (.move (.tmp 0)) 25,
 So 60 (.call ⟨.value (.func 28), #[.tmp 59, .const (.int .i64 1)], #[25, 3]⟩) 30,
 So 8 (.alloc 30) 0,
 Sn (.store 30 (.tmp 8) (.tmp 60)) 0] [0, 1, 2, 6, 8])
 (.seq (.draw [So 61 (.load 30 (.tmp 8)) 30,
 So 62 (.move (.tmp 0)) 25,
 So 63 (.move (.tmp 1)) 27,
 So 64 (.load 30 (.tmp 8)) 30,
 So 65 (.buildSlice 27 1 #[(0, .tmp 64)]) 27,
 So 66 (.call ⟨.value (.func 31), #[.tmp 63, .tmp 65], #[27, 27]⟩) 27,
 So 67 (.move (.tmp 2)) 3,
 So 68 (.binOp .sub 3 (.tmp 67) (.const (.int .i64 1)) 3) 3,
 So 69 (.call ⟨.value (.func 12), #[.tmp 62, .tmp 66, .tmp 68], #[25, 27, 3]⟩) 34,
 So 70 (.call ⟨.value (.func 30), #[.const (.int .i64 5), .tmp 61, .tmp 69], #[3, 30, 34]⟩) 34,
 Sn (.store 34 (.tmp 6) (.tmp 70)) 0] [true, false, false, false, false, true, false, false, true, false, false] [6])
 (.ret)))
 (.seq (.ops [So 72 (.binOp .eql 3 (.tmp 14) (.const (.int .i64 6)) 3) 4,
 So 71 (.assign (.tmp 72)) 4] [0, 1, 2, 6, 71])
 (.cond (.tmp 71)
 (.seq (.ops [So 73 (.move (.tmp 0)) 25,
 So 74 (.call ⟨.value (.func 28), #[.tmp 73, .const (.int .i64 0)], #[25, 3]⟩) 30,
 So 9 (.alloc 30) 0,
 Sn (.store 30 (.tmp 9) (.tmp 74)) 0] [0, 1, 2, 6, 9])
 (.seq (.draw [So 75 (.move (.tmp 0)) 25,
 So 76 (.call ⟨.value (.func 27), #[.tmp 75, .const (.int .i64 2)], #[25, 3]⟩) 3,
 So 77 (.binOp .add 3 (.const (.int .i64 6)) (.tmp 76) 3) 3,
 So 78 (.load 30 (.tmp 9)) 30,
 So 79 (.move (.tmp 0)) 25,
 So 80 (.move (.tmp 1)) 27,
 So 81 (.load 30 (.tmp 9)) 30,
 So 82 (.buildSlice 27 1 #[(0, .tmp 81)]) 27,
 So 83 (.call ⟨.value (.func 31), #[.tmp 80, .tmp 82], #[27, 27]⟩) 27,
 So 84 (.move (.tmp 2)) 3,
 So 85 (.binOp .sub 3 (.tmp 84) (.const (.int .i64 1)) 3) 3,
 So 86 (.call ⟨.value (.func 12), #[.tmp 79, .tmp 83, .tmp 85], #[25, 27, 3]⟩) 34,
 So 87 (.call ⟨.value (.func 30), #[.tmp 77, .tmp 78, .tmp 86], #[3, 30, 34]⟩) 34,
 Sn (.store 34 (.tmp 6) (.tmp 87)) 0] [false, true, false, true, false, false, true, false, true, false, false, true, false, false] [6])
 (.ret)))
 (.skip)))))))))))))
 (.skip)))
 (.seq (.ops [So 88 (.call ⟨.value (.func 32), #[], #[]⟩) 30,
 So 10 (.alloc 30) 0,
 Sn (.store 30 (.tmp 10) (.tmp 88)) 0] [0, 1, 6, 10])
 (.seq (.draw [So 89 (.move (.tmp 0)) 25,
 So 90 (.move (.tmp 1)) 27,
 So 91 (.load 30 (.tmp 10)) 30,
 So 92 (.call ⟨.value (.func 15), #[.tmp 89, .tmp 90, .tmp 91, .const (.int .i64 1)], #[25, 27, 30, 3]⟩) 42,
 So 93 (.move (.tmp 0)) 25,
 So 94 (.move (.tmp 1)) 27,
 So 95 (.load 30 (.tmp 10)) 30,
 So 96 (.call ⟨.value (.func 15), #[.tmp 93, .tmp 94, .tmp 95, .const (.int .i64 1)], #[25, 27, 30, 3]⟩) 42,
 So 97 (.call ⟨.value (.func 33), #[.tmp 92, .tmp 96], #[42, 42]⟩) 34,
 Sn (.store 34 (.tmp 6) (.tmp 97)) 0] [false, false, false, true, false, false, true, false, false, false] [6])
 (.ret))))
theorem w12 : CW 12 s12 [.cell 6 34] := fun hr h => callsV_of_p follows cfgT a12 (fn := Tryz.f12) (c := Tryz.f12.body.getD .skip) (by kernel_rfl) (by kernel_rfl) (by kernel_rfl) (by kernel_rfl) (by kernel_rfl) (sc := s12) (by kernel_rfl) [.cell 6 34] (by kernel_rfl) hr h
def a11 : List Ann := [⟨[0], [], []⟩,
 ⟨[0, 3], [], []⟩,
 ⟨[0, 3, 4], [], []⟩,
 ⟨[0, 3, 4, 8], [], []⟩,
 ⟨[0, 3, 4], [], []⟩,
 ⟨[0, 3, 4], [], []⟩,
 ⟨[2], [], []⟩]
def s11 : SC := .seq (.ops [So 2 (.assign (.const (.slice none 0 0))) 27] [0])
 (.seq (.ops [So 3 (.assign (.const (.slice none 0 0))) 27] [0, 3])
 (.seq (.seq (.ops [So 5 (.move (.tmp 0)) 25,
 So 6 (.call ⟨.value (.func 27), #[.tmp 5, .const (.int .i64 4)], #[25, 3]⟩) 3,
 So 4 (.assign (.tmp 6)) 3] [0, 3, 4])
 (.block 0
 (.loop
 (.seq (.seq (.ops [So 7 (.move (.tmp 4)) 3,
 So 8 (.binOp .gtr 3 (.tmp 7) (.const (.int .i64 0)) 3) 4] [0, 3, 4, 8])
 (.cond (.tmp 8)
 (.skip)
 (.exit 0)))
 (.seq (.block 1
 (.ops [So 11 (.move (.tmp 3)) 27,
 So 12 (.move (.tmp 0)) 25,
 So 13 (.call ⟨.value (.func 28), #[.tmp 12, .const (.int .i64 1)], #[25, 3]⟩) 30,
 So 14 (.buildSlice 27 1 #[(0, .tmp 13)]) 27,
 So 15 (.call ⟨.builtin .append, #[.tmp 11, .tmp 14], #[27, 27]⟩) 27,
 So 3 (.assign (.tmp 15)) 27] [0, 3, 4]))
 (.ops [So 9 (.move (.tmp 4)) 3,
 So 10 (.binOp .sub 3 (.tmp 9) (.const (.int .i64 1)) 3) 3,
 So 4 (.assign (.tmp 10)) 3] [0, 3, 4]))))))
 (.seq (.ops [So 16 (.move (.tmp 3)) 27,
 So 2 (.assign (.tmp 16)) 27] [2])
 (.ret))))
theorem w11 : CW 11 s11 [.tmp 2] := fun hr h => callsV_of_p follows cfgT a11 (fn := Tryz.f11) (c := Tryz.f11.body.getD .skip) (by kernel_rfl) (by kernel_rfl) (by kernel_rfl) (by kernel_rfl) (by kernel_rfl) (sc := s11) (by kernel_rfl) [.tmp 2] (by kernel_rfl) hr h
def a22 : List Ann := [⟨[0, 2], [], []⟩,
 ⟨[0, 2, 3], [], []⟩,
 ⟨[0, 2, 3, 4], [], []⟩,
 ⟨[0, 2, 3, 4, 11], [], []⟩,
 ⟨[0, 2, 3, 4], [], []⟩,
 ⟨[0, 2, 3, 4], [0, 1, 0, 0, 8, 28, 60, 127, 255, 511], [false, true, false, false, false, true, false, false, false, false]⟩,
 ⟨[2], [], []⟩]
def s22 : SC := .seq (.ops [So 2 (.alloc 53) 0] [0, 2])
 (.seq (.ops [So 5 (.move (.tmp 0)) 25,
 So 6 (.call ⟨.value (.func 11), #[.tmp 5], #[25]⟩) 27,
 So 7 (.build 53 #[(0, .tmp 6)]) 53,
 So 3 (.alloc 53) 0,
 Sn (.store 53 (.tmp 3) (.tmp 7)) 0] [0, 2, 3])
 (.seq (.seq (.ops [So 8 (.move (.tmp 0)) 25,
 So 9 (.call ⟨.value (.func 27), #[.tmp 8, .const (.int .i64 3)], #[25, 3]⟩) 3,
 So 4 (.assign (.tmp 9)) 3] [0, 2, 3, 4])
 (.block 0
 (.loop
 (.seq (.seq (.ops [So 10 (.move (.tmp 4)) 3,
 So 11 (.binOp .gtr 3 (.tmp 10) (.const (.int .i64 0)) 3) 4] [0, 2, 3, 4, 11])
 (.cond (.tmp 11)
 (.skip)
 (.exit 0)))
 (.seq (.block 1
 (.draw [So 14 (.fieldAddr 53 (.tmp 3) 1) 0,
 So 15 (.load 32 (.tmp 14)) 32,
 So 16 (.move (.tmp 0)) 25,
 So 17 (.fieldAddr 53 (.tmp 3) 0) 0,
 So 18 (.load 27 (.tmp 17)) 27,
 So 19 (.call ⟨.value (.func 12), #[.tmp 16, .tmp 18, .const (.int .i64 2)], #[25, 27, 3]⟩) 34,
 So 20 (.buildSlice 32 1 #[(0, .tmp 19)]) 32,
 So 21 (.call ⟨.builtin .append, #[.tmp 15, .tmp 20], #[32, 32]⟩) 32,
 So 22 (.fieldAddr 53 (.tmp 3) 1) 0,
 Sn (.store 32 (.tmp 22) (.tmp 21)) 0] [false, true, false, false, false, true, false, false, false, false] [0, 2, 3, 4]))
 (.ops [So 12 (.move (.tmp 4)) 3,
 So 13 (.binOp .sub 3 (.tmp 12) (.const (.int .i64 1)) 3) 3,
 So 4 (.assign (.tmp 13)) 3] [0, 2, 3, 4]))))))
 (.seq (.ops [So 23 (.load 53 (.tmp 3)) 53,
 Sn (.store 53 (.tmp 2) (.tmp 23)) 0] [2])
 (.ret))))
theorem w22 : CW 22 s22 [.cell 2 53] := fun hr h => callsV_of_p follows cfgT a22 (fn := Tryz.f22) (c := Tryz.f22.body.getD .skip) (by kernel_rfl) (by kernel_rfl) (by kernel_rfl) (by kernel_rfl) (by kernel_rfl) (sc := s22) (by kernel_rfl) [.cell 2 53] (by kernel_rfl) hr h
end
end Go.Proofs.YtnpgbkldpdogjaaGreatDoor.V

set_option maxRecDepth 100000
namespace Go.Proofs.YtnpgbkldpdogjaaGreatDoor.V
open Go Go.Proofs
noncomputable section
def a142 : List Ann := [⟨[0], [], []⟩,
 ⟨[0, 9], [], []⟩,
 ⟨[2, 3], [], []⟩,
 ⟨[2, 3], [], []⟩]
def s142 : SC := .seq (.ops [So 2 (.assign (.const (.int .i64 0))) 3,
 So 3 (.assign (.const (.bool false))) 4] [0])
 (.seq (.seq (.ops [So 4 (.move (.tmp 0)) 3,
 So 5 (.binOp .lss 3 (.tmp 4) (.const (.int .i64 1)) 3) 4,
 So 6 (.move (.tmp 5)) 4,
 Sg 7 (.move (.tmp 0)) 3 6 false,
 Sg 8 (.binOp .geq 3 (.tmp 7) (.const (.int .i64 14)) 3) 4 6 false,
 So 9 (.pick (.tmp 6) (.const (.bool true)) (.tmp 8)) 4] [0, 9])
 (.cond (.tmp 9)
 (.seq (.ops [So 2 (.assign (.const (.int .i64 0))) 3,
 So 3 (.assign (.const (.bool false))) 4] [2, 3])
 (.ret))
 (.skip)))
 (.seq (.ops [So 10 (.move (.tmp 0)) 3,
 So 11 (.indexAddr 143 (.global 0) (.tmp 10)) 0,
 So 12 (.load 3 (.tmp 11)) 3,
 So 2 (.assign (.tmp 12)) 3,
 So 3 (.assign (.const (.bool true))) 4] [2, 3])
 (.ret)))
theorem w142 : CW 142 s142 [.tmp 2, .tmp 3] := fun hr h => callsV_of_p follows cfgT a142 (fn := Tryz.f142) (c := Tryz.f142.body.getD .skip) (by kernel_rfl) (by kernel_rfl) (by kernel_rfl) (by kernel_rfl) (by kernel_rfl) (sc := s142) (by kernel_rfl) [.tmp 2, .tmp 3] (by kernel_rfl) hr h
def a143 : List Ann := [⟨[0], [], []⟩,
 ⟨[2], [], []⟩]
def s143 : SC := .seq (.ops [So 2 (.assign (.const (.bool false))) 4] [0])
 (.seq (.ops [So 3 (.move (.tmp 0)) 3,
 So 4 (.binOp .eql 3 (.tmp 3) (.const (.int .i64 2)) 3) 4,
 So 5 (.move (.tmp 4)) 4,
 Sg 6 (.move (.tmp 0)) 3 5 false,
 Sg 7 (.binOp .eql 3 (.tmp 6) (.const (.int .i64 6)) 3) 4 5 false,
 So 8 (.pick (.tmp 5) (.const (.bool true)) (.tmp 7)) 4,
 So 9 (.move (.tmp 8)) 4,
 Sg 10 (.move (.tmp 0)) 3 9 false,
 Sg 11 (.binOp .eql 3 (.tmp 10) (.const (.int .i64 9)) 3) 4 9 false,
 So 12 (.pick (.tmp 9) (.const (.bool true)) (.tmp 11)) 4,
 So 2 (.assign (.tmp 12)) 4] [2])
 (.ret))
theorem w143 : CW 143 s143 [.tmp 2] := fun hr h => callsV_of_p follows cfgT a143 (fn := Tryz.f143) (c := Tryz.f143.body.getD .skip) (by kernel_rfl) (by kernel_rfl) (by kernel_rfl) (by kernel_rfl) (by kernel_rfl) (sc := s143) (by kernel_rfl) [.tmp 2] (by kernel_rfl) hr h
def a162 : List Ann := [⟨[1], [], []⟩,
 ⟨[1, 4], [], []⟩,
 ⟨[1, 4, 11], [], []⟩,
 ⟨[2, 3], [], []⟩,
 ⟨[1, 4, 11, 12], [], []⟩,
 ⟨[1, 4, 11, 12], [], []⟩,
 ⟨[1, 4, 11, 12], [], []⟩,
 ⟨[1, 11, 16], [], []⟩,
 ⟨[1, 16], [], []⟩,
 ⟨[1, 4], [], []⟩,
 ⟨[1, 23], [], []⟩,
 ⟨[2, 3], [], []⟩,
 ⟨[1, 5], [], []⟩,
 ⟨[5, 25, 26, 27], [], []⟩,
 ⟨[5, 25, 26, 27, 28], [], []⟩,
 ⟨[5, 7, 25, 26, 27], [], []⟩,
 ⟨[5, 8, 9, 25, 26, 27], [], []⟩,
 ⟨[5, 8, 25, 26, 27, 37], [], []⟩,
 ⟨[2, 3], [], []⟩,
 ⟨[5, 25, 26, 27], [], []⟩,
 ⟨[5, 25, 26, 27], [], []⟩,
 ⟨[2, 3], [], []⟩]
def s162 : SC := .seq (.ops [So 1 (.box 30 (.tmp 0)) 0,
 So 2 (.assign (.const (.int .i64 0))) 3,
 So 3 (.assign (.const (.bool false))) 4] [1])
 (.seq (.ops [So 4 (.assign (.const (.int .i64 0))) 3] [1, 4])
 (.seq (.seq (.ops [So 10 (.fieldAddr 30 (.tmp 1) 0) 0,
 So 11 (.load 3 (.tmp 10)) 3] [1, 4, 11])
 (.block 0
 (.seq (.seq (.ops [So 13 (.binOp .eql 3 (.tmp 11) (.const (.int .i64 1)) 3) 4,
 So 12 (.assign (.tmp 13)) 4] [1, 4, 11, 12])
 (.cond (.tmp 12)
 (.skip)
 (.seq (.ops [So 14 (.binOp .eql 3 (.tmp 11) (.const (.int .i64 2)) 3) 4,
 So 12 (.assign (.tmp 14)) 4] [1, 4, 11, 12])
 (.cond (.tmp 12)
 (.skip)
 (.ops [So 15 (.binOp .eql 3 (.tmp 11) (.const (.int .i64 5)) 3) 4,
 So 12 (.assign (.tmp 15)) 4] [1, 4, 11, 12])))))
 (.cond (.tmp 12)
 (.skip)
 (.seq (.seq (.ops [So 17 (.binOp .eql 3 (.tmp 11) (.const (.int .i64 3)) 3) 4,
 So 16 (.assign (.tmp 17)) 4] [1, 11, 16])
 (.cond (.tmp 16)
 (.skip)
 (.ops [So 18 (.binOp .eql 3 (.tmp 11) (.const (.int .i64 4)) 3) 4,
 So 16 (.assign (.tmp 18)) 4] [1, 16])))
 (.cond (.tmp 16)
 (.ops [So 4 (.assign (.const (.int .i64 2))) 3] [1, 4])
 (.seq (.ops [So 2 (.assign (.const (.int .i64 0))) 3,
 So 3 (.assign (.const (.bool false))) 4] [2, 3])
 (.ret))))))))
 (.seq (.seq (.ops [So 19 (.fieldAddr 30 (.tmp 1) 1) 0,
 So 20 (.load 27 (.tmp 19)) 27,
 So 21 (.call ⟨.builtin .len, #[.tmp 20], #[27]⟩) 3,
 So 22 (.move (.tmp 4)) 3,
 So 23 (.binOp .neq 3 (.tmp 21) (.tmp 22) 3) 4] [1, 23])
 (.cond (.tmp 23)
 (.seq (.ops [So 2 (.assign (.const (.int .i64 0))) 3,
 So 3 (.assign (.const (.bool false))) 4] [2, 3])
 (.ret))
 (.skip)))
 (.seq (.ops [So 5 (.assign (.const (.int .i64 1))) 3] [1, 5])
 (.seq (.seq (.ops [So 24 (.fieldAddr 30 (.tmp 1) 1) 0,
 So 25 (.load 27 (.tmp 24)) 27,
 So 26 (.call ⟨.builtin .len, #[.tmp 25], #[27]⟩) 3,
 So 27 (.move (.const (.int .i64 0))) 3] [5, 25, 26, 27])
 (.block 1
 (.loop
 (.seq (.ops [So 28 (.binOp .lss 3 (.tmp 27) (.tmp 26) 3) 0] [5, 25, 26, 27, 28])
 (.seq (.cond (.tmp 28)
 (.skip)
 (.exit 1))
 (.seq (.block 2
 (.seq (.ops [So 29 (.indexAddr 27 (.tmp 25) (.tmp 27)) 0,
 So 30 (.load 30 (.tmp 29)) 30,
 So 7 (.alloc 30) 0,
 Sn (.store 30 (.tmp 7) (.tmp 30)) 0] [5, 7, 25, 26, 27])
 (.seq (.ops [So 32 (.load 30 (.tmp 7)) 30,
 So 33 (.call ⟨.value (.func 162), #[.tmp 32], #[30]⟩) 122,
 So 31 (.move (.tmp 33)) 122,
 So 34 (.extract (.tmp 31) 0) 3,
 So 35 (.extract (.tmp 31) 1) 4,
 So 8 (.assign (.tmp 34)) 3,
 So 9 (.assign (.tmp 35)) 4] [5, 8, 9, 25, 26, 27])
 (.seq (.seq (.ops [So 36 (.move (.tmp 9)) 4,
 So 37 (.unOp .not 4 (.tmp 36)) 4] [5, 8, 25, 26, 27, 37])
 (.cond (.tmp 37)
 (.seq (.ops [So 2 (.assign (.const (.int .i64 0))) 3,
 So 3 (.assign (.const (.bool false))) 4] [2, 3])
 (.ret))
 (.skip)))
 (.ops [So 38 (.move (.tmp 5)) 3,
 So 39 (.move (.tmp 8)) 3,
 So 40 (.binOp .add 3 (.tmp 38) (.tmp 39) 3) 3,
 So 5 (.assign (.tmp 40)) 3] [5, 25, 26, 27])))))
 (.ops [So 41 (.binOp .add 3 (.tmp 27) (.const (.int .i64 1)) 3) 3,
 So 27 (.move (.tmp 41)) 3] [5, 25, 26, 27])))))))
 (.seq (.ops [So 42 (.move (.tmp 5)) 3,
 So 2 (.assign (.tmp 42)) 3,
 So 3 (.assign (.const (.bool true))) 4] [2, 3])
 (.ret)))))))
theorem w162 : CW 162 s162 [.tmp 2, .tmp 3] := fun hr h => callsV_of_p follows cfgT a162 (fn := Tryz.f162) (c := Tryz.f162.body.getD .skip) (by kernel_rfl) (by kernel_rfl) (by kernel_rfl) (by kernel_rfl) (by kernel_rfl) (sc := s162) (by kernel_rfl) [.tmp 2, .tmp 3] (by kernel_rfl) hr h
def a144 : List Ann := [⟨[1], [], []⟩,
 ⟨[4, 5], [], []⟩,
 ⟨[4, 11], [], []⟩,
 ⟨[2, 3], [], []⟩,
 ⟨[4, 14], [], []⟩,
 ⟨[2, 3], [], []⟩,
 ⟨[2, 3], [], []⟩]
def s144 : SC := .seq (.ops [So 1 (.box 30 (.tmp 0)) 0,
 So 2 (.assign (.const (.int .i64 0))) 3,
 So 3 (.assign (.const (.int .i64 0))) 36] [1])
 (.seq (.ops [So 7 (.load 30 (.tmp 1)) 30,
 So 8 (.call ⟨.value (.func 162), #[.tmp 7], #[30]⟩) 122,
 So 6 (.move (.tmp 8)) 122,
 So 9 (.extract (.tmp 6) 0) 3,
 So 10 (.extract (.tmp 6) 1) 4,
 So 4 (.assign (.tmp 9)) 3,
 So 5 (.assign (.tmp 10)) 4] [4, 5])
 (.seq (.block 0
 (.seq (.ops [So 12 (.move (.tmp 5)) 4,
 So 13 (.unOp .not 4 (.tmp 12)) 4,
 So 11 (.assign (.tmp 13)) 4] [4, 11])
 (.cond (.tmp 11)
 (.seq (.ops [So 2 (.assign (.const (.int .i64 0))) 3,
 So 3 (.assign (.const (.int .i64 2))) 36] [2, 3])
 (.ret))
 (.seq (.ops [So 15 (.move (.tmp 4)) 3,
 So 16 (.binOp .gtr 3 (.tmp 15) (.const (.int .i64 64)) 3) 4,
 So 14 (.assign (.tmp 16)) 4] [4, 14])
 (.cond (.tmp 14)
 (.seq (.ops [So 2 (.assign (.const (.int .i64 0))) 3,
 So 3 (.assign (.const (.int .i64 4))) 36] [2, 3])
 (.ret))
 (.skip))))))
 (.seq (.ops [So 17 (.move (.tmp 4)) 3,
 So 2 (.assign (.tmp 17)) 3,
 So 3 (.assign (.const (.int .i64 0))) 36] [2, 3])
 (.ret))))
theorem w144 : CW 144 s144 [.tmp 2, .tmp 3] := fun hr h => callsV_of_p follows cfgT a144 (fn := Tryz.f144) (c := Tryz.f144.body.getD .skip) (by kernel_rfl) (by kernel_rfl) (by kernel_rfl) (by kernel_rfl) (by kernel_rfl) (sc := s144) (by kernel_rfl) [.tmp 2, .tmp 3] (by kernel_rfl) hr h
def a145 : List Ann := [⟨[1], [], []⟩,
 ⟨[2], [], []⟩]
def s145 : SC := .seq (.ops [So 1 (.box 30 (.tmp 0)) 0,
 So 2 (.assign (.const (.bool false))) 4] [1])
 (.seq (.ops [So 3 (.fieldAddr 30 (.tmp 1) 0) 0,
 So 4 (.load 3 (.tmp 3)) 3,
 So 5 (.binOp .eql 3 (.tmp 4) (.const (.int .i64 0)) 3) 4,
 So 6 (.move (.tmp 5)) 4,
 Sg 7 (.fieldAddr 30 (.tmp 1) 1) 0 6 true,
 Sg 8 (.load 27 (.tmp 7)) 27 6 true,
 Sg 9 (.call ⟨.builtin .len, #[.tmp 8], #[27]⟩) 3 6 true,
 Sg 10 (.binOp .eql 3 (.tmp 9) (.const (.int .i64 0)) 3) 4 6 true,
 So 11 (.pick (.tmp 6) (.tmp 10) (.const (.bool false))) 4,
 So 2 (.assign (.tmp 11)) 4] [2])
 (.ret))
theorem w145 : CW 145 s145 [.tmp 2] := fun hr h => callsV_of_p follows cfgT a145 (fn := Tryz.f145) (c := Tryz.f145.body.getD .skip) (by kernel_rfl) (by kernel_rfl) (by kernel_rfl) (by kernel_rfl) (by kernel_rfl) (sc := s145) (by kernel_rfl) [.tmp 2] (by kernel_rfl) hr h
def a121 : List Ann := [⟨[1], [], []⟩,
 ⟨[1, 4, 5], [], []⟩,
 ⟨[1, 42], [], []⟩,
 ⟨[2, 3], [], []⟩,
 ⟨[1, 45], [], []⟩,
 ⟨[1, 7], [], []⟩,
 ⟨[1, 53], [], []⟩,
 ⟨[2, 3], [], []⟩,
 ⟨[1, 57], [], []⟩,
 ⟨[2, 3], [], []⟩,
 ⟨[1, 8], [], []⟩,
 ⟨[8, 59, 60, 61], [], []⟩,
 ⟨[8, 59, 60, 61, 62], [], []⟩,
 ⟨[8, 10, 59, 60, 61], [], []⟩,
 ⟨[8, 11, 12, 59, 60, 61], [], []⟩,
 ⟨[8, 11, 59, 60, 61, 71], [], []⟩,
 ⟨[2, 3], [], []⟩,
 ⟨[8, 59, 60, 61], [], []⟩,
 ⟨[8, 59, 60, 61], [], []⟩,
 ⟨[2, 3], [], []⟩]
def s121 : SC := .seq (.ops [So 1 (.box 42 (.tmp 0)) 0,
 So 2 (.assign (.const (.int .i64 0))) 3,
 So 3 (.assign (.const (.bool false))) 4] [1])
 (.seq (.ops [So 14 (.fieldAddr 42 (.tmp 1) 0) 0,
 So 15 (.load 3 (.tmp 14)) 3,
 So 16 (.call ⟨.value (.func 142), #[.tmp 15], #[3]⟩) 122,
 So 13 (.move (.tmp 16)) 122,
 So 17 (.extract (.tmp 13) 0) 3,
 So 18 (.extract (.tmp 13) 1) 4,
 So 4 (.assign (.tmp 17)) 3,
 So 5 (.assign (.tmp 18)) 4] [1, 4, 5])
 (.seq (.seq (.ops [So 19 (.move (.tmp 5)) 4,
 So 20 (.unOp .not 4 (.tmp 19)) 4,
 So 21 (.move (.tmp 20)) 4,
 Sg 22 (.fieldAddr 42 (.tmp 1) 3) 0 21 false,
 Sg 23 (.load 31 (.tmp 22)) 31 21 false,
 Sg 24 (.call ⟨.builtin .len, #[.tmp 23], #[31]⟩) 3 21 false,
 Sg 25 (.move (.tmp 4)) 3 21 false,
 Sg 26 (.binOp .neq 3 (.tmp 24) (.tmp 25) 3) 4 21 false,
 So 27 (.pick (.tmp 21) (.const (.bool true)) (.tmp 26)) 4,
 So 28 (.move (.tmp 27)) 4,
 Sg 29 (.fieldAddr 42 (.tmp 1) 1) 0 28 false,
 Sg 30 (.load 3 (.tmp 29)) 3 28 false,
 Sg 31 (.binOp .lss 3 (.tmp 30) (.const (.int .i64 0)) 3) 4 28 false,
 So 32 (.pick (.tmp 28) (.const (.bool true)) (.tmp 31)) 4,
 So 33 (.move (.tmp 32)) 4,
 Sg 34 (.fieldAddr 42 (.tmp 1) 1) 0 33 false,
 Sg 35 (.load 3 (.tmp 34)) 3 33 false,
 Sg 36 (.binOp .neq 3 (.tmp 35) (.const (.int .i64 0)) 3) 4 33 false,
 Sg 37 (.move (.tmp 36)) 4 33 false,
 Sg 38 (.fieldAddr 42 (.tmp 1) 0) 0 37 true,
 Sg 39 (.load 3 (.tmp 38)) 3 37 true,
 Sg 40 (.binOp .neq 3 (.tmp 39) (.const (.int .i64 1)) 3) 4 37 true,
 Sg 41 (.pick (.tmp 37) (.tmp 40) (.const (.bool false))) 4 33 false,
 So 42 (.pick (.tmp 33) (.const (.bool true)) (.tmp 41)) 4] [1, 42])
 (.cond (.tmp 42)
 (.seq (.ops [So 2 (.assign (.const (.int .i64 0))) 3,
 So 3 (.assign (.const (.bool false))) 4] [2, 3])
 (.ret))
 (.skip)))
 (.seq (.seq (.ops [So 43 (.fieldAddr 42 (.tmp 1) 0) 0,
 So 44 (.load 3 (.tmp 43)) 3,
 So 45 (.call ⟨.value (.func 143), #[.tmp 44], #[3]⟩) 4] [1, 45])
 (.cond (.tmp 45)
 (.seq (.ops [So 47 (.fieldAddr 42 (.tmp 1) 2) 0,
 So 48 (.load 30 (.tmp 47)) 30,
 So 49 (.call ⟨.value (.func 144), #[.tmp 48], #[30]⟩) 102,
 So 46 (.move (.tmp 49)) 102,
 So 50 (.extract (.tmp 46) 0) 3,
 So 51 (.extract (.tmp 46) 1) 36,
 So 6 (.assign (.tmp 50)) 3,
 So 7 (.assign (.tmp 51)) 36] [1, 7])
 (.seq (.ops [So 52 (.move (.tmp 7)) 36,
 So 53 (.binOp .neq 36 (.tmp 52) (.const (.int .i64 0)) 36) 4] [1, 53])
 (.cond (.tmp 53)
 (.seq (.ops [So 2 (.assign (.const (.int .i64 0))) 3,
 So 3 (.assign (.const (.bool false))) 4] [2, 3])
 (.ret))
 (.skip))))
 (.seq (.ops [So 54 (.fieldAddr 42 (.tmp 1) 2) 0,
 So 55 (.load 30 (.tmp 54)) 30,
 So 56 (.call ⟨.value (.func 145), #[.tmp 55], #[30]⟩) 4,
 So 57 (.unOp .not 4 (.tmp 56)) 4] [1, 57])
 (.cond (.tmp 57)
 (.seq (.ops [So 2 (.assign (.const (.int .i64 0))) 3,
 So 3 (.assign (.const (.bool false))) 4] [2, 3])
 (.ret))
 (.skip)))))
 (.seq (.ops [So 8 (.assign (.const (.int .i64 1))) 3] [1, 8])
 (.seq (.seq (.ops [So 58 (.fieldAddr 42 (.tmp 1) 3) 0,
 So 59 (.load 31 (.tmp 58)) 31,
 So 60 (.call ⟨.builtin .len, #[.tmp 59], #[31]⟩) 3,
 So 61 (.move (.const (.int .i64 0))) 3] [8, 59, 60, 61])
 (.block 0
 (.loop
 (.seq (.ops [So 62 (.binOp .lss 3 (.tmp 61) (.tmp 60) 3) 0] [8, 59, 60, 61, 62])
 (.seq (.cond (.tmp 62)
 (.skip)
 (.exit 0))
 (.seq (.block 1
 (.seq (.ops [So 63 (.indexAddr 31 (.tmp 59) (.tmp 61)) 0,
 So 64 (.load 42 (.tmp 63)) 42,
 So 10 (.alloc 42) 0,
 Sn (.store 42 (.tmp 10) (.tmp 64)) 0] [8, 10, 59, 60, 61])
 (.seq (.ops [So 66 (.load 42 (.tmp 10)) 42,
 So 67 (.call ⟨.value (.func 121), #[.tmp 66], #[42]⟩) 122,
 So 65 (.move (.tmp 67)) 122,
 So 68 (.extract (.tmp 65) 0) 3,
 So 69 (.extract (.tmp 65) 1) 4,
 So 11 (.assign (.tmp 68)) 3,
 So 12 (.assign (.tmp 69)) 4] [8, 11, 12, 59, 60, 61])
 (.seq (.seq (.ops [So 70 (.move (.tmp 12)) 4,
 So 71 (.unOp .not 4 (.tmp 70)) 4] [8, 11, 59, 60, 61, 71])
 (.cond (.tmp 71)
 (.seq (.ops [So 2 (.assign (.const (.int .i64 0))) 3,
 So 3 (.assign (.const (.bool false))) 4] [2, 3])
 (.ret))
 (.skip)))
 (.ops [So 72 (.move (.tmp 8)) 3,
 So 73 (.move (.tmp 11)) 3,
 So 74 (.binOp .add 3 (.tmp 72) (.tmp 73) 3) 3,
 So 8 (.assign (.tmp 74)) 3] [8, 59, 60, 61])))))
 (.ops [So 75 (.binOp .add 3 (.tmp 61) (.const (.int .i64 1)) 3) 3,
 So 61 (.move (.tmp 75)) 3] [8, 59, 60, 61])))))))
 (.seq (.ops [So 76 (.move (.tmp 8)) 3,
 So 2 (.assign (.tmp 76)) 3,
 So 3 (.assign (.const (.bool true))) 4] [2, 3])
 (.ret)))))))
theorem w121 : CW 121 s121 [.tmp 2, .tmp 3] := fun hr h => callsV_of_p follows cfgT a121 (fn := Tryz.f121) (c := Tryz.f121.body.getD .skip) (by kernel_rfl) (by kernel_rfl) (by kernel_rfl) (by kernel_rfl) (by kernel_rfl) (sc := s121) (by kernel_rfl) [.tmp 2, .tmp 3] (by kernel_rfl) hr h
def a141 : List Ann := [⟨[1], [], []⟩,
 ⟨[1, 3, 4, 5], [], []⟩,
 ⟨[1, 3, 4, 5, 9], [], []⟩,
 ⟨[2], [], []⟩,
 ⟨[1, 3, 4, 5, 9, 10], [], []⟩,
 ⟨[1, 3, 4, 5], [], []⟩,
 ⟨[1, 3, 5, 9, 12], [], []⟩,
 ⟨[1, 3, 5, 9, 12], [], []⟩,
 ⟨[1, 3, 4, 5], [], []⟩,
 ⟨[1, 3, 9, 15], [], []⟩,
 ⟨[1, 3, 9, 15], [], []⟩,
 ⟨[1, 3, 9, 15], [], []⟩,
 ⟨[1, 3, 15], [], []⟩,
 ⟨[1, 3, 4, 5], [], []⟩,
 ⟨[1, 3, 4, 20], [], []⟩,
 ⟨[1, 3, 4, 7], [], []⟩,
 ⟨[1, 3, 4, 28], [], []⟩,
 ⟨[2], [], []⟩,
 ⟨[1, 3, 4, 32], [], []⟩,
 ⟨[2], [], []⟩,
 ⟨[2], [], []⟩]
def s141 : SC := .seq (.ops [So 1 (.box 34 (.tmp 0)) 0,
 So 2 (.assign (.const (.bool false))) 4] [1])
 (.seq (.ops [So 3 (.assign (.const (.int .i64 0))) 3,
 So 4 (.assign (.const (.int .i64 0))) 3,
 So 5 (.assign (.const (.bool false))) 4] [1, 3, 4, 5])
 (.seq (.seq (.ops [So 8 (.fieldAddr 34 (.tmp 1) 0) 0,
 So 9 (.load 3 (.tmp 8)) 3] [1, 3, 4, 5, 9])
 (.block 0
 (.seq (.ops [So 11 (.binOp .eql 3 (.tmp 9) (.const (.int .i64 1)) 3) 4,
 So 10 (.assign (.tmp 11)) 4] [1, 3, 4, 5, 9, 10])
 (.cond (.tmp 10)
 (.ops [So 3 (.assign (.const (.int .i64 2))) 3] [1, 3, 4, 5])
 (.seq (.seq (.ops [So 13 (.binOp .eql 3 (.tmp 9) (.const (.int .i64 2)) 3) 4,
 So 12 (.assign (.tmp 13)) 4] [1, 3, 5, 9, 12])
 (.cond (.tmp 12)
 (.skip)
 (.ops [So 14 (.binOp .eql 3 (.tmp 9) (.const (.int .i64 3)) 3) 4,
 So 12 (.assign (.tmp 14)) 4] [1, 3, 5, 9, 12])))
 (.cond (.tmp 12)
 (.ops [So 4 (.assign (.const (.int .i64 2))) 3] [1, 3, 4, 5])
 (.seq (.seq (.ops [So 16 (.binOp .eql 3 (.tmp 9) (.const (.int .i64 4)) 3) 4,
 So 15 (.assign (.tmp 16)) 4] [1, 3, 9, 15])
 (.cond (.tmp 15)
 (.skip)
 (.seq (.ops [So 17 (.binOp .eql 3 (.tmp 9) (.const (.int .i64 5)) 3) 4,
 So 15 (.assign (.tmp 17)) 4] [1, 3, 9, 15])
 (.cond (.tmp 15)
 (.skip)
 (.seq (.ops [So 18 (.binOp .eql 3 (.tmp 9) (.const (.int .i64 6)) 3) 4,
 So 15 (.assign (.tmp 18)) 4] [1, 3, 9, 15])
 (.cond (.tmp 15)
 (.skip)
 (.ops [So 19 (.binOp .eql 3 (.tmp 9) (.const (.int .i64 7)) 3) 4,
 So 15 (.assign (.tmp 19)) 4] [1, 3, 15])))))))
 (.cond (.tmp 15)
 (.ops [So 4 (.assign (.const (.int .i64 1))) 3,
 So 5 (.assign (.const (.bool true))) 4] [1, 3, 4, 5])
 (.seq (.ops [So 2 (.assign (.const (.bool false))) 4] [2])
 (.ret))))))))))
 (.seq (.seq (.ops [So 20 (.move (.tmp 5)) 4] [1, 3, 4, 20])
 (.cond (.tmp 20)
 (.seq (.ops [So 22 (.fieldAddr 34 (.tmp 1) 1) 0,
 So 23 (.load 30 (.tmp 22)) 30,
 So 24 (.call ⟨.value (.func 144), #[.tmp 23], #[30]⟩) 102,
 So 21 (.move (.tmp 24)) 102,
 So 25 (.extract (.tmp 21) 0) 3,
 So 26 (.extract (.tmp 21) 1) 36,
 So 6 (.assign (.tmp 25)) 3,
 So 7 (.assign (.tmp 26)) 36] [1, 3, 4, 7])
 (.seq (.ops [So 27 (.move (.tmp 7)) 36,
 So 28 (.binOp .neq 36 (.tmp 27) (.const (.int .i64 0)) 36) 4] [1, 3, 4, 28])
 (.cond (.tmp 28)
 (.seq (.ops [So 2 (.assign (.const (.bool false))) 4] [2])
 (.ret))
 (.skip))))
 (.seq (.ops [So 29 (.fieldAddr 34 (.tmp 1) 1) 0,
 So 30 (.load 30 (.tmp 29)) 30,
 So 31 (.call ⟨.value (.func 145), #[.tmp 30], #[30]⟩) 4,
 So 32 (.unOp .not 4 (.tmp 31)) 4] [1, 3, 4, 32])
 (.cond (.tmp 32)
 (.seq (.ops [So 2 (.assign (.const (.bool false))) 4] [2])
 (.ret))
 (.skip)))))
 (.seq (.ops [So 33 (.fieldAddr 34 (.tmp 1) 2) 0,
 So 34 (.load 31 (.tmp 33)) 31,
 So 35 (.call ⟨.builtin .len, #[.tmp 34], #[31]⟩) 3,
 So 36 (.move (.tmp 3)) 3,
 So 37 (.binOp .eql 3 (.tmp 35) (.tmp 36) 3) 4,
 So 38 (.move (.tmp 37)) 4,
 Sg 39 (.fieldAddr 34 (.tmp 1) 3) 0 38 true,
 Sg 40 (.load 32 (.tmp 39)) 32 38 true,
 Sg 41 (.call ⟨.builtin .len, #[.tmp 40], #[32]⟩) 3 38 true,
 Sg 42 (.move (.tmp 4)) 3 38 true,
 Sg 43 (.binOp .eql 3 (.tmp 41) (.tmp 42) 3) 4 38 true,
 So 44 (.pick (.tmp 38) (.tmp 43) (.const (.bool false))) 4,
 So 2 (.assign (.tmp 44)) 4] [2])
 (.ret)))))
theorem w141 : CW 141 s141 [.tmp 2] := fun hr h => callsV_of_p follows cfgT a141 (fn := Tryz.f141) (c := Tryz.f141.body.getD .skip) (by kernel_rfl) (by kernel_rfl) (by kernel_rfl) (by kernel_rfl) (by kernel_rfl) (sc := s141) (by kernel_rfl) [.tmp 2] (by kernel_rfl) hr h
def a120 : List Ann := [⟨[1], [], []⟩,
 ⟨[1, 15], [], []⟩,
 ⟨[2, 3], [], []⟩,
 ⟨[1, 4], [], []⟩,
 ⟨[1, 4, 17, 18, 19], [], []⟩,
 ⟨[1, 4, 17, 18, 19, 20], [], []⟩,
 ⟨[1, 4, 6, 17, 18, 19], [], []⟩,
 ⟨[1, 4, 7, 8, 17, 18, 19], [], []⟩,
 ⟨[1, 4, 7, 17, 18, 19, 29], [], []⟩,
 ⟨[2, 3], [], []⟩,
 ⟨[1, 4, 17, 18, 19], [], []⟩,
 ⟨[1, 4, 17, 18, 19], [], []⟩,
 ⟨[4, 35, 36, 37], [], []⟩,
 ⟨[4, 35, 36, 37, 38], [], []⟩,
 ⟨[4, 10, 35, 36, 37], [], []⟩,
 ⟨[4, 11, 12, 35, 36, 37], [], []⟩,
 ⟨[4, 11, 35, 36, 37, 47], [], []⟩,
 ⟨[2, 3], [], []⟩,
 ⟨[4, 35, 36, 37], [], []⟩,
 ⟨[4, 35, 36, 37], [], []⟩,
 ⟨[2, 3], [], []⟩]
def s120 : SC := .seq (.ops [So 1 (.box 34 (.tmp 0)) 0,
 So 2 (.assign (.const (.int .i64 0))) 3,
 So 3 (.assign (.const (.bool false))) 4] [1])
 (.seq (.seq (.ops [So 13 (.load 34 (.tmp 1)) 34,
 So 14 (.call ⟨.value (.func 141), #[.tmp 13], #[34]⟩) 4,
 So 15 (.unOp .not 4 (.tmp 14)) 4] [1, 15])
 (.cond (.tmp 15)
 (.seq (.ops [So 2 (.assign (.const (.int .i64 0))) 3,
 So 3 (.assign (.const (.bool false))) 4] [2, 3])
 (.ret))
 (.skip)))
 (.seq (.ops [So 4 (.assign (.const (.int .i64 1))) 3] [1, 4])
 (.seq (.seq (.ops [So 16 (.fieldAddr 34 (.tmp 1) 2) 0,
 So 17 (.load 31 (.tmp 16)) 31,
 So 18 (.call ⟨.builtin .len, #[.tmp 17], #[31]⟩) 3,
 So 19 (.move (.const (.int .i64 0))) 3] [1, 4, 17, 18, 19])
 (.block 0
 (.loop
 (.seq (.ops [So 20 (.binOp .lss 3 (.tmp 19) (.tmp 18) 3) 0] [1, 4, 17, 18, 19, 20])
 (.seq (.cond (.tmp 20)
 (.skip)
 (.exit 0))
 (.seq (.block 1
 (.seq (.ops [So 21 (.indexAddr 31 (.tmp 17) (.tmp 19)) 0,
 So 22 (.load 42 (.tmp 21)) 42,
 So 6 (.alloc 42) 0,
 Sn (.store 42 (.tmp 6) (.tmp 22)) 0] [1, 4, 6, 17, 18, 19])
 (.seq (.ops [So 24 (.load 42 (.tmp 6)) 42,
 So 25 (.call ⟨.value (.func 121), #[.tmp 24], #[42]⟩) 122,
 So 23 (.move (.tmp 25)) 122,
 So 26 (.extract (.tmp 23) 0) 3,
 So 27 (.extract (.tmp 23) 1) 4,
 So 7 (.assign (.tmp 26)) 3,
 So 8 (.assign (.tmp 27)) 4] [1, 4, 7, 8, 17, 18, 19])
 (.seq (.seq (.ops [So 28 (.move (.tmp 8)) 4,
 So 29 (.unOp .not 4 (.tmp 28)) 4] [1, 4, 7, 17, 18, 19, 29])
 (.cond (.tmp 29)
 (.seq (.ops [So 2 (.assign (.const (.int .i64 0))) 3,
 So 3 (.assign (.const (.bool false))) 4] [2, 3])
 (.ret))
 (.skip)))
 (.ops [So 30 (.move (.tmp 4)) 3,
 So 31 (.move (.tmp 7)) 3,
 So 32 (.binOp .add 3 (.tmp 30) (.tmp 31) 3) 3,
 So 4 (.assign (.tmp 32)) 3] [1, 4, 17, 18, 19])))))
 (.ops [So 33 (.binOp .add 3 (.tmp 19) (.const (.int .i64 1)) 3) 3,
 So 19 (.move (.tmp 33)) 3] [1, 4, 17, 18, 19])))))))
 (.seq (.seq (.ops [So 34 (.fieldAddr 34 (.tmp 1) 3) 0,
 So 35 (.load 32 (.tmp 34)) 32,
 So 36 (.call ⟨.builtin .len, #[.tmp 35], #[32]⟩) 3,
 So 37 (.move (.const (.int .i64 0))) 3] [4, 35, 36, 37])
 (.block 2
 (.loop
 (.seq (.ops [So 38 (.binOp .lss 3 (.tmp 37) (.tmp 36) 3) 0] [4, 35, 36, 37, 38])
 (.seq (.cond (.tmp 38)
 (.skip)
 (.exit 2))
 (.seq (.block 3
 (.seq (.ops [So 39 (.indexAddr 32 (.tmp 35) (.tmp 37)) 0,
 So 40 (.load 34 (.tmp 39)) 34,
 So 10 (.alloc 34) 0,
 Sn (.store 34 (.tmp 10) (.tmp 40)) 0] [4, 10, 35, 36, 37])
 (.seq (.ops [So 42 (.load 34 (.tmp 10)) 34,
 So 43 (.call ⟨.value (.func 120), #[.tmp 42], #[34]⟩) 122,
 So 41 (.move (.tmp 43)) 122,
 So 44 (.extract (.tmp 41) 0) 3,
 So 45 (.extract (.tmp 41) 1) 4,
 So 11 (.assign (.tmp 44)) 3,
 So 12 (.assign (.tmp 45)) 4] [4, 11, 12, 35, 36, 37])
 (.seq (.seq (.ops [So 46 (.move (.tmp 12)) 4,
 So 47 (.unOp .not 4 (.tmp 46)) 4] [4, 11, 35, 36, 37, 47])
 (.cond (.tmp 47)
 (.seq (.ops [So 2 (.assign (.const (.int .i64 0))) 3,
 So 3 (.assign (.const (.bool false))) 4] [2, 3])
 (.ret))
 (.skip)))
 (.ops [So 48 (.move (.tmp 4)) 3,
 So 49 (.move (.tmp 11)) 3,
 So 50 (.binOp .add 3 (.tmp 48) (.tmp 49) 3) 3,
 So 4 (.assign (.tmp 50)) 3] [4, 35, 36, 37])))))
 (.ops [So 51 (.binOp .add 3 (.tmp 37) (.const (.int .i64 1)) 3) 3,
 So 37 (.move (.tmp 51)) 3] [4, 35, 36, 37])))))))
 (.seq (.ops [So 52 (.move (.tmp 4)) 3,
 So 2 (.assign (.tmp 52)) 3,
 So 3 (.assign (.const (.bool true))) 4] [2, 3])
 (.ret))))))
theorem w120 : CW 120 s120 [.tmp 2, .tmp 3] := fun hr h => callsV_of_p follows cfgT a120 (fn := Tryz.f120) (c := Tryz.f120.body.getD .skip) (by kernel_rfl) (by kernel_rfl) (by kernel_rfl) (by kernel_rfl) (by kernel_rfl) (sc := s120) (by kernel_rfl) [.tmp 2, .tmp 3] (by kernel_rfl) hr h
def a85 : List Ann := [⟨[1], [], []⟩,
 ⟨[4, 5], [], []⟩,
 ⟨[4, 11], [], []⟩,
 ⟨[2, 3], [], []⟩,
 ⟨[4, 14], [], []⟩,
 ⟨[2, 3], [], []⟩,
 ⟨[2, 3], [], []⟩]
def s85 : SC := .seq (.ops [So 1 (.box 34 (.tmp 0)) 0,
 So 2 (.assign (.const (.int .i64 0))) 3,
 So 3 (.assign (.const (.int .i64 0))) 36] [1])
 (.seq (.ops [So 7 (.load 34 (.tmp 1)) 34,
 So 8 (.call ⟨.value (.func 120), #[.tmp 7], #[34]⟩) 122,
 So 6 (.move (.tmp 8)) 122,
 So 9 (.extract (.tmp 6) 0) 3,
 So 10 (.extract (.tmp 6) 1) 4,
 So 4 (.assign (.tmp 9)) 3,
 So 5 (.assign (.tmp 10)) 4] [4, 5])
 (.seq (.block 0
 (.seq (.ops [So 12 (.move (.tmp 5)) 4,
 So 13 (.unOp .not 4 (.tmp 12)) 4,
 So 11 (.assign (.tmp 13)) 4] [4, 11])
 (.cond (.tmp 11)
 (.seq (.ops [So 2 (.assign (.const (.int .i64 0))) 3,
 So 3 (.assign (.const (.int .i64 2))) 36] [2, 3])
 (.ret))
 (.seq (.ops [So 15 (.move (.tmp 4)) 3,
 So 16 (.binOp .gtr 3 (.tmp 15) (.const (.int .i64 4096)) 3) 4,
 So 14 (.assign (.tmp 16)) 4] [4, 14])
 (.cond (.tmp 14)
 (.seq (.ops [So 2 (.assign (.const (.int .i64 0))) 3,
 So 3 (.assign (.const (.int .i64 4))) 36] [2, 3])
 (.ret))
 (.skip))))))
 (.seq (.ops [So 17 (.move (.tmp 4)) 3,
 So 2 (.assign (.tmp 17)) 3,
 So 3 (.assign (.const (.int .i64 0))) 36] [2, 3])
 (.ret))))
theorem w85 : CW 85 s85 [.tmp 2, .tmp 3] := fun hr h => callsV_of_p follows cfgT a85 (fn := Tryz.f85) (c := Tryz.f85.body.getD .skip) (by kernel_rfl) (by kernel_rfl) (by kernel_rfl) (by kernel_rfl) (by kernel_rfl) (sc := s85) (by kernel_rfl) [.tmp 2, .tmp 3] (by kernel_rfl) hr h
def a36 : List Ann := [⟨[1], [], []⟩,
 ⟨[4], [], []⟩,
 ⟨[2], [], []⟩]
def s36 : SC := .seq (.ops [So 1 (.box 34 (.tmp 0)) 0,
 So 2 (.assign (.const (.int .i64 0))) 36] [1])
 (.seq (.ops [So 6 (.load 34 (.tmp 1)) 34,
 So 7 (.call ⟨.value (.func 85), #[.tmp 6], #[34]⟩) 102,
 So 5 (.move (.tmp 7)) 102,
 So 8 (.extract (.tmp 5) 0) 3,
 So 9 (.extract (.tmp 5) 1) 36,
 So 3 (.assign (.tmp 8)) 3,
 So 4 (.assign (.tmp 9)) 36] [4])
 (.seq (.ops [So 10 (.move (.tmp 4)) 36,
 So 2 (.assign (.tmp 10)) 36] [2])
 (.ret)))
theorem w36 : CW 36 s36 [.tmp 2] := fun hr h => callsV_of_p follows cfgT a36 (fn := Tryz.f36) (c := Tryz.f36.body.getD .skip) (by kernel_rfl) (by kernel_rfl) (by kernel_rfl) (by kernel_rfl) (by kernel_rfl) (sc := s36) (by kernel_rfl) [.tmp 2] (by kernel_rfl) hr h
def a86 : List Ann := [⟨[1], [], []⟩,
 ⟨[4, 5], [], []⟩,
 ⟨[4, 11], [], []⟩,
 ⟨[2, 3], [], []⟩,
 ⟨[4, 14], [], []⟩,
 ⟨[2, 3], [], []⟩,
 ⟨[2, 3], [], []⟩]
def s86 : SC := .seq (.ops [So 1 (.box 42 (.tmp 0)) 0,
 So 2 (.assign (.const (.int .i64 0))) 3,
 So 3 (.assign (.const (.int .i64 0))) 36] [1])
 (.seq (.ops [So 7 (.load 42 (.tmp 1)) 42,
 So 8 (.call ⟨.value (.func 121), #[.tmp 7], #[42]⟩) 122,
 So 6 (.move (.tmp 8)) 122,
 So 9 (.extract (.tmp 6) 0) 3,
 So 10 (.extract (.tmp 6) 1) 4,
 So 4 (.assign (.tmp 9)) 3,
 So 5 (.assign (.tmp 10)) 4] [4, 5])
 (.seq (.block 0
 (.seq (.ops [So 12 (.move (.tmp 5)) 4,
 So 13 (.unOp .not 4 (.tmp 12)) 4,
 So 11 (.assign (.tmp 13)) 4] [4, 11])
 (.cond (.tmp 11)
 (.seq (.ops [So 2 (.assign (.const (.int .i64 0))) 3,
 So 3 (.assign (.const (.int .i64 2))) 36] [2, 3])
 (.ret))
 (.seq (.ops [So 15 (.move (.tmp 4)) 3,
 So 16 (.binOp .gtr 3 (.tmp 15) (.const (.int .i64 4096)) 3) 4,
 So 14 (.assign (.tmp 16)) 4] [4, 14])
 (.cond (.tmp 14)
 (.seq (.ops [So 2 (.assign (.const (.int .i64 0))) 3,
 So 3 (.assign (.const (.int .i64 4))) 36] [2, 3])
 (.ret))
 (.skip))))))
 (.seq (.ops [So 17 (.move (.tmp 4)) 3,
 So 2 (.assign (.tmp 17)) 3,
 So 3 (.assign (.const (.int .i64 0))) 36] [2, 3])
 (.ret))))
theorem w86 : CW 86 s86 [.tmp 2, .tmp 3] := fun hr h => callsV_of_p follows cfgT a86 (fn := Tryz.f86) (c := Tryz.f86.body.getD .skip) (by kernel_rfl) (by kernel_rfl) (by kernel_rfl) (by kernel_rfl) (by kernel_rfl) (sc := s86) (by kernel_rfl) [.tmp 2, .tmp 3] (by kernel_rfl) hr h
def a37 : List Ann := [⟨[1], [], []⟩,
 ⟨[4], [], []⟩,
 ⟨[2], [], []⟩]
def s37 : SC := .seq (.ops [So 1 (.box 42 (.tmp 0)) 0,
 So 2 (.assign (.const (.int .i64 0))) 36] [1])
 (.seq (.ops [So 6 (.load 42 (.tmp 1)) 42,
 So 7 (.call ⟨.value (.func 86), #[.tmp 6], #[42]⟩) 102,
 So 5 (.move (.tmp 7)) 102,
 So 8 (.extract (.tmp 5) 0) 3,
 So 9 (.extract (.tmp 5) 1) 36,
 So 3 (.assign (.tmp 8)) 3,
 So 4 (.assign (.tmp 9)) 36] [4])
 (.seq (.ops [So 10 (.move (.tmp 4)) 36,
 So 2 (.assign (.tmp 10)) 36] [2])
 (.ret)))
theorem w37 : CW 37 s37 [.tmp 2] := fun hr h => callsV_of_p follows cfgT a37 (fn := Tryz.f37) (c := Tryz.f37.body.getD .skip) (by kernel_rfl) (by kernel_rfl) (by kernel_rfl) (by kernel_rfl) (by kernel_rfl) (sc := s37) (by kernel_rfl) [.tmp 2] (by kernel_rfl) hr h
def a87 : List Ann := [⟨[1, 2, 3, 6], [], []⟩,
 ⟨[1, 2, 3, 6, 7], [], []⟩,
 ⟨[1, 2, 3, 6, 7], [], []⟩,
 ⟨[1, 2, 3, 6, 7, 22], [], []⟩,
 ⟨[1, 2, 3, 6, 7], [], []⟩,
 ⟨[1, 2, 3, 6, 7, 26, 27, 28], [], []⟩,
 ⟨[1, 2, 3, 6, 7, 26, 27, 28, 29], [], []⟩,
 ⟨[1, 2, 3, 6, 7, 9, 26, 27, 28], [], []⟩,
 ⟨[1, 2, 3, 6, 7, 26, 27, 28], [0, 1, 0, 0, 0, 28, 60, 127, 255, 511], [false, true, false, false, false, true, false, false, false, false]⟩,
 ⟨[1, 2, 3, 6, 7, 26, 27, 28], [], []⟩,
 ⟨[1, 2, 6, 7, 43, 44, 45], [], []⟩,
 ⟨[1, 2, 6, 7, 43, 44, 45, 46], [], []⟩,
 ⟨[1, 2, 6, 7, 11, 43, 44, 45], [], []⟩,
 ⟨[1, 2, 6, 7, 43, 44, 45], [0, 1, 0, 0, 0, 28, 60, 127, 255, 511], [false, true, false, false, false, true, false, false, false, false]⟩,
 ⟨[1, 2, 6, 7, 43, 44, 45], [], []⟩,
 ⟨[6], [], []⟩]
def s87 : SC := .seq (.ops [So 3 (.box 34 (.tmp 0)) 0,
 So 6 (.alloc 34) 0] [1, 2, 3, 6])
 (.seq (.ops [So 12 (.load 34 (.tmp 3)) 34,
 So 7 (.alloc 34) 0,
 Sn (.store 34 (.tmp 7) (.tmp 12)) 0] [1, 2, 3, 6, 7])
 (.seq (.ops [So 13 (.fieldAddr 34 (.tmp 7) 2) 0,
 Sn (.store 31 (.tmp 13) (.const (.slice none 0 0))) 0,
 So 14 (.fieldAddr 34 (.tmp 7) 3) 0,
 Sn (.store 32 (.tmp 14) (.const (.slice none 0 0))) 0] [1, 2, 3, 6, 7])
 (.seq (.seq (.ops [So 15 (.fieldAddr 34 (.tmp 3) 0) 0,
 So 16 (.load 3 (.tmp 15)) 3,
 So 17 (.binOp .geq 3 (.tmp 16) (.const (.int .i64 4)) 3) 4,
 So 18 (.move (.tmp 17)) 4,
 Sg 19 (.fieldAddr 34 (.tmp 3) 0) 0 18 true,
 Sg 20 (.load 3 (.tmp 19)) 3 18 true,
 Sg 21 (.binOp .leq 3 (.tmp 20) (.const (.int .i64 7)) 3) 4 18 true,
 So 22 (.pick (.tmp 18) (.tmp 21) (.const (.bool false))) 4] [1, 2, 3, 6, 7, 22])
 (.cond (.tmp 22)
 (.ops [So 23 (.move (.tmp 1)) 3,
 So 24 (.binOp .add 3 (.tmp 23) (.const (.int .i64 1)) 3) 3,
 So 1 (.assign (.tmp 24)) 3] [1, 2, 3, 6, 7])
 (.skip)))
 (.seq (.seq (.ops [So 25 (.fieldAddr 34 (.tmp 3) 2) 0,
 So 26 (.load 31 (.tmp 25)) 31,
 So 27 (.call ⟨.builtin .len, #[.tmp 26], #[31]⟩) 3,
 So 28 (.move (.const (.int .i64 0))) 3] [1, 2, 3, 6, 7, 26, 27, 28])
 (.block 0
 (.loop
 (.seq (.ops [So 29 (.binOp .lss 3 (.tmp 28) (.tmp 27) 3) 0] [1, 2, 3, 6, 7, 26, 27, 28, 29])
 (.seq (.cond (.tmp 29)
 (.skip)
 (.exit 0))
 (.seq (.block 1
 (.seq (.ops [So 30 (.indexAddr 31 (.tmp 26) (.tmp 28)) 0,
 So 31 (.load 42 (.tmp 30)) 42,
 So 9 (.alloc 42) 0,
 Sn (.store 42 (.tmp 9) (.tmp 31)) 0] [1, 2, 3, 6, 7, 9, 26, 27, 28])
 (.draw [So 32 (.fieldAddr 34 (.tmp 7) 2) 0,
 So 33 (.load 31 (.tmp 32)) 31,
 So 34 (.move (.tmp 2)) 106,
 So 35 (.load 42 (.tmp 9)) 42,
 So 36 (.move (.tmp 1)) 3,
 So 37 (.call ⟨.value (.tmp 34), #[.tmp 35, .tmp 36], #[42, 3]⟩) 42,
 So 38 (.buildSlice 31 1 #[(0, .tmp 37)]) 31,
 So 39 (.call ⟨.builtin .append, #[.tmp 33, .tmp 38], #[31, 31]⟩) 31,
 So 40 (.fieldAddr 34 (.tmp 7) 2) 0,
 Sn (.store 31 (.tmp 40) (.tmp 39)) 0] [false, true, false, false, false, true, false, false, false, false] [1, 2, 3, 6, 7, 26, 27, 28])))
 (.ops [So 41 (.binOp .add 3 (.tmp 28) (.const (.int .i64 1)) 3) 3,
 So 28 (.move (.tmp 41)) 3] [1, 2, 3, 6, 7, 26, 27, 28])))))))
 (.seq (.seq (.ops [So 42 (.fieldAddr 34 (.tmp 3) 3) 0,
 So 43 (.load 32 (.tmp 42)) 32,
 So 44 (.call ⟨.builtin .len, #[.tmp 43], #[32]⟩) 3,
 So 45 (.move (.const (.int .i64 0))) 3] [1, 2, 6, 7, 43, 44, 45])
 (.block 2
 (.loop
 (.seq (.ops [So 46 (.binOp .lss 3 (.tmp 45) (.tmp 44) 3) 0] [1, 2, 6, 7, 43, 44, 45, 46])
 (.seq (.cond (.tmp 46)
 (.skip)
 (.exit 2))
 (.seq (.block 3
 (.seq (.ops [So 47 (.indexAddr 32 (.tmp 43) (.tmp 45)) 0,
 So 48 (.load 34 (.tmp 47)) 34,
 So 11 (.alloc 34) 0,
 Sn (.store 34 (.tmp 11) (.tmp 48)) 0] [1, 2, 6, 7, 11, 43, 44, 45])
 (.draw [So 49 (.fieldAddr 34 (.tmp 7) 3) 0,
 So 50 (.load 32 (.tmp 49)) 32,
 So 51 (.load 34 (.tmp 11)) 34,
 So 52 (.move (.tmp 1)) 3,
 So 53 (.move (.tmp 2)) 106,
 So 54 (.call ⟨.value (.func 87), #[.tmp 51, .tmp 52, .tmp 53], #[34, 3, 106]⟩) 34,
 So 55 (.buildSlice 32 1 #[(0, .tmp 54)]) 32,
 So 56 (.call ⟨.builtin .append, #[.tmp 50, .tmp 55], #[32, 32]⟩) 32,
 So 57 (.fieldAddr 34 (.tmp 7) 3) 0,
 Sn (.store 32 (.tmp 57) (.tmp 56)) 0] [false, true, false, false, false, true, false, false, false, false] [1, 2, 6, 7, 43, 44, 45])))
 (.ops [So 58 (.binOp .add 3 (.tmp 45) (.const (.int .i64 1)) 3) 3,
 So 45 (.move (.tmp 58)) 3] [1, 2, 6, 7, 43, 44, 45])))))))
 (.seq (.ops [So 59 (.load 34 (.tmp 7)) 34,
 Sn (.store 34 (.tmp 6) (.tmp 59)) 0] [6])
 (.ret)))))))
theorem w87 : CW 87 s87 [.cell 6 34] := fun hr h => callsV_of_p follows cfgT a87 (fn := Tryz.f87) (c := Tryz.f87.body.getD .skip) (by kernel_rfl) (by kernel_rfl) (by kernel_rfl) (by kernel_rfl) (by kernel_rfl) (sc := s87) (by kernel_rfl) [.cell 6 34] (by kernel_rfl) hr h
def a39 : List Ann := [⟨[1], [], []⟩,
 ⟨[1, 7], [], []⟩,
 ⟨[2], [], []⟩,
 ⟨[9, 10, 11], [], []⟩,
 ⟨[9, 10, 11, 12], [], []⟩,
 ⟨[4, 9, 10, 11], [], []⟩,
 ⟨[9, 10, 11, 16], [], []⟩,
 ⟨[2], [], []⟩,
 ⟨[9, 10, 11], [], []⟩,
 ⟨[2], [], []⟩]
def s39 : SC := .seq (.ops [So 1 (.box 42 (.tmp 0)) 0,
 So 2 (.assign (.const (.bool false))) 4] [1])
 (.seq (.seq (.ops [So 5 (.fieldAddr 42 (.tmp 1) 1) 0,
 So 6 (.load 3 (.tmp 5)) 3,
 So 7 (.binOp .gtr 3 (.tmp 6) (.const (.int .i64 268435456)) 3) 4] [1, 7])
 (.cond (.tmp 7)
 (.seq (.ops [So 2 (.assign (.const (.bool true))) 4] [2])
 (.ret))
 (.skip)))
 (.seq (.seq (.ops [So 8 (.fieldAddr 42 (.tmp 1) 3) 0,
 So 9 (.load 31 (.tmp 8)) 31,
 So 10 (.call ⟨.builtin .len, #[.tmp 9], #[31]⟩) 3,
 So 11 (.move (.const (.int .i64 0))) 3] [9, 10, 11])
 (.block 0
 (.loop
 (.seq (.ops [So 12 (.binOp .lss 3 (.tmp 11) (.tmp 10) 3) 0] [9, 10, 11, 12])
 (.seq (.cond (.tmp 12)
 (.skip)
 (.exit 0))
 (.seq (.block 1
 (.seq (.ops [So 13 (.indexAddr 31 (.tmp 9) (.tmp 11)) 0,
 So 14 (.load 42 (.tmp 13)) 42,
 So 4 (.alloc 42) 0,
 Sn (.store 42 (.tmp 4) (.tmp 14)) 0] [4, 9, 10, 11])
 (.seq (.ops [So 15 (.load 42 (.tmp 4)) 42,
 So 16 (.call ⟨.value (.func 39), #[.tmp 15], #[42]⟩) 4] [9, 10, 11, 16])
 (.cond (.tmp 16)
 (.seq (.ops [So 2 (.assign (.const (.bool true))) 4] [2])
 (.ret))
 (.skip)))))
 (.ops [So 17 (.binOp .add 3 (.tmp 11) (.const (.int .i64 1)) 3) 3,
 So 11 (.move (.tmp 17)) 3] [9, 10, 11])))))))
 (.seq (.ops [So 2 (.assign (.const (.bool false))) 4] [2])
 (.ret))))
theorem w39 : CW 39 s39 [.tmp 2] := fun hr h => callsV_of_p follows cfgT a39 (fn := Tryz.f39) (c := Tryz.f39.body.getD .skip) (by kernel_rfl) (by kernel_rfl) (by kernel_rfl) (by kernel_rfl) (by kernel_rfl) (sc := s39) (by kernel_rfl) [.tmp 2] (by kernel_rfl) hr h
def a88 : List Ann := [⟨[2, 3, 5], [], []⟩,
 ⟨[3, 5], [], []⟩,
 ⟨[5], [], []⟩]
def s88 : SC := .seq (.ops [So 3 (.box 42 (.tmp 0)) 0,
 So 5 (.alloc 42) 0] [2, 3, 5])
 (.seq (.ops [So 6 (.load 4 (.tmp 2)) 4,
 So 7 (.move (.tmp 6)) 4,
 Sg 8 (.load 42 (.tmp 3)) 42 7 false,
 Sg 9 (.call ⟨.value (.func 39), #[.tmp 8], #[42]⟩) 4 7 false,
 So 10 (.pick (.tmp 7) (.const (.bool true)) (.tmp 9)) 4,
 Sn (.store 4 (.tmp 2) (.tmp 10)) 0] [3, 5])
 (.seq (.ops [So 11 (.load 42 (.tmp 3)) 42,
 Sn (.store 42 (.tmp 5) (.tmp 11)) 0] [5])
 (.ret)))
theorem w88 : CW 88 s88 [.cell 5 42] := fun hr h => callsV_of_p follows cfgT a88 (fn := Tryz.f88) (c := Tryz.f88.body.getD .skip) (by kernel_rfl) (by kernel_rfl) (by kernel_rfl) (by kernel_rfl) (by kernel_rfl) (sc := s88) (by kernel_rfl) [.cell 5 42] (by kernel_rfl) hr h
def a38 : List Ann := [⟨[1], [], []⟩,
 ⟨[1, 3], [], []⟩,
 ⟨[3], [], []⟩,
 ⟨[2], [], []⟩]
def s38 : SC := .seq (.ops [So 1 (.box 34 (.tmp 0)) 0,
 So 2 (.assign (.const (.bool false))) 4] [1])
 (.seq (.ops [So 3 (.alloc 4) 0,
 Sn (.store 4 (.tmp 3) (.const (.bool false))) 0] [1, 3])
 (.seq (.ops [So 4 (.load 34 (.tmp 1)) 34,
 So 5 (.makeFunc (.func 88) #[] #[.tmp 3]) 106,
 So 6 (.call ⟨.value (.func 87), #[.tmp 4, .const (.int .i64 0), .tmp 5], #[34, 3, 106]⟩) 34] [3])
 (.seq (.ops [So 7 (.load 4 (.tmp 3)) 4,
 So 2 (.assign (.tmp 7)) 4] [2])
 (.ret))))
theorem w38 : CW 38 s38 [.tmp 2] := fun hr h => callsV_of_p follows cfgT a38 (fn := Tryz.f38) (c := Tryz.f38.body.getD .skip) (by kernel_rfl) (by kernel_rfl) (by kernel_rfl) (by kernel_rfl) (by kernel_rfl) (sc := s38) (by kernel_rfl) [.tmp 2] (by kernel_rfl) hr h
def a161 : List Ann := [⟨[0, 2], [], []⟩,
 ⟨[2], [], []⟩]
def s161 : SC := .seq (.ops [So 2 (.alloc 42) 0] [0, 2])
 (.seq (.ops [So 3 (.move (.tmp 0)) 3,
 So 4 (.build 42 #[(0, .const (.int .i64 1)), (1, .tmp 3)]) 42,
 Sn (.store 42 (.tmp 2) (.tmp 4)) 0] [2])
 (.ret))
theorem w161 : CW 161 s161 [.cell 2 42] := fun hr h => callsV_of_p follows cfgT a161 (fn := Tryz.f161) (c := Tryz.f161.body.getD .skip) (by kernel_rfl) (by kernel_rfl) (by kernel_rfl) (by kernel_rfl) (by kernel_rfl) (sc := s161) (by kernel_rfl) [.cell 2 42] (by kernel_rfl) hr h
def a167 : List Ann := [⟨[0], [], []⟩,
 ⟨[4], [], []⟩,
 ⟨[2, 3], [], []⟩,
 ⟨[2, 3], [], []⟩]
def s167 : SC := .seq (.ops [So 2 (.assign (.const (.int .i64 0))) 3,
 So 3 (.assign (.const (.int .i64 0))) 3] [0])
 (.seq (.seq (.ops [So 4 (.move (.tmp 0)) 4] [4])
 (.cond (.tmp 4)
 (.seq (.ops [So 2 (.assign (.const (.int .i64 4))) 3,
 So 3 (.assign (.const (.int .i64 3))) 3] [2, 3])
 (.ret))
 (.skip)))
 (.seq (.ops [So 2 (.assign (.const (.int .i64 5))) 3,
 So 3 (.assign (.const (.int .i64 2))) 3] [2, 3])
 (.ret)))
theorem w167 : CW 167 s167 [.tmp 2, .tmp 3] := fun hr h => callsV_of_p follows cfgT a167 (fn := Tryz.f167) (c := Tryz.f167.body.getD .skip) (by kernel_rfl) (by kernel_rfl) (by kernel_rfl) (by kernel_rfl) (by kernel_rfl) (sc := s167) (by kernel_rfl) [.tmp 2, .tmp 3] (by kernel_rfl) hr h
def a165 : List Ann := [⟨[1, 2, 3, 4], [], []⟩,
 ⟨[1, 2, 3, 4, 10], [], []⟩,
 ⟨[1, 3, 4], [], []⟩,
 ⟨[1, 3, 4, 18], [], []⟩,
 ⟨[1, 3, 4], [], []⟩,
 ⟨[1, 3, 22, 23, 24], [], []⟩,
 ⟨[1, 3, 22, 23, 24, 25], [], []⟩,
 ⟨[1, 3, 7, 22, 23, 24], [], []⟩,
 ⟨[1, 3, 22, 23, 24], [], []⟩,
 ⟨[1, 3, 22, 23, 24], [], []⟩]
def s165 : SC := .seq (.ops [So 4 (.box 42 (.tmp 0)) 0] [1, 2, 3, 4])
 (.seq (.seq (.ops [So 8 (.fieldAddr 42 (.tmp 4) 0) 0,
 So 9 (.load 3 (.tmp 8)) 3,
 So 10 (.binOp .eql 3 (.tmp 9) (.const (.int .i64 1)) 3) 4] [1, 2, 3, 4, 10])
 (.cond (.tmp 10)
 (.ops [So 11 (.load 140 (.tmp 2)) 140,
 So 12 (.fieldAddr 42 (.tmp 4) 1) 0,
 So 13 (.load 3 (.tmp 12)) 3,
 So 14 (.move (.tmp 1)) 3,
 So 15 (.call ⟨.value (.tmp 11), #[.tmp 13, .tmp 14], #[3, 3]⟩) 0] [1, 3, 4])
 (.skip)))
 (.seq (.seq (.ops [So 16 (.fieldAddr 42 (.tmp 4) 0) 0,
 So 17 (.load 3 (.tmp 16)) 3,
 So 18 (.binOp .eql 3 (.tmp 17) (.const (.int .i64 2)) 3) 4] [1, 3, 4, 18])
 (.cond (.tmp 18)
 (.ops [So 19 (.move (.tmp 1)) 3,
 So 20 (.binOp .add 3 (.tmp 19) (.const (.int .i64 1)) 3) 3,
 So 1 (.assign (.tmp 20)) 3] [1, 3, 4])
 (.skip)))
 (.seq (.ops [So 21 (.fieldAddr 42 (.tmp 4) 3) 0,
 So 22 (.load 31 (.tmp 21)) 31,
 So 23 (.call ⟨.builtin .len, #[.tmp 22], #[31]⟩) 3,
 So 24 (.move (.const (.int .i64 0))) 3] [1, 3, 22, 23, 24])
 (.block 0
 (.loop
 (.seq (.ops [So 25 (.binOp .lss 3 (.tmp 24) (.tmp 23) 3) 0] [1, 3, 22, 23, 24, 25])
 (.seq (.cond (.tmp 25)
 (.skip)
 (.exit 0))
 (.seq (.block 1
 (.seq (.ops [So 26 (.indexAddr 31 (.tmp 22) (.tmp 24)) 0,
 So 27 (.load 42 (.tmp 26)) 42,
 So 7 (.alloc 42) 0,
 Sn (.store 42 (.tmp 7) (.tmp 27)) 0] [1, 3, 7, 22, 23, 24])
 (.ops [So 28 (.load 135 (.tmp 3)) 135,
 So 29 (.load 42 (.tmp 7)) 42,
 So 30 (.move (.tmp 1)) 3,
 So 31 (.call ⟨.value (.tmp 28), #[.tmp 29, .tmp 30], #[42, 3]⟩) 0] [1, 3, 22, 23, 24])))
 (.ops [So 32 (.binOp .add 3 (.tmp 24) (.const (.int .i64 1)) 3) 3,
 So 24 (.move (.tmp 32)) 3] [1, 3, 22, 23, 24])))))))))
theorem w165 : CW 165 s165 [] := fun hr h => callsV_of_p follows cfgT a165 (fn := Tryz.f165) (c := Tryz.f165.body.getD .skip) (by kernel_rfl) (by kernel_rfl) (by kernel_rfl) (by kernel_rfl) (by kernel_rfl) (sc := s165) (by kernel_rfl) [] (by kernel_rfl) hr h
def a156 : List Ann := [⟨[2, 3], [], []⟩,
 ⟨[2, 3, 4], [], []⟩,
 ⟨[2, 4], [], []⟩,
 ⟨[], [], []⟩]
def s156 : SC := .seq (.ops [So 2 (.box 42 (.tmp 0)) 0,
 So 3 (.box 140 (.tmp 1)) 0] [2, 3])
 (.seq (.ops [So 4 (.alloc 135) 0] [2, 3, 4])
 (.seq (.ops [So 5 (.makeFunc (.func 165) #[] #[.tmp 3, .tmp 4]) 135,
 Sn (.store 135 (.tmp 4) (.tmp 5)) 0] [2, 4])
 (.ops [So 6 (.load 135 (.tmp 4)) 135,
 So 7 (.load 42 (.tmp 2)) 42,
 So 8 (.call ⟨.value (.tmp 6), #[.tmp 7, .const (.int .i64 0)], #[42, 3]⟩) 0] [])))
theorem w156 : CW 156 s156 [] := fun hr h => callsV_of_p follows cfgT a156 (fn := Tryz.f156) (c := Tryz.f156.body.getD .skip) (by kernel_rfl) (by kernel_rfl) (by kernel_rfl) (by kernel_rfl) (by kernel_rfl) (sc := s156) (by kernel_rfl) [] (by kernel_rfl) hr h
def a171 : List Ann := [⟨[3, 10], [], []⟩,
 ⟨[], [], []⟩]
def s171 : SC := .seq (.ops [So 6 (.move (.tmp 0)) 3,
 So 7 (.move (.tmp 1)) 3,
 So 8 (.binOp .sub 3 (.tmp 6) (.tmp 7) 3) 3,
 So 9 (.load 3 (.tmp 2)) 3,
 So 10 (.binOp .eql 3 (.tmp 8) (.tmp 9) 3) 4] [3, 10])
 (.cond (.tmp 10)
 (.ops [So 11 (.load 3 (.tmp 3)) 3,
 So 12 (.binOp .add 3 (.tmp 11) (.const (.int .i64 1)) 3) 3,
 Sn (.store 3 (.tmp 3) (.tmp 12)) 0] [])
 (.skip))
theorem w171 : CW 171 s171 [] := fun hr h => callsV_of_p follows cfgT a171 (fn := Tryz.f171) (c := Tryz.f171.body.getD .skip) (by kernel_rfl) (by kernel_rfl) (by kernel_rfl) (by kernel_rfl) (by kernel_rfl) (sc := s171) (by kernel_rfl) [] (by kernel_rfl) hr h
def a168 : List Ann := [⟨[2, 3], [], []⟩,
 ⟨[2, 3, 5], [], []⟩,
 ⟨[5], [], []⟩,
 ⟨[4], [], []⟩]
def s168 : SC := .seq (.ops [So 2 (.box 42 (.tmp 0)) 0,
 So 3 (.box 3 (.tmp 1)) 0,
 So 4 (.assign (.const (.int .i64 0))) 3] [2, 3])
 (.seq (.ops [So 5 (.alloc 3) 0,
 Sn (.store 3 (.tmp 5) (.const (.int .i64 0))) 0] [2, 3, 5])
 (.seq (.ops [So 6 (.load 42 (.tmp 2)) 42,
 So 7 (.makeFunc (.func 171) #[] #[.tmp 3, .tmp 5]) 140,
 So 8 (.call ⟨.value (.func 156), #[.tmp 6, .tmp 7], #[42, 140]⟩) 0] [5])
 (.seq (.ops [So 9 (.load 3 (.tmp 5)) 3,
 So 4 (.assign (.tmp 9)) 3] [4])
 (.ret))))
theorem w168 : CW 168 s168 [.tmp 4] := fun hr h => callsV_of_p follows cfgT a168 (fn := Tryz.f168) (c := Tryz.f168.body.getD .skip) (by kernel_rfl) (by kernel_rfl) (by kernel_rfl) (by kernel_rfl) (by kernel_rfl) (sc := s168) (by kernel_rfl) [.tmp 4] (by kernel_rfl) hr h
def a172 : List Ann := [⟨[2, 3], [], []⟩,
 ⟨[2, 3, 20], [], []⟩,
 ⟨[4], [], []⟩,
 ⟨[3, 22, 23, 24], [], []⟩,
 ⟨[3, 22, 23, 24, 25], [], []⟩,
 ⟨[3, 5, 6, 22, 23, 24], [], []⟩,
 ⟨[3, 22, 23, 24, 36], [0, 0, 2, 0, 14, 30, 63, 127], [false, false, false, false, false, false, false, false]⟩,
 ⟨[4], [], []⟩,
 ⟨[3, 22, 23, 24], [], []⟩,
 ⟨[4], [], []⟩]
def s172 : SC := .seq (.ops [So 2 (.box 30 (.tmp 0)) 0,
 So 3 (.box 30 (.tmp 1)) 0,
 So 4 (.assign (.const (.bool false))) 4] [2, 3])
 (.seq (.seq (.ops [So 7 (.fieldAddr 30 (.tmp 2) 0) 0,
 So 8 (.load 3 (.tmp 7)) 3,
 So 9 (.fieldAddr 30 (.tmp 3) 0) 0,
 So 10 (.load 3 (.tmp 9)) 3,
 So 11 (.binOp .neq 3 (.tmp 8) (.tmp 10) 3) 4,
 So 12 (.move (.tmp 11)) 4,
 Sg 13 (.fieldAddr 30 (.tmp 2) 1) 0 12 false,
 Sg 14 (.load 27 (.tmp 13)) 27 12 false,
 Sg 15 (.call ⟨.builtin .len, #[.tmp 14], #[27]⟩) 3 12 false,
 Sg 16 (.fieldAddr 30 (.tmp 3) 1) 0 12 false,
 Sg 17 (.load 27 (.tmp 16)) 27 12 false,
 Sg 18 (.call ⟨.builtin .len, #[.tmp 17], #[27]⟩) 3 12 false,
 Sg 19 (.binOp .neq 3 (.tmp 15) (.tmp 18) 3) 4 12 false,
 So 20 (.pick (.tmp 12) (.const (.bool true)) (.tmp 19)) 4] [2, 3, 20])
 (.cond (.tmp 20)
 (.seq (.ops [So 4 (.assign (.const (.bool false))) 4] [4])
 (.ret))
 (.skip)))
 (.seq (.seq (.ops [So 21 (.fieldAddr 30 (.tmp 2) 1) 0,
 So 22 (.load 27 (.tmp 21)) 27,
 So 23 (.call ⟨.builtin .len, #[.tmp 22], #[27]⟩) 3,
 So 24 (.move (.const (.int .i64 0))) 3] [3, 22, 23, 24])
 (.block 0
 (.loop
 (.seq (.ops [So 25 (.binOp .lss 3 (.tmp 24) (.tmp 23) 3) 0] [3, 22, 23, 24, 25])
 (.seq (.cond (.tmp 25)
 (.skip)
 (.exit 0))
 (.seq (.block 1
 (.seq (.ops [So 26 (.move (.tmp 24)) 3,
 So 27 (.indexAddr 27 (.tmp 22) (.tmp 24)) 0,
 So 28 (.load 30 (.tmp 27)) 30,
 So 6 (.alloc 30) 0,
 So 5 (.assign (.tmp 26)) 3,
 Sn (.store 30 (.tmp 6) (.tmp 28)) 0] [3, 5, 6, 22, 23, 24])
 (.seq (.draw [So 29 (.load 30 (.tmp 6)) 30,
 So 30 (.fieldAddr 30 (.tmp 3) 1) 0,
 So 31 (.load 27 (.tmp 30)) 27,
 So 32 (.move (.tmp 5)) 3,
 So 33 (.indexAddr 27 (.tmp 31) (.tmp 32)) 0,
 So 34 (.load 30 (.tmp 33)) 30,
 So 35 (.call ⟨.value (.func 172), #[.tmp 29, .tmp 34], #[30, 30]⟩) 4,
 So 36 (.unOp .not 4 (.tmp 35)) 4] [false, false, false, false, false, false, false, false] [3, 22, 23, 24, 36])
 (.cond (.tmp 36)
 (.seq (.ops [So 4 (.assign (.const (.bool false))) 4] [4])
 (.ret))
 (.skip)))))
 (.ops [So 37 (.binOp .add 3 (.tmp 24) (.const (.int .i64 1)) 3) 3,
 So 24 (.move (.tmp 37)) 3] [3, 22, 23, 24])))))))
 (.seq (.ops [So 4 (.assign (.const (.bool true))) 4] [4])
 (.ret))))
theorem w172 : CW 172 s172 [.tmp 4] := fun hr h => callsV_of_p follows cfgT a172 (fn := Tryz.f172) (c := Tryz.f172.body.getD .skip) (by kernel_rfl) (by kernel_rfl) (by kernel_rfl) (by kernel_rfl) (by kernel_rfl) (sc := s172) (by kernel_rfl) [.tmp 4] (by kernel_rfl) hr h
def a173 : List Ann := [⟨[2, 3], [], []⟩,
 ⟨[2, 3, 35], [], []⟩,
 ⟨[4], [], []⟩,
 ⟨[3, 37, 38, 39], [], []⟩,
 ⟨[3, 37, 38, 39, 40], [], []⟩,
 ⟨[3, 5, 6, 37, 38, 39], [], []⟩,
 ⟨[3, 37, 38, 39, 51], [0, 0, 2, 0, 14, 30, 63, 127], [false, false, false, false, false, false, false, false]⟩,
 ⟨[4], [], []⟩,
 ⟨[3, 37, 38, 39], [], []⟩,
 ⟨[4], [], []⟩]
def s173 : SC := .seq (.ops [So 2 (.box 42 (.tmp 0)) 0,
 So 3 (.box 42 (.tmp 1)) 0,
 So 4 (.assign (.const (.bool false))) 4] [2, 3])
 (.seq (.seq (.ops [So 7 (.fieldAddr 42 (.tmp 2) 0) 0,
 So 8 (.load 3 (.tmp 7)) 3,
 So 9 (.fieldAddr 42 (.tmp 3) 0) 0,
 So 10 (.load 3 (.tmp 9)) 3,
 So 11 (.binOp .neq 3 (.tmp 8) (.tmp 10) 3) 4,
 So 12 (.move (.tmp 11)) 4,
 Sg 13 (.fieldAddr 42 (.tmp 2) 1) 0 12 false,
 Sg 14 (.load 3 (.tmp 13)) 3 12 false,
 Sg 15 (.fieldAddr 42 (.tmp 3) 1) 0 12 false,
 Sg 16 (.load 3 (.tmp 15)) 3 12 false,
 Sg 17 (.binOp .neq 3 (.tmp 14) (.tmp 16) 3) 4 12 false,
 So 18 (.pick (.tmp 12) (.const (.bool true)) (.tmp 17)) 4,
 So 19 (.move (.tmp 18)) 4,
 Sg 20 (.fieldAddr 42 (.tmp 2) 2) 0 19 false,
 Sg 21 (.load 30 (.tmp 20)) 30 19 false,
 Sg 22 (.fieldAddr 42 (.tmp 3) 2) 0 19 false,
 Sg 23 (.load 30 (.tmp 22)) 30 19 false,
 Sg 24 (.call ⟨.value (.func 172), #[.tmp 21, .tmp 23], #[30, 30]⟩) 4 19 false,
 Sg 25 (.unOp .not 4 (.tmp 24)) 4 19 false,
 So 26 (.pick (.tmp 19) (.const (.bool true)) (.tmp 25)) 4,
 So 27 (.move (.tmp 26)) 4,
 Sg 28 (.fieldAddr 42 (.tmp 2) 3) 0 27 false,
 Sg 29 (.load 31 (.tmp 28)) 31 27 false,
 Sg 30 (.call ⟨.builtin .len, #[.tmp 29], #[31]⟩) 3 27 false,
 Sg 31 (.fieldAddr 42 (.tmp 3) 3) 0 27 false,
 Sg 32 (.load 31 (.tmp 31)) 31 27 false,
 Sg 33 (.call ⟨.builtin .len, #[.tmp 32], #[31]⟩) 3 27 false,
 Sg 34 (.binOp .neq 3 (.tmp 30) (.tmp 33) 3) 4 27 false,
 So 35 (.pick (.tmp 27) (.const (.bool true)) (.tmp 34)) 4] [2, 3, 35])
 (.cond (.tmp 35)
 (.seq (.ops [So 4 (.assign (.const (.bool false))) 4] [4])
 (.ret))
 (.skip)))
 (.seq (.seq (.ops [So 36 (.fieldAddr 42 (.tmp 2) 3) 0,
 So 37 (.load 31 (.tmp 36)) 31,
 So 38 (.call ⟨.builtin .len, #[.tmp 37], #[31]⟩) 3,
 So 39 (.move (.const (.int .i64 0))) 3] [3, 37, 38, 39])
 (.block 0
 (.loop
 (.seq (.ops [So 40 (.binOp .lss 3 (.tmp 39) (.tmp 38) 3) 0] [3, 37, 38, 39, 40])
 (.seq (.cond (.tmp 40)
 (.skip)
 (.exit 0))
 (.seq (.block 1
 (.seq (.ops [So 41 (.move (.tmp 39)) 3,
 So 42 (.indexAddr 31 (.tmp 37) (.tmp 39)) 0,
 So 43 (.load 42 (.tmp 42)) 42,
 So 6 (.alloc 42) 0,
 So 5 (.assign (.tmp 41)) 3,
 Sn (.store 42 (.tmp 6) (.tmp 43)) 0] [3, 5, 6, 37, 38, 39])
 (.seq (.draw [So 44 (.load 42 (.tmp 6)) 42,
 So 45 (.fieldAddr 42 (.tmp 3) 3) 0,
 So 46 (.load 31 (.tmp 45)) 31,
 So 47 (.move (.tmp 5)) 3,
 So 48 (.indexAddr 31 (.tmp 46) (.tmp 47)) 0,
 So 49 (.load 42 (.tmp 48)) 42,
 So 50 (.call ⟨.value (.func 173), #[.tmp 44, .tmp 49], #[42, 42]⟩) 4,
 So 51 (.unOp .not 4 (.tmp 50)) 4] [false, false, false, false, false, false, false, false] [3, 37, 38, 39, 51])
 (.cond (.tmp 51)
 (.seq (.ops [So 4 (.assign (.const (.bool false))) 4] [4])
 (.ret))
 (.skip)))))
 (.ops [So 52 (.binOp .add 3 (.tmp 39) (.const (.int .i64 1)) 3) 3,
 So 39 (.move (.tmp 52)) 3] [3, 37, 38, 39])))))))
 (.seq (.ops [So 4 (.assign (.const (.bool true))) 4] [4])
 (.ret))))
theorem w173 : CW 173 s173 [.tmp 4] := fun hr h => callsV_of_p follows cfgT a173 (fn := Tryz.f173) (c := Tryz.f173.body.getD .skip) (by kernel_rfl) (by kernel_rfl) (by kernel_rfl) (by kernel_rfl) (by kernel_rfl) (sc := s173) (by kernel_rfl) [.tmp 4] (by kernel_rfl) hr h
def a169 : List Ann := [⟨[2, 3], [], []⟩,
 ⟨[2, 3, 39], [], []⟩,
 ⟨[4], [], []⟩,
 ⟨[2, 3, 41, 42, 43], [], []⟩,
 ⟨[2, 3, 41, 42, 43, 44], [], []⟩,
 ⟨[2, 3, 5, 6, 41, 42, 43], [], []⟩,
 ⟨[2, 3, 41, 42, 43, 55], [0, 0, 2, 0, 14, 30, 63, 127], [false, false, false, false, false, false, false, false]⟩,
 ⟨[4], [], []⟩,
 ⟨[2, 3, 41, 42, 43], [], []⟩,
 ⟨[3, 58, 59, 60], [], []⟩,
 ⟨[3, 58, 59, 60, 61], [], []⟩,
 ⟨[3, 7, 8, 58, 59, 60], [], []⟩,
 ⟨[3, 58, 59, 60, 72], [0, 0, 2, 0, 14, 30, 63, 127], [false, false, false, false, false, false, false, false]⟩,
 ⟨[4], [], []⟩,
 ⟨[3, 58, 59, 60], [], []⟩,
 ⟨[4], [], []⟩]
def s169 : SC := .seq (.ops [So 2 (.box 34 (.tmp 0)) 0,
 So 3 (.box 34 (.tmp 1)) 0,
 So 4 (.assign (.const (.bool false))) 4] [2, 3])
 (.seq (.seq (.ops [So 9 (.fieldAddr 34 (.tmp 2) 0) 0,
 So 10 (.load 3 (.tmp 9)) 3,
 So 11 (.fieldAddr 34 (.tmp 3) 0) 0,
 So 12 (.load 3 (.tmp 11)) 3,
 So 13 (.binOp .neq 3 (.tmp 10) (.tmp 12) 3) 4,
 So 14 (.move (.tmp 13)) 4,
 Sg 15 (.fieldAddr 34 (.tmp 2) 1) 0 14 false,
 Sg 16 (.load 30 (.tmp 15)) 30 14 false,
 Sg 17 (.fieldAddr 34 (.tmp 3) 1) 0 14 false,
 Sg 18 (.load 30 (.tmp 17)) 30 14 false,
 Sg 19 (.call ⟨.value (.func 172), #[.tmp 16, .tmp 18], #[30, 30]⟩) 4 14 false,
 Sg 20 (.unOp .not 4 (.tmp 19)) 4 14 false,
 So 21 (.pick (.tmp 14) (.const (.bool true)) (.tmp 20)) 4,
 So 22 (.move (.tmp 21)) 4,
 Sg 23 (.fieldAddr 34 (.tmp 2) 2) 0 22 false,
 Sg 24 (.load 31 (.tmp 23)) 31 22 false,
 Sg 25 (.call ⟨.builtin .len, #[.tmp 24], #[31]⟩) 3 22 false,
 Sg 26 (.fieldAddr 34 (.tmp 3) 2) 0 22 false,
 Sg 27 (.load 31 (.tmp 26)) 31 22 false,
 Sg 28 (.call ⟨.builtin .len, #[.tmp 27], #[31]⟩) 3 22 false,
 Sg 29 (.binOp .neq 3 (.tmp 25) (.tmp 28) 3) 4 22 false,
 So 30 (.pick (.tmp 22) (.const (.bool true)) (.tmp 29)) 4,
 So 31 (.move (.tmp 30)) 4,
 Sg 32 (.fieldAddr 34 (.tmp 2) 3) 0 31 false,
 Sg 33 (.load 32 (.tmp 32)) 32 31 false,
 Sg 34 (.call ⟨.builtin .len, #[.tmp 33], #[32]⟩) 3 31 false,
 Sg 35 (.fieldAddr 34 (.tmp 3) 3) 0 31 false,
 Sg 36 (.load 32 (.tmp 35)) 32 31 false,
 Sg 37 (.call ⟨.builtin .len, #[.tmp 36], #[32]⟩) 3 31 false,
 Sg 38 (.binOp .neq 3 (.tmp 34) (.tmp 37) 3) 4 31 false,
 So 39 (.pick (.tmp 31) (.const (.bool true)) (.tmp 38)) 4] [2, 3, 39])
 (.cond (.tmp 39)
 (.seq (.ops [So 4 (.assign (.const (.bool false))) 4] [4])
 (.ret))
 (.skip)))
 (.seq (.seq (.ops [So 40 (.fieldAddr 34 (.tmp 2) 2) 0,
 So 41 (.load 31 (.tmp 40)) 31,
 So 42 (.call ⟨.builtin .len, #[.tmp 41], #[31]⟩) 3,
 So 43 (.move (.const (.int .i64 0))) 3] [2, 3, 41, 42, 43])
 (.block 0
 (.loop
 (.seq (.ops [So 44 (.binOp .lss 3 (.tmp 43) (.tmp 42) 3) 0] [2, 3, 41, 42, 43, 44])
 (.seq (.cond (.tmp 44)
 (.skip)
 (.exit 0))
 (.seq (.block 1
 (.seq (.ops [So 45 (.move (.tmp 43)) 3,
 So 46 (.indexAddr 31 (.tmp 41) (.tmp 43)) 0,
 So 47 (.load 42 (.tmp 46)) 42,
 So 6 (.alloc 42) 0,
 So 5 (.assign (.tmp 45)) 3,
 Sn (.store 42 (.tmp 6) (.tmp 47)) 0] [2, 3, 5, 6, 41, 42, 43])
 (.seq (.draw [So 48 (.load 42 (.tmp 6)) 42,
 So 49 (.fieldAddr 34 (.tmp 3) 2) 0,
 So 50 (.load 31 (.tmp 49)) 31,
 So 51 (.move (.tmp 5)) 3,
 So 52 (.indexAddr 31 (.tmp 50) (.tmp 51)) 0,
 So 53 (.load 42 (.tmp 52)) 42,
 So 54 (.call ⟨.value (.func 173), #[.tmp 48, .tmp 53], #[42, 42]⟩) 4,
 So 55 (.unOp .not 4 (.tmp 54)) 4] [false, false, false, false, false, false, false, false] [2, 3, 41, 42, 43, 55])
 (.cond (.tmp 55)
 (.seq (.ops [So 4 (.assign (.const (.bool false))) 4] [4])
 (.ret))
 (.skip)))))
 (.ops [So 56 (.binOp .add 3 (.tmp 43) (.const (.int .i64 1)) 3) 3,
 So 43 (.move (.tmp 56)) 3] [2, 3, 41, 42, 43])))))))
 (.seq (.seq (.ops [So 57 (.fieldAddr 34 (.tmp 2) 3) 0,
 So 58 (.load 32 (.tmp 57)) 32,
 So 59 (.call ⟨.builtin .len, #[.tmp 58], #[32]⟩) 3,
 So 60 (.move (.const (.int .i64 0))) 3] [3, 58, 59, 60])
 (.block 2
 (.loop
 (.seq (.ops [So 61 (.binOp .lss 3 (.tmp 60) (.tmp 59) 3) 0] [3, 58, 59, 60, 61])
 (.seq (.cond (.tmp 61)
 (.skip)
 (.exit 2))
 (.seq (.block 3
 (.seq (.ops [So 62 (.move (.tmp 60)) 3,
 So 63 (.indexAddr 32 (.tmp 58) (.tmp 60)) 0,
 So 64 (.load 34 (.tmp 63)) 34,
 So 8 (.alloc 34) 0,
 So 7 (.assign (.tmp 62)) 3,
 Sn (.store 34 (.tmp 8) (.tmp 64)) 0] [3, 7, 8, 58, 59, 60])
 (.seq (.draw [So 65 (.load 34 (.tmp 8)) 34,
 So 66 (.fieldAddr 34 (.tmp 3) 3) 0,
 So 67 (.load 32 (.tmp 66)) 32,
 So 68 (.move (.tmp 7)) 3,
 So 69 (.indexAddr 32 (.tmp 67) (.tmp 68)) 0,
 So 70 (.load 34 (.tmp 69)) 34,
 So 71 (.call ⟨.value (.func 169), #[.tmp 65, .tmp 70], #[34, 34]⟩) 4,
 So 72 (.unOp .not 4 (.tmp 71)) 4] [false, false, false, false, false, false, false, false] [3, 58, 59, 60, 72])
 (.cond (.tmp 72)
 (.seq (.ops [So 4 (.assign (.const (.bool false))) 4] [4])
 (.ret))
 (.skip)))))
 (.ops [So 73 (.binOp .add 3 (.tmp 60) (.const (.int .i64 1)) 3) 3,
 So 60 (.move (.tmp 73)) 3] [3, 58, 59, 60])))))))
 (.seq (.ops [So 4 (.assign (.const (.bool true))) 4] [4])
 (.ret)))))
theorem w169 : CW 169 s169 [.tmp 4] := fun hr h => callsV_of_p follows cfgT a169 (fn := Tryz.f169) (c := Tryz.f169.body.getD .skip) (by kernel_rfl) (by kernel_rfl) (by kernel_rfl) (by kernel_rfl) (by kernel_rfl) (sc := s169) (by kernel_rfl) [.tmp 4] (by kernel_rfl) hr h
def a174 : List Ann := [⟨[2, 3, 4], [], []⟩,
 ⟨[4], [], []⟩]
def s174 : SC := .seq (.ops [So 2 (.box 42 (.tmp 0)) 0,
 So 3 (.box 42 (.tmp 1)) 0,
 So 4 (.alloc 34) 0] [2, 3, 4])
 (.seq (.ops [So 5 (.load 42 (.tmp 2)) 42,
 So 6 (.load 42 (.tmp 3)) 42,
 So 7 (.buildSlice 31 2 #[(0, .tmp 5), (1, .tmp 6)]) 31,
 So 8 (.build 34 #[(0, .const (.int .i64 1)), (2, .tmp 7)]) 34,
 Sn (.store 34 (.tmp 4) (.tmp 8)) 0] [4])
 (.ret))
theorem w174 : CW 174 s174 [.cell 4 34] := fun hr h => callsV_of_p follows cfgT a174 (fn := Tryz.f174) (c := Tryz.f174.body.getD .skip) (by kernel_rfl) (by kernel_rfl) (by kernel_rfl) (by kernel_rfl) (by kernel_rfl) (sc := s174) (by kernel_rfl) [.cell 4 34] (by kernel_rfl) hr h
def a177 : List Ann := [⟨[0, 1, 4], [], []⟩,
 ⟨[4], [], []⟩]
def s177 : SC := .seq (.ops [So 4 (.alloc 42) 0] [0, 1, 4])
 (.seq (.ops [So 5 (.move (.tmp 0)) 3,
 So 6 (.move (.tmp 1)) 31,
 So 7 (.build 42 #[(0, .tmp 5), (3, .tmp 6)]) 42,
 Sn (.store 42 (.tmp 4) (.tmp 7)) 0] [4])
 (.ret))
theorem w177 : CW 177 s177 [.cell 4 42] := fun hr h => callsV_of_p follows cfgT a177 (fn := Tryz.f177) (c := Tryz.f177.body.getD .skip) (by kernel_rfl) (by kernel_rfl) (by kernel_rfl) (by kernel_rfl) (by kernel_rfl) (sc := s177) (by kernel_rfl) [.cell 4 42] (by kernel_rfl) hr h
def a175 : List Ann := [⟨[1, 2, 4], [], []⟩,
 ⟨[2, 4, 7, 8, 9], [], []⟩,
 ⟨[2, 4, 7, 8, 9, 10], [], []⟩,
 ⟨[2, 4, 6, 7, 8, 9], [], []⟩,
 ⟨[2, 4, 7, 8, 9], [], []⟩,
 ⟨[2, 4, 7, 8, 9], [], []⟩,
 ⟨[4], [], []⟩]
def s175 : SC := .seq (.ops [So 2 (.box 42 (.tmp 0)) 0,
 So 4 (.alloc 42) 0] [1, 2, 4])
 (.seq (.seq (.ops [So 7 (.move (.tmp 1)) 31,
 So 8 (.call ⟨.builtin .len, #[.tmp 7], #[31]⟩) 3,
 So 9 (.move (.const (.int .i64 0))) 3] [2, 4, 7, 8, 9])
 (.block 0
 (.loop
 (.seq (.ops [So 10 (.binOp .lss 3 (.tmp 9) (.tmp 8) 3) 0] [2, 4, 7, 8, 9, 10])
 (.seq (.cond (.tmp 10)
 (.skip)
 (.exit 0))
 (.seq (.block 1
 (.seq (.ops [So 11 (.indexAddr 31 (.tmp 7) (.tmp 9)) 0,
 So 12 (.load 42 (.tmp 11)) 42,
 So 6 (.alloc 42) 0,
 Sn (.store 42 (.tmp 6) (.tmp 12)) 0] [2, 4, 6, 7, 8, 9])
 (.ops [So 13 (.load 42 (.tmp 2)) 42,
 So 14 (.load 42 (.tmp 6)) 42,
 So 15 (.buildSlice 31 2 #[(0, .tmp 13), (1, .tmp 14)]) 31,
 So 16 (.call ⟨.value (.func 177), #[.const (.int .i64 3), .tmp 15], #[3, 31]⟩) 42,
 Sn (.store 42 (.tmp 2) (.tmp 16)) 0] [2, 4, 7, 8, 9])))
 (.ops [So 17 (.binOp .add 3 (.tmp 9) (.const (.int .i64 1)) 3) 3,
 So 9 (.move (.tmp 17)) 3] [2, 4, 7, 8, 9])))))))
 (.seq (.ops [So 18 (.load 42 (.tmp 2)) 42,
 Sn (.store 42 (.tmp 4) (.tmp 18)) 0] [4])
 (.ret)))
theorem w175 : CW 175 s175 [.cell 4 42] := fun hr h => callsV_of_p follows cfgT a175 (fn := Tryz.f175) (c := Tryz.f175.body.getD .skip) (by kernel_rfl) (by kernel_rfl) (by kernel_rfl) (by kernel_rfl) (by kernel_rfl) (sc := s175) (by kernel_rfl) [.cell 4 42] (by kernel_rfl) hr h
def a181 : List Ann := [⟨[1, 2, 4], [], []⟩,
 ⟨[1, 2, 4, 5], [], []⟩,
 ⟨[1, 2, 4, 5, 10], [], []⟩,
 ⟨[1, 2, 4, 5], [], []⟩,
 ⟨[1, 2, 4, 5], [0, 0, 3, 7, 0, 16, 63, 127], [false, false, false, false, false, false, false, false]⟩,
 ⟨[4], [], []⟩]
def s181 : SC := .seq (.ops [So 2 (.box 42 (.tmp 0)) 0,
 So 4 (.alloc 42) 0] [1, 2, 4])
 (.seq (.seq (.ops [So 6 (.move (.tmp 1)) 27,
 So 7 (.call ⟨.builtin .len, #[.tmp 6], #[27]⟩) 3,
 So 8 (.binOp .sub 3 (.tmp 7) (.const (.int .i64 1)) 3) 3,
 So 5 (.assign (.tmp 8)) 3] [1, 2, 4, 5])
 (.block 0
 (.loop
 (.seq (.seq (.ops [So 9 (.move (.tmp 5)) 3,
 So 10 (.binOp .geq 3 (.tmp 9) (.const (.int .i64 0)) 3) 4] [1, 2, 4, 5, 10])
 (.cond (.tmp 10)
 (.skip)
 (.exit 0)))
 (.seq (.block 1
 (.draw [So 13 (.move (.tmp 1)) 27,
 So 14 (.move (.tmp 5)) 3,
 So 15 (.indexAddr 27 (.tmp 13) (.tmp 14)) 0,
 So 16 (.load 30 (.tmp 15)) 30,
 So 17 (.load 42 (.tmp 2)) 42,
 So 18 (.buildSlice 31 1 #[(0, .tmp 17)]) 31,
 So 19 (.build 42 #[(0, .const (.int .i64 2)), (2, .tmp 16), (3, .tmp 18)]) 42,
 Sn (.store 42 (.tmp 2) (.tmp 19)) 0] [false, false, false, false, false, false, false, false] [1, 2, 4, 5]))
 (.ops [So 11 (.move (.tmp 5)) 3,
 So 12 (.binOp .sub 3 (.tmp 11) (.const (.int .i64 1)) 3) 3,
 So 5 (.assign (.tmp 12)) 3] [1, 2, 4, 5]))))))
 (.seq (.ops [So 20 (.load 42 (.tmp 2)) 42,
 Sn (.store 42 (.tmp 4) (.tmp 20)) 0] [4])
 (.ret)))
theorem w181 : CW 181 s181 [.cell 4 42] := fun hr h => callsV_of_p follows cfgT a181 (fn := Tryz.f181) (c := Tryz.f181.body.getD .skip) (by kernel_rfl) (by kernel_rfl) (by kernel_rfl) (by kernel_rfl) (by kernel_rfl) (sc := s181) (by kernel_rfl) [.cell 4 42] (by kernel_rfl) hr h
def a182 : List Ann := [⟨[0], [], []⟩,
 ⟨[0], [], []⟩]
def s182 : SC := .seq (.ops [So 0 (.alloc 30) 0] [0])
 (.seq (.ops [So 1 (.build 30 #[(0, .const (.int .i64 1))]) 30,
 Sn (.store 30 (.tmp 0) (.tmp 1)) 0] [0])
 (.ret))
theorem w182 : CW 182 s182 [.cell 0 30] := fun hr h => callsV_of_p follows cfgT a182 (fn := Tryz.f182) (c := Tryz.f182.body.getD .skip) (by kernel_rfl) (by kernel_rfl) (by kernel_rfl) (by kernel_rfl) (by kernel_rfl) (sc := s182) (by kernel_rfl) [.cell 0 30] (by kernel_rfl) hr h
def a178 : List Ann := [⟨[1, 2], [], []⟩,
 ⟨[2], [0, 0, 2, 6, 15, 31], [true, true, true, false, false, false]⟩]
def s178 : SC := .seq (.ops [So 1 (.box 42 (.tmp 0)) 0,
 So 2 (.alloc 42) 0] [1, 2])
 (.seq (.draw [So 3 (.load 42 (.tmp 1)) 42,
 So 4 (.call ⟨.value (.func 182), #[], #[]⟩) 30,
 So 5 (.call ⟨.value (.func 182), #[], #[]⟩) 30,
 So 6 (.buildSlice 27 2 #[(0, .tmp 4), (1, .tmp 5)]) 27,
 So 7 (.call ⟨.value (.func 181), #[.tmp 3, .tmp 6], #[42, 27]⟩) 42,
 Sn (.store 42 (.tmp 2) (.tmp 7)) 0] [true, true, true, false, false, false] [2])
 (.ret))
theorem w178 : CW 178 s178 [.cell 2 42] := fun hr h => callsV_of_p follows cfgT a178 (fn := Tryz.f178) (c := Tryz.f178.body.getD .skip) (by kernel_rfl) (by kernel_rfl) (by kernel_rfl) (by kernel_rfl) (by kernel_rfl) (sc := s178) (by kernel_rfl) [.cell 2 42] (by kernel_rfl) hr h
def a183 : List Ann := [⟨[0, 6, 7, 8, 9, 10], [], []⟩,
 ⟨[10], [], []⟩]
def s183 : SC := .seq (.ops [So 6 (.box 30 (.tmp 1)) 0,
 So 7 (.box 42 (.tmp 2)) 0,
 So 8 (.box 42 (.tmp 3)) 0,
 So 9 (.box 42 (.tmp 4)) 0,
 So 10 (.alloc 42) 0] [0, 6, 7, 8, 9, 10])
 (.seq (.ops [So 11 (.move (.tmp 0)) 3,
 So 12 (.load 30 (.tmp 6)) 30,
 So 13 (.load 42 (.tmp 7)) 42,
 So 14 (.load 42 (.tmp 8)) 42,
 So 15 (.load 42 (.tmp 9)) 42,
 So 16 (.buildSlice 31 3 #[(0, .tmp 13), (1, .tmp 14), (2, .tmp 15)]) 31,
 So 17 (.build 42 #[(0, .tmp 11), (2, .tmp 12), (3, .tmp 16)]) 42,
 Sn (.store 42 (.tmp 10) (.tmp 17)) 0] [10])
 (.ret))
theorem w183 : CW 183 s183 [.cell 10 42] := fun hr h => callsV_of_p follows cfgT a183 (fn := Tryz.f183) (c := Tryz.f183.body.getD .skip) (by kernel_rfl) (by kernel_rfl) (by kernel_rfl) (by kernel_rfl) (by kernel_rfl) (sc := s183) (by kernel_rfl) [.cell 10 42] (by kernel_rfl) hr h
def a179 : List Ann := [⟨[3, 4, 5, 6], [], []⟩,
 ⟨[6], [0, 0, 0, 1, 9, 25, 61, 0, 255, 511], [true, true, true, true, true, false, true, true, false, false]⟩]
def s179 : SC := .seq (.ops [So 3 (.box 42 (.tmp 0)) 0,
 So 4 (.box 42 (.tmp 1)) 0,
 So 5 (.box 42 (.tmp 2)) 0,
 So 6 (.alloc 42) 0] [3, 4, 5, 6])
 (.seq (.draw [So 7 (.call ⟨.value (.func 182), #[], #[]⟩) 30,
 So 8 (.load 42 (.tmp 3)) 42,
 So 9 (.load 42 (.tmp 4)) 42,
 So 10 (.call ⟨.value (.func 182), #[], #[]⟩) 30,
 So 11 (.call ⟨.value (.func 182), #[], #[]⟩) 30,
 So 12 (.buildSlice 27 2 #[(0, .tmp 10), (1, .tmp 11)]) 27,
 So 13 (.call ⟨.value (.func 181), #[.tmp 9, .tmp 12], #[42, 27]⟩) 42,
 So 14 (.load 42 (.tmp 5)) 42,
 So 15 (.call ⟨.value (.func 183), #[.const (.int .i64 6), .tmp 7, .tmp 8, .tmp 13, .tmp 14], #[3, 30, 42, 42, 42]⟩) 42,
 Sn (.store 42 (.tmp 6) (.tmp 15)) 0] [true, true, true, true, true, false, true, true, false, false] [6])
 (.ret))
theorem w179 : CW 179 s179 [.cell 6 42] := fun hr h => callsV_of_p follows cfgT a179 (fn := Tryz.f179) (c := Tryz.f179.body.getD .skip) (by kernel_rfl) (by kernel_rfl) (by kernel_rfl) (by kernel_rfl) (by kernel_rfl) (sc := s179) (by kernel_rfl) [.cell 6 42] (by kernel_rfl) hr h
def a180 : List Ann := [⟨[0], [], []⟩,
 ⟨[0], [], []⟩]
def s180 : SC := .seq (.ops [So 0 (.alloc 42) 0] [0])
 (.seq (.ops [So 1 (.call ⟨.value (.func 177), #[.const (.int .i64 4), .const (.slice none 0 0)], #[3, 31]⟩) 42,
 So 2 (.call ⟨.value (.func 161), #[.const (.int .i64 1)], #[3]⟩) 42,
 So 3 (.call ⟨.value (.func 161), #[.const (.int .i64 0)], #[3]⟩) 42,
 So 4 (.call ⟨.value (.func 179), #[.tmp 1, .tmp 2, .tmp 3], #[42, 42, 42]⟩) 42,
 So 5 (.call ⟨.value (.func 182), #[], #[]⟩) 30,
 So 6 (.buildSlice 27 1 #[(0, .tmp 5)]) 27,
 So 7 (.call ⟨.value (.func 181), #[.tmp 4, .tmp 6], #[42, 27]⟩) 42,
 Sn (.store 42 (.tmp 0) (.tmp 7)) 0] [0])
 (.ret))
theorem w180 : CW 180 s180 [.cell 0 42] := fun hr h => callsV_of_p follows cfgT a180 (fn := Tryz.f180) (c := Tryz.f180.body.getD .skip) (by kernel_rfl) (by kernel_rfl) (by kernel_rfl) (by kernel_rfl) (by kernel_rfl) (sc := s180) (by kernel_rfl) [.cell 0 42] (by kernel_rfl) hr h
def a176 : List Ann := [⟨[0], [], []⟩,
 ⟨[0], [], []⟩]
def s176 : SC := .seq (.ops [So 0 (.alloc 42) 0] [0])
 (.seq (.ops [So 1 (.call ⟨.value (.func 161), #[.const (.int .i64 1)], #[3]⟩) 42,
 So 2 (.call ⟨.value (.func 180), #[], #[]⟩) 42,
 So 3 (.call ⟨.value (.func 161), #[.const (.int .i64 0)], #[3]⟩) 42,
 So 4 (.buildSlice 31 1 #[(0, .tmp 3)]) 31,
 So 5 (.call ⟨.value (.func 175), #[.tmp 2, .tmp 4], #[42, 31]⟩) 42,
 So 6 (.call ⟨.value (.func 161), #[.const (.int .i64 0)], #[3]⟩) 42,
 So 7 (.call ⟨.value (.func 179), #[.tmp 1, .tmp 5, .tmp 6], #[42, 42, 42]⟩) 42,
 So 8 (.call ⟨.value (.func 178), #[.tmp 7], #[42]⟩) 42,
 Sn (.store 42 (.tmp 0) (.tmp 8)) 0] [0])
 (.ret))
theorem w176 : CW 176 s176 [.cell 0 42] := fun hr h => callsV_of_p follows cfgT a176 (fn := Tryz.f176) (c := Tryz.f176.body.getD .skip) (by kernel_rfl) (by kernel_rfl) (by kernel_rfl) (by kernel_rfl) (by kernel_rfl) (sc := s176) (by kernel_rfl) [.cell 0 42] (by kernel_rfl) hr h
def a170 : List Ann := [⟨[2, 3, 4], [], []⟩,
 ⟨[4], [0, 0, 2, 7, 0, 31, 63, 127, 255, 511], [true, true, false, true, true, false, false, false, false, false]⟩]
def s170 : SC := .seq (.ops [So 2 (.box 42 (.tmp 0)) 0,
 So 3 (.box 42 (.tmp 1)) 0,
 So 4 (.alloc 34) 0] [2, 3, 4])
 (.seq (.draw [So 5 (.call ⟨.value (.func 176), #[], #[]⟩) 42,
 So 6 (.load 42 (.tmp 2)) 42,
 So 7 (.buildSlice 31 1 #[(0, .tmp 6)]) 31,
 So 8 (.call ⟨.value (.func 177), #[.const (.int .i64 5), .tmp 7], #[3, 31]⟩) 42,
 So 9 (.load 42 (.tmp 3)) 42,
 So 10 (.buildSlice 31 2 #[(0, .tmp 8), (1, .tmp 9)]) 31,
 So 11 (.call ⟨.value (.func 175), #[.tmp 5, .tmp 10], #[42, 31]⟩) 42,
 So 12 (.call ⟨.value (.func 177), #[.const (.int .i64 4), .const (.slice none 0 0)], #[3, 31]⟩) 42,
 So 13 (.call ⟨.value (.func 174), #[.tmp 11, .tmp 12], #[42, 42]⟩) 34,
 Sn (.store 34 (.tmp 4) (.tmp 13)) 0] [true, true, false, true, true, false, false, false, false, false] [4])
 (.ret))
theorem w170 : CW 170 s170 [.cell 4 34] := fun hr h => callsV_of_p follows cfgT a170 (fn := Tryz.f170) (c := Tryz.f170.body.getD .skip) (by kernel_rfl) (by kernel_rfl) (by kernel_rfl) (by kernel_rfl) (by kernel_rfl) (sc := s170) (by kernel_rfl) [.cell 4 34] (by kernel_rfl) hr h
def a163 : List Ann := [⟨[1, 3, 4], [], []⟩,
 ⟨[1, 3, 4, 6], [], []⟩,
 ⟨[1, 3, 4, 6, 7, 8], [], []⟩,
 ⟨[1, 3, 4, 6, 48], [], []⟩,
 ⟨[2, 3, 4, 5], [], []⟩,
 ⟨[1, 3, 4, 6, 9], [], []⟩,
 ⟨[1, 3, 4, 6, 9, 10], [], []⟩,
 ⟨[1, 3, 4, 6, 10, 83], [0, 1, 3, 7, 15, 31, 63, 127, 255, 511, 1023, 2047, 4095, 4095, 4095, 20479, 53247, 118783, 258047, 524287, 1048575, 2097151], [false, false, false, false, false, false, false, false, false, false, false, false, true, true, false, true, false, true, true, false, false, false]⟩,
 ⟨[2, 3, 4, 5], [], []⟩,
 ⟨[2, 3, 4, 5], [0, 0, 2, 6, 14, 0, 32, 96, 224, 480, 992, 2016, 1, 4127, 16383, 32767], [false, false, false, false, false, false, true, false, false, true, false, true, false, true, false, false]⟩]
def s163 : SC := .seq (.ops [So 1 (.box 34 (.tmp 0)) 0,
 So 2 (.assign (.const (.bool false))) 4,
 So 3 (.alloc 42) 0,
 So 4 (.alloc 34) 0,
 So 5 (.assign (.const (.bool false))) 4] [1, 3, 4])
 (.seq (.ops [So 11 (.fieldAddr 34 (.tmp 1) 0) 0,
 So 12 (.load 3 (.tmp 11)) 3,
 So 13 (.binOp .eql 3 (.tmp 12) (.const (.int .i64 4)) 3) 4,
 So 6 (.assign (.tmp 13)) 4] [1, 3, 4, 6])
 (.seq (.ops [So 15 (.move (.tmp 6)) 4,
 So 16 (.call ⟨.value (.func 167), #[.tmp 15], #[4]⟩) 149,
 So 14 (.move (.tmp 16)) 149,
 So 17 (.extract (.tmp 14) 0) 3,
 So 18 (.extract (.tmp 14) 1) 3,
 So 7 (.assign (.tmp 17)) 3,
 So 8 (.assign (.tmp 18)) 3] [1, 3, 4, 6, 7, 8])
 (.seq (.seq (.ops [So 19 (.fieldAddr 34 (.tmp 1) 0) 0,
 So 20 (.load 3 (.tmp 19)) 3,
 So 21 (.move (.tmp 7)) 3,
 So 22 (.binOp .neq 3 (.tmp 20) (.tmp 21) 3) 4,
 So 23 (.move (.tmp 22)) 4,
 Sg 24 (.fieldAddr 34 (.tmp 1) 1) 0 23 false,
 Sg 25 (.fieldAddr 30 (.tmp 24) 0) 0 23 false,
 Sg 26 (.load 3 (.tmp 25)) 3 23 false,
 Sg 27 (.binOp .neq 3 (.tmp 26) (.const (.int .i64 1)) 3) 4 23 false,
 So 28 (.pick (.tmp 23) (.const (.bool true)) (.tmp 27)) 4,
 So 29 (.move (.tmp 28)) 4,
 Sg 30 (.fieldAddr 34 (.tmp 1) 3) 0 29 false,
 Sg 31 (.load 32 (.tmp 30)) 32 29 false,
 Sg 32 (.indexAddr 32 (.tmp 31) (.const (.int .i64 0))) 0 29 false,
 Sg 33 (.fieldAddr 34 (.tmp 32) 0) 0 29 false,
 Sg 34 (.load 3 (.tmp 33)) 3 29 false,
 Sg 35 (.move (.tmp 8)) 3 29 false,
 Sg 36 (.binOp .neq 3 (.tmp 34) (.tmp 35) 3) 4 29 false,
 So 37 (.pick (.tmp 29) (.const (.bool true)) (.tmp 36)) 4,
 So 38 (.move (.tmp 37)) 4,
 Sg 39 (.fieldAddr 34 (.tmp 1) 3) 0 38 false,
 Sg 40 (.load 32 (.tmp 39)) 32 38 false,
 Sg 41 (.indexAddr 32 (.tmp 40) (.const (.int .i64 0))) 0 38 false,
 Sg 42 (.fieldAddr 34 (.tmp 41) 3) 0 38 false,
 Sg 43 (.load 32 (.tmp 42)) 32 38 false,
 Sg 44 (.indexAddr 32 (.tmp 43) (.const (.int .i64 0))) 0 38 false,
 Sg 45 (.fieldAddr 34 (.tmp 44) 0) 0 38 false,
 Sg 46 (.load 3 (.tmp 45)) 3 38 false,
 Sg 47 (.binOp .neq 3 (.tmp 46) (.const (.int .i64 1)) 3) 4 38 false,
 So 48 (.pick (.tmp 38) (.const (.bool true)) (.tmp 47)) 4] [1, 3, 4, 6, 48])
 (.cond (.tmp 48)
 (.seq (.ops [So 49 (.build 42 #[]) 42,
 So 50 (.build 34 #[]) 34,
 So 2 (.assign (.const (.bool false))) 4,
 Sn (.store 42 (.tmp 3) (.tmp 49)) 0,
 Sn (.store 34 (.tmp 4) (.tmp 50)) 0,
 So 5 (.assign (.const (.bool false))) 4] [2, 3, 4, 5])
 (.ret))
 (.skip)))
 (.seq (.ops [So 51 (.fieldAddr 34 (.tmp 1) 3) 0,
 So 52 (.load 32 (.tmp 51)) 32,
 So 53 (.indexAddr 32 (.tmp 52) (.const (.int .i64 0))) 0,
 So 54 (.fieldAddr 34 (.tmp 53) 3) 0,
 So 55 (.load 32 (.tmp 54)) 32,
 So 56 (.indexAddr 32 (.tmp 55) (.const (.int .i64 0))) 0,
 So 57 (.load 34 (.tmp 56)) 34,
 So 9 (.alloc 34) 0,
 Sn (.store 34 (.tmp 9) (.tmp 57)) 0] [1, 3, 4, 6, 9])
 (.seq (.ops [So 58 (.fieldAddr 34 (.tmp 9) 2) 0,
 So 59 (.load 31 (.tmp 58)) 31,
 So 60 (.indexAddr 31 (.tmp 59) (.const (.int .i64 0))) 0,
 So 61 (.load 42 (.tmp 60)) 42,
 So 10 (.alloc 42) 0,
 Sn (.store 42 (.tmp 10) (.tmp 61)) 0] [1, 3, 4, 6, 9, 10])
 (.seq (.seq (.draw [So 62 (.fieldAddr 42 (.tmp 10) 0) 0,
 So 63 (.load 3 (.tmp 62)) 3,
 So 64 (.binOp .neq 3 (.tmp 63) (.const (.int .i64 3)) 3) 4,
 So 65 (.move (.tmp 64)) 4,
 Sg 66 (.fieldAddr 42 (.tmp 10) 3) 0 65 false,
 Sg 67 (.load 31 (.tmp 66)) 31 65 false,
 Sg 68 (.indexAddr 31 (.tmp 67) (.const (.int .i64 1))) 0 65 false,
 Sg 69 (.load 42 (.tmp 68)) 42 65 false,
 Sg 70 (.call ⟨.value (.func 168), #[.tmp 69, .const (.int .i64 0)], #[42, 3]⟩) 3 65 false,
 Sg 71 (.binOp .gtr 3 (.tmp 70) (.const (.int .i64 0)) 3) 4 65 false,
 So 72 (.pick (.tmp 65) (.const (.bool true)) (.tmp 71)) 4,
 So 73 (.move (.tmp 72)) 4,
 Sg 74 (.load 34 (.tmp 9)) 34 73 false,
 Sg 75 (.call ⟨.value (.func 161), #[.const (.int .i64 0)], #[3]⟩) 42 73 false,
 Sg 76 (.fieldAddr 42 (.tmp 10) 3) 0 73 false,
 Sg 77 (.load 31 (.tmp 76)) 31 73 false,
 Sg 78 (.indexAddr 31 (.tmp 77) (.const (.int .i64 1))) 0 73 false,
 Sg 79 (.load 42 (.tmp 78)) 42 73 false,
 Sg 80 (.call ⟨.value (.func 170), #[.tmp 75, .tmp 79], #[42, 42]⟩) 34 73 false,
 Sg 81 (.call ⟨.value (.func 169), #[.tmp 74, .tmp 80], #[34, 34]⟩) 4 73 false,
 Sg 82 (.unOp .not 4 (.tmp 81)) 4 73 false,
 So 83 (.pick (.tmp 73) (.const (.bool true)) (.tmp 82)) 4] [false, false, false, false, false, false, false, false, false, false, false, false, true, true, false, true, false, true, true, false, false, false] [1, 3, 4, 6, 10, 83])
 (.cond (.tmp 83)
 (.seq (.ops [So 84 (.build 42 #[]) 42,
 So 85 (.build 34 #[]) 34,
 So 2 (.assign (.const (.bool false))) 4,
 Sn (.store 42 (.tmp 3) (.tmp 84)) 0,
 Sn (.store 34 (.tmp 4) (.tmp 85)) 0,
 So 5 (.assign (.const (.bool false))) 4] [2, 3, 4, 5])
 (.ret))
 (.skip)))
 (.seq (.draw [So 86 (.move (.tmp 6)) 4,
 So 87 (.fieldAddr 42 (.tmp 10) 3) 0,
 So 88 (.load 31 (.tmp 87)) 31,
 So 89 (.indexAddr 31 (.tmp 88) (.const (.int .i64 1))) 0,
 So 90 (.load 42 (.tmp 89)) 42,
 So 91 (.fieldAddr 34 (.tmp 1) 3) 0,
 So 92 (.load 32 (.tmp 91)) 32,
 So 93 (.indexAddr 32 (.tmp 92) (.const (.int .i64 0))) 0,
 So 94 (.fieldAddr 34 (.tmp 93) 3) 0,
 So 95 (.load 32 (.tmp 94)) 32,
 So 96 (.indexAddr 32 (.tmp 95) (.const (.int .i64 1))) 0,
 So 97 (.load 34 (.tmp 96)) 34,
 So 2 (.assign (.tmp 86)) 4,
 Sn (.store 42 (.tmp 3) (.tmp 90)) 0,
 Sn (.store 34 (.tmp 4) (.tmp 97)) 0,
 So 5 (.assign (.const (.bool true))) 4] [false, false, false, false, false, false, true, false, false, true, false, true, false, true, false, false] [2, 3, 4, 5])
 (.ret))))))))
theorem w163 : CW 163 s163 [.tmp 2, .cell 3 42, .cell 4 34, .tmp 5] := fun hr h => callsV_of_p follows cfgT a163 (fn := Tryz.f163) (c := Tryz.f163.body.getD .skip) (by kernel_rfl) (by kernel_rfl) (by kernel_rfl) (by kernel_rfl) (by kernel_rfl) (sc := s163) (by kernel_rfl) [.tmp 2, .cell 3 42, .cell 4 34, .tmp 5] (by kernel_rfl) hr h
def a146 : List Ann := [⟨[1], [], []⟩,
 ⟨[1, 13], [], []⟩,
 ⟨[2], [], []⟩,
 ⟨[1, 3], [], []⟩,
 ⟨[1, 3, 24], [], []⟩,
 ⟨[1, 3, 24, 25], [], []⟩,
 ⟨[1, 3, 24, 25], [], []⟩,
 ⟨[1, 3, 4], [], []⟩,
 ⟨[1, 3, 4, 5], [], []⟩,
 ⟨[3, 4, 5, 39], [], []⟩,
 ⟨[3, 5], [], []⟩,
 ⟨[2], [], []⟩,
 ⟨[1, 3, 47], [], []⟩,
 ⟨[1, 3], [], []⟩,
 ⟨[1, 6], [], []⟩,
 ⟨[6, 9, 10], [], []⟩,
 ⟨[6, 9, 60], [], []⟩,
 ⟨[6], [], []⟩,
 ⟨[2], [], []⟩]
def s146 : SC := .seq (.ops [So 1 (.box 34 (.tmp 0)) 0,
 So 2 (.assign (.const (.int .u8 0))) 126] [1])
 (.seq (.seq (.ops [So 11 (.fieldAddr 34 (.tmp 1) 0) 0,
 So 12 (.load 3 (.tmp 11)) 3,
 So 13 (.binOp .eql 3 (.tmp 12) (.const (.int .i64 1)) 3) 4] [1, 13])
 (.cond (.tmp 13)
 (.seq (.ops [So 2 (.assign (.const (.int .u8 6))) 126] [2])
 (.ret))
 (.skip)))
 (.seq (.ops [So 14 (.fieldAddr 34 (.tmp 1) 3) 0,
 So 15 (.load 32 (.tmp 14)) 32,
 So 16 (.fieldAddr 34 (.tmp 1) 3) 0,
 So 17 (.load 32 (.tmp 16)) 32,
 So 18 (.call ⟨.builtin .len, #[.tmp 17], #[32]⟩) 3,
 So 19 (.binOp .sub 3 (.tmp 18) (.const (.int .i64 1)) 3) 3,
 So 20 (.indexAddr 32 (.tmp 15) (.tmp 19)) 0,
 So 21 (.load 34 (.tmp 20)) 34,
 So 22 (.call ⟨.value (.func 146), #[.tmp 21], #[34]⟩) 126,
 So 3 (.assign (.tmp 22)) 126] [1, 3])
 (.seq (.seq (.ops [So 23 (.fieldAddr 34 (.tmp 1) 0) 0,
 So 24 (.load 3 (.tmp 23)) 3] [1, 3, 24])
 (.block 0
 (.seq (.seq (.ops [So 26 (.binOp .eql 3 (.tmp 24) (.const (.int .i64 2)) 3) 4,
 So 25 (.assign (.tmp 26)) 4] [1, 3, 24, 25])
 (.cond (.tmp 25)
 (.skip)
 (.ops [So 27 (.binOp .eql 3 (.tmp 24) (.const (.int .i64 3)) 3) 4,
 So 25 (.assign (.tmp 27)) 4] [1, 3, 24, 25])))
 (.cond (.tmp 25)
 (.seq (.ops [So 28 (.fieldAddr 34 (.tmp 1) 3) 0,
 So 29 (.load 32 (.tmp 28)) 32,
 So 30 (.indexAddr 32 (.tmp 29) (.const (.int .i64 0))) 0,
 So 31 (.load 34 (.tmp 30)) 34,
 So 32 (.call ⟨.value (.func 146), #[.tmp 31], #[34]⟩) 126,
 So 4 (.assign (.tmp 32)) 126] [1, 3, 4])
 (.seq (.ops [So 33 (.move (.tmp 4)) 126,
 So 34 (.move (.tmp 3)) 126,
 So 35 (.binOp .and 126 (.tmp 33) (.tmp 34) 126) 126,
 So 36 (.binOp .and 126 (.tmp 35) (.const (.int .u8 6)) 126) 126,
 So 5 (.assign (.tmp 36)) 126] [1, 3, 4, 5])
 (.seq (.seq (.ops [So 37 (.fieldAddr 34 (.tmp 1) 0) 0,
 So 38 (.load 3 (.tmp 37)) 3,
 So 39 (.binOp .eql 3 (.tmp 38) (.const (.int .i64 2)) 3) 4] [3, 4, 5, 39])
 (.cond (.tmp 39)
 (.ops [So 40 (.move (.tmp 3)) 126,
 So 41 (.move (.tmp 4)) 126,
 So 42 (.binOp .or 126 (.tmp 40) (.tmp 41) 126) 126,
 So 3 (.assign (.tmp 42)) 126] [3, 5])
 (.skip)))
 (.seq (.ops [So 43 (.move (.tmp 5)) 126,
 So 44 (.move (.tmp 3)) 126,
 So 45 (.binOp .and 126 (.tmp 44) (.const (.int .u8 1)) 126) 126,
 So 46 (.binOp .or 126 (.tmp 43) (.tmp 45) 126) 126,
 So 2 (.assign (.tmp 46)) 126] [2])
 (.ret)))))
 (.seq (.ops [So 48 (.binOp .eql 3 (.tmp 24) (.const (.int .i64 5)) 3) 4,
 So 47 (.assign (.tmp 48)) 4] [1, 3, 47])
 (.cond (.tmp 47)
 (.ops [So 49 (.move (.tmp 3)) 126,
 So 50 (.binOp .or 126 (.tmp 49) (.const (.int .u8 1)) 126) 126,
 So 3 (.assign (.tmp 50)) 126] [1, 3])
 (.skip)))))))
 (.seq (.ops [So 51 (.move (.tmp 3)) 126,
 So 52 (.binOp .and 126 (.tmp 51) (.const (.int .u8 1)) 126) 126,
 So 6 (.assign (.tmp 52)) 126] [1, 6])
 (.seq (.seq (.ops [So 54 (.load 34 (.tmp 1)) 34,
 So 55 (.call ⟨.value (.func 163), #[.tmp 54], #[34]⟩) 145,
 So 53 (.move (.tmp 55)) 145,
 So 56 (.extract (.tmp 53) 0) 4,
 So 57 (.extract (.tmp 53) 1) 42,
 So 58 (.extract (.tmp 53) 2) 34,
 So 59 (.extract (.tmp 53) 3) 4,
 So 8 (.alloc 42) 0,
 So 9 (.alloc 34) 0,
 So 7 (.assign (.tmp 56)) 4,
 Sn (.store 42 (.tmp 8) (.tmp 57)) 0,
 Sn (.store 34 (.tmp 9) (.tmp 58)) 0,
 So 10 (.assign (.tmp 59)) 4] [6, 9, 10])
 (.seq (.ops [So 60 (.move (.tmp 10)) 4] [6, 9, 60])
 (.cond (.tmp 60)
 (.ops [So 61 (.move (.tmp 6)) 126,
 So 62 (.load 34 (.tmp 9)) 34,
 So 63 (.call ⟨.value (.func 146), #[.tmp 62], #[34]⟩) 126,
 So 64 (.binOp .and 126 (.tmp 63) (.const (.int .u8 4)) 126) 126,
 So 65 (.binOp .or 126 (.tmp 61) (.tmp 64) 126) 126,
 So 6 (.assign (.tmp 65)) 126] [6])
 (.skip))))
 (.seq (.ops [So 66 (.move (.tmp 6)) 126,
 So 2 (.assign (.tmp 66)) 126] [2])
 (.ret)))))))
theorem w146 : CW 146 s146 [.tmp 2] := fun hr h => callsV_of_p follows cfgT a146 (fn := Tryz.f146) (c := Tryz.f146.body.getD .skip) (by kernel_rfl) (by kernel_rfl) (by kernel_rfl) (by kernel_rfl) (by kernel_rfl) (sc := s146) (by kernel_rfl) [.tmp 2] (by kernel_rfl) hr h
def a122 : List Ann := [⟨[1, 2], [], []⟩,
 ⟨[1, 2, 6], [], []⟩,
 ⟨[1, 2, 6, 10], [], []⟩,
 ⟨[4, 5], [], []⟩,
 ⟨[4, 5], [], []⟩]
def s122 : SC := .seq (.ops [So 2 (.box 34 (.tmp 0)) 0,
 So 4 (.assign (.const (.bool false))) 4,
 So 5 (.assign (.const (.int .i64 0))) 36] [1, 2])
 (.seq (.seq (.ops [So 7 (.load 34 (.tmp 2)) 34,
 So 8 (.call ⟨.value (.func 36), #[.tmp 7], #[34]⟩) 36,
 So 6 (.assign (.tmp 8)) 36] [1, 2, 6])
 (.seq (.ops [So 9 (.move (.tmp 6)) 36,
 So 10 (.binOp .neq 36 (.tmp 9) (.const (.int .i64 0)) 36) 4] [1, 2, 6, 10])
 (.cond (.tmp 10)
 (.seq (.ops [So 11 (.move (.tmp 6)) 36,
 So 4 (.assign (.const (.bool false))) 4,
 So 5 (.assign (.tmp 11)) 36] [4, 5])
 (.ret))
 (.skip))))
 (.seq (.ops [So 12 (.load 34 (.tmp 2)) 34,
 So 13 (.call ⟨.value (.func 146), #[.tmp 12], #[34]⟩) 126,
 So 14 (.move (.tmp 1)) 126,
 So 15 (.binOp .and 126 (.tmp 13) (.tmp 14) 126) 126,
 So 16 (.binOp .neq 126 (.tmp 15) (.const (.int .u8 0)) 126) 4,
 So 4 (.assign (.tmp 16)) 4,
 So 5 (.assign (.const (.int .i64 0))) 36] [4, 5])
 (.ret)))
theorem w122 : CW 122 s122 [.tmp 4, .tmp 5] := fun hr h => callsV_of_p follows cfgT a122 (fn := Tryz.f122) (c := Tryz.f122.body.getD .skip) (by kernel_rfl) (by kernel_rfl) (by kernel_rfl) (by kernel_rfl) (by kernel_rfl) (sc := s122) (by kernel_rfl) [.tmp 4, .tmp 5] (by kernel_rfl) hr h
def a89 : List Ann := [⟨[1], [], []⟩,
 ⟨[2, 3], [], []⟩]
def s89 : SC := .seq (.ops [So 1 (.box 34 (.tmp 0)) 0,
 So 2 (.assign (.const (.bool false))) 4,
 So 3 (.assign (.const (.int .i64 0))) 36] [1])
 (.seq (.ops [So 4 (.load 34 (.tmp 1)) 34,
 So 5 (.call ⟨.value (.func 122), #[.tmp 4, .const (.int .u8 1)], #[34, 126]⟩) 44,
 So 6 (.extract (.tmp 5) 0) 4,
 So 7 (.extract (.tmp 5) 1) 36,
 So 2 (.assign (.tmp 6)) 4,
 So 3 (.assign (.tmp 7)) 36] [2, 3])
 (.ret))
theorem w89 : CW 89 s89 [.tmp 2, .tmp 3] := fun hr h => callsV_of_p follows cfgT a89 (fn := Tryz.f89) (c := Tryz.f89.body.getD .skip) (by kernel_rfl) (by kernel_rfl) (by kernel_rfl) (by kernel_rfl) (by kernel_rfl) (sc := s89) (by kernel_rfl) [.tmp 2, .tmp 3] (by kernel_rfl) hr h
def a40 : List Ann := [⟨[1], [], []⟩,
 ⟨[3], [], []⟩,
 ⟨[2], [], []⟩]
def s40 : SC := .seq (.ops [So 1 (.box 34 (.tmp 0)) 0,
 So 2 (.assign (.const (.bool false))) 4] [1])
 (.seq (.ops [So 6 (.load 34 (.tmp 1)) 34,
 So 7 (.call ⟨.value (.func 89), #[.tmp 6], #[34]⟩) 44,
 So 5 (.move (.tmp 7)) 44,
 So 8 (.extract (.tmp 5) 0) 4,
 So 9 (.extract (.tmp 5) 1) 36,
 So 3 (.assign (.tmp 8)) 4,
 So 4 (.assign (.tmp 9)) 36] [3])
 (.seq (.ops [So 10 (.move (.tmp 3)) 4,
 So 2 (.assign (.tmp 10)) 4] [2])
 (.ret)))
theorem w40 : CW 40 s40 [.tmp 2] := fun hr h => callsV_of_p follows cfgT a40 (fn := Tryz.f40) (c := Tryz.f40.body.getD .skip) (by kernel_rfl) (by kernel_rfl) (by kernel_rfl) (by kernel_rfl) (by kernel_rfl) (sc := s40) (by kernel_rfl) [.tmp 2] (by kernel_rfl) hr h
def a41 : List Ann := [⟨[0], [], []⟩,
 ⟨[0], [], []⟩]
def s41 : SC := .seq (.ops [So 0 (.alloc 42) 0] [0])
 (.seq (.ops [So 1 (.build 42 #[(0, .const (.int .i64 13))]) 42,
 Sn (.store 42 (.tmp 0) (.tmp 1)) 0] [0])
 (.ret))
theorem w41 : CW 41 s41 [.cell 0 42] := fun hr h => callsV_of_p follows cfgT a41 (fn := Tryz.f41) (c := Tryz.f41.body.getD .skip) (by kernel_rfl) (by kernel_rfl) (by kernel_rfl) (by kernel_rfl) (by kernel_rfl) (sc := s41) (by kernel_rfl) [.cell 0 42] (by kernel_rfl) hr h
def a90 : List Ann := [⟨[1], [], []⟩,
 ⟨[1, 3], [], []⟩,
 ⟨[3, 7, 8, 9], [], []⟩,
 ⟨[3, 7, 8, 9, 10], [], []⟩,
 ⟨[3, 5, 7, 8, 9], [], []⟩,
 ⟨[3, 7, 8, 9], [], []⟩,
 ⟨[3, 7, 8, 9], [], []⟩,
 ⟨[2], [], []⟩]
def s90 : SC := .seq (.ops [So 1 (.box 42 (.tmp 0)) 0,
 So 2 (.assign (.const (.int .i64 0))) 3] [1])
 (.seq (.ops [So 3 (.assign (.const (.int .i64 1))) 3] [1, 3])
 (.seq (.seq (.ops [So 6 (.fieldAddr 42 (.tmp 1) 3) 0,
 So 7 (.load 31 (.tmp 6)) 31,
 So 8 (.call ⟨.builtin .len, #[.tmp 7], #[31]⟩) 3,
 So 9 (.move (.const (.int .i64 0))) 3] [3, 7, 8, 9])
 (.block 0
 (.loop
 (.seq (.ops [So 10 (.binOp .lss 3 (.tmp 9) (.tmp 8) 3) 0] [3, 7, 8, 9, 10])
 (.seq (.cond (.tmp 10)
 (.skip)
 (.exit 0))
 (.seq (.block 1
 (.seq (.ops [So 11 (.indexAddr 31 (.tmp 7) (.tmp 9)) 0,
 So 12 (.load 42 (.tmp 11)) 42,
 So 5 (.alloc 42) 0,
 Sn (.store 42 (.tmp 5) (.tmp 12)) 0] [3, 5, 7, 8, 9])
 (.ops [So 13 (.move (.tmp 3)) 3,
 So 14 (.load 42 (.tmp 5)) 42,
 So 15 (.call ⟨.value (.func 90), #[.tmp 14], #[42]⟩) 3,
 So 16 (.binOp .add 3 (.tmp 13) (.tmp 15) 3) 3,
 So 3 (.assign (.tmp 16)) 3] [3, 7, 8, 9])))
 (.ops [So 17 (.binOp .add 3 (.tmp 9) (.const (.int .i64 1)) 3) 3,
 So 9 (.move (.tmp 17)) 3] [3, 7, 8, 9])))))))
 (.seq (.ops [So 18 (.move (.tmp 3)) 3,
 So 2 (.assign (.tmp 18)) 3] [2])
 (.ret))))
theorem w90 : CW 90 s90 [.tmp 2] := fun hr h => callsV_of_p follows cfgT a90 (fn := Tryz.f90) (c := Tryz.f90.body.getD .skip) (by kernel_rfl) (by kernel_rfl) (by kernel_rfl) (by kernel_rfl) (by kernel_rfl) (sc := s90) (by kernel_rfl) [.tmp 2] (by kernel_rfl) hr h
def a91 : List Ann := [⟨[0, 3, 4], [], []⟩,
 ⟨[4], [], []⟩]
def s91 : SC := .seq (.ops [So 3 (.box 42 (.tmp 1)) 0,
 So 4 (.alloc 42) 0] [0, 3, 4])
 (.seq (.ops [So 5 (.move (.tmp 0)) 3,
 So 6 (.load 42 (.tmp 3)) 42,
 So 7 (.buildSlice 31 1 #[(0, .tmp 6)]) 31,
 So 8 (.build 42 #[(0, .tmp 5), (3, .tmp 7)]) 42,
 Sn (.store 42 (.tmp 4) (.tmp 8)) 0] [4])
 (.ret))
theorem w91 : CW 91 s91 [.cell 4 42] := fun hr h => callsV_of_p follows cfgT a91 (fn := Tryz.f91) (c := Tryz.f91.body.getD .skip) (by kernel_rfl) (by kernel_rfl) (by kernel_rfl) (by kernel_rfl) (by kernel_rfl) (sc := s91) (by kernel_rfl) [.cell 4 42] (by kernel_rfl) hr h
def a125 : List Ann := [⟨[1], [], []⟩,
 ⟨[1, 3], [], []⟩,
 ⟨[1, 3, 9, 10, 11], [], []⟩,
 ⟨[1, 3, 9, 10, 11, 12], [], []⟩,
 ⟨[1, 3, 5, 9, 10, 11], [], []⟩,
 ⟨[1, 3, 9, 10, 11], [], []⟩,
 ⟨[1, 3, 9, 10, 11], [], []⟩,
 ⟨[3, 21, 22, 23], [], []⟩,
 ⟨[3, 21, 22, 23, 24], [], []⟩,
 ⟨[3, 7, 21, 22, 23], [], []⟩,
 ⟨[3, 21, 22, 23], [], []⟩,
 ⟨[3, 21, 22, 23], [], []⟩,
 ⟨[2], [], []⟩]
def s125 : SC := .seq (.ops [So 1 (.box 34 (.tmp 0)) 0,
 So 2 (.assign (.const (.int .i64 0))) 3] [1])
 (.seq (.ops [So 3 (.assign (.const (.int .i64 1))) 3] [1, 3])
 (.seq (.seq (.ops [So 8 (.fieldAddr 34 (.tmp 1) 2) 0,
 So 9 (.load 31 (.tmp 8)) 31,
 So 10 (.call ⟨.builtin .len, #[.tmp 9], #[31]⟩) 3,
 So 11 (.move (.const (.int .i64 0))) 3] [1, 3, 9, 10, 11])
 (.block 0
 (.loop
 (.seq (.ops [So 12 (.binOp .lss 3 (.tmp 11) (.tmp 10) 3) 0] [1, 3, 9, 10, 11, 12])
 (.seq (.cond (.tmp 12)
 (.skip)
 (.exit 0))
 (.seq (.block 1
 (.seq (.ops [So 13 (.indexAddr 31 (.tmp 9) (.tmp 11)) 0,
 So 14 (.load 42 (.tmp 13)) 42,
 So 5 (.alloc 42) 0,
 Sn (.store 42 (.tmp 5) (.tmp 14)) 0] [1, 3, 5, 9, 10, 11])
 (.ops [So 15 (.move (.tmp 3)) 3,
 So 16 (.load 42 (.tmp 5)) 42,
 So 17 (.call ⟨.value (.func 90), #[.tmp 16], #[42]⟩) 3,
 So 18 (.binOp .add 3 (.tmp 15) (.tmp 17) 3) 3,
 So 3 (.assign (.tmp 18)) 3] [1, 3, 9, 10, 11])))
 (.ops [So 19 (.binOp .add 3 (.tmp 11) (.const (.int .i64 1)) 3) 3,
 So 11 (.move (.tmp 19)) 3] [1, 3, 9, 10, 11])))))))
 (.seq (.seq (.ops [So 20 (.fieldAddr 34 (.tmp 1) 3) 0,
 So 21 (.load 32 (.tmp 20)) 32,
 So 22 (.call ⟨.builtin .len, #[.tmp 21], #[32]⟩) 3,
 So 23 (.move (.const (.int .i64 0))) 3] [3, 21, 22, 23])
 (.block 2
 (.loop
 (.seq (.ops [So 24 (.binOp .lss 3 (.tmp 23) (.tmp 22) 3) 0] [3, 21, 22, 23, 24])
 (.seq (.cond (.tmp 24)
 (.skip)
 (.exit 2))
 (.seq (.block 3
 (.seq (.ops [So 25 (.indexAddr 32 (.tmp 21) (.tmp 23)) 0,
 So 26 (.load 34 (.tmp 25)) 34,
 So 7 (.alloc 34) 0,
 Sn (.store 34 (.tmp 7) (.tmp 26)) 0] [3, 7, 21, 22, 23])
 (.ops [So 27 (.move (.tmp 3)) 3,
 So 28 (.load 34 (.tmp 7)) 34,
 So 29 (.call ⟨.value (.func 125), #[.tmp 28], #[34]⟩) 3,
 So 30 (.binOp .add 3 (.tmp 27) (.tmp 29) 3) 3,
 So 3 (.assign (.tmp 30)) 3] [3, 21, 22, 23])))
 (.ops [So 31 (.binOp .add 3 (.tmp 23) (.const (.int .i64 1)) 3) 3,
 So 23 (.move (.tmp 31)) 3] [3, 21, 22, 23])))))))
 (.seq (.ops [So 32 (.move (.tmp 3)) 3,
 So 2 (.assign (.tmp 32)) 3] [2])
 (.ret)))))
theorem w125 : CW 125 s125 [.tmp 2] := fun hr h => callsV_of_p follows cfgT a125 (fn := Tryz.f125) (c := Tryz.f125.body.getD .skip) (by kernel_rfl) (by kernel_rfl) (by kernel_rfl) (by kernel_rfl) (by kernel_rfl) (sc := s125) (by kernel_rfl) [.tmp 2] (by kernel_rfl) hr h
def a96 : List Ann := [⟨[0, 2, 4, 6], [], []⟩,
 ⟨[6, 8], [], []⟩,
 ⟨[6, 8, 15], [], []⟩,
 ⟨[6, 7], [], []⟩,
 ⟨[6, 7], [], []⟩]
def s96 : SC := .seq (.ops [So 4 (.box 30 (.tmp 1)) 0,
 So 6 (.alloc 34) 0,
 So 7 (.assign (.const (.int .i64 0))) 36] [0, 2, 4, 6])
 (.seq (.ops [So 9 (.move (.tmp 0)) 3,
 So 10 (.load 30 (.tmp 4)) 30,
 So 11 (.move (.tmp 2)) 32,
 So 12 (.build 34 #[(0, .tmp 9), (1, .tmp 10), (3, .tmp 11)]) 34,
 So 8 (.alloc 34) 0,
 Sn (.store 34 (.tmp 8) (.tmp 12)) 0] [6, 8])
 (.seq (.seq (.ops [So 13 (.load 34 (.tmp 8)) 34,
 So 14 (.call ⟨.value (.func 125), #[.tmp 13], #[34]⟩) 3,
 So 15 (.binOp .gtr 3 (.tmp 14) (.const (.int .i64 4096)) 3) 4] [6, 8, 15])
 (.cond (.tmp 15)
 (.seq (.ops [So 16 (.build 34 #[]) 34,
 Sn (.store 34 (.tmp 6) (.tmp 16)) 0,
 So 7 (.assign (.const (.int .i64 4))) 36] [6, 7])
 (.ret))
 (.skip)))
 (.seq (.ops [So 17 (.load 34 (.tmp 8)) 34,
 Sn (.store 34 (.tmp 6) (.tmp 17)) 0,
 So 7 (.assign (.const (.int .i64 0))) 36] [6, 7])
 (.ret))))
theorem w96 : CW 96 s96 [.cell 6 34, .tmp 7] := fun hr h => callsV_of_p follows cfgT a96 (fn := Tryz.f96) (c := Tryz.f96.body.getD .skip) (by kernel_rfl) (by kernel_rfl) (by kernel_rfl) (by kernel_rfl) (by kernel_rfl) (sc := s96) (by kernel_rfl) [.cell 6 34, .tmp 7] (by kernel_rfl) hr h
def a92 : List Ann := [⟨[0, 6, 7, 8, 9, 10], [], []⟩,
 ⟨[0, 8, 9, 10, 12, 13], [], []⟩,
 ⟨[0, 8, 9, 10, 12, 13, 22], [], []⟩,
 ⟨[10, 11], [], []⟩,
 ⟨[0, 10, 12, 13, 14], [], []⟩,
 ⟨[0, 10, 12, 13, 14, 32], [], []⟩,
 ⟨[10, 11], [], []⟩,
 ⟨[10, 11], [], []⟩]
def s92 : SC := .seq (.ops [So 6 (.box 34 (.tmp 1)) 0,
 So 7 (.box 42 (.tmp 2)) 0,
 So 8 (.box 34 (.tmp 3)) 0,
 So 9 (.box 42 (.tmp 4)) 0,
 So 10 (.alloc 34) 0,
 So 11 (.assign (.const (.int .i64 0))) 36] [0, 6, 7, 8, 9, 10])
 (.seq (.ops [So 16 (.load 34 (.tmp 6)) 34,
 So 17 (.load 42 (.tmp 7)) 42,
 So 18 (.call ⟨.value (.func 42), #[.tmp 16, .tmp 17], #[34, 42]⟩) 39,
 So 15 (.move (.tmp 18)) 39,
 So 19 (.extract (.tmp 15) 0) 34,
 So 20 (.extract (.tmp 15) 1) 36,
 So 12 (.alloc 34) 0,
 Sn (.store 34 (.tmp 12) (.tmp 19)) 0,
 So 13 (.assign (.tmp 20)) 36] [0, 8, 9, 10, 12, 13])
 (.seq (.seq (.ops [So 21 (.move (.tmp 13)) 36,
 So 22 (.binOp .neq 36 (.tmp 21) (.const (.int .i64 0)) 36) 4] [0, 8, 9, 10, 12, 13, 22])
 (.cond (.tmp 22)
 (.seq (.ops [So 23 (.build 34 #[]) 34,
 So 24 (.move (.tmp 13)) 36,
 Sn (.store 34 (.tmp 10) (.tmp 23)) 0,
 So 11 (.assign (.tmp 24)) 36] [10, 11])
 (.ret))
 (.skip)))
 (.seq (.ops [So 26 (.load 34 (.tmp 8)) 34,
 So 27 (.load 42 (.tmp 9)) 42,
 So 28 (.call ⟨.value (.func 42), #[.tmp 26, .tmp 27], #[34, 42]⟩) 39,
 So 25 (.move (.tmp 28)) 39,
 So 29 (.extract (.tmp 25) 0) 34,
 So 30 (.extract (.tmp 25) 1) 36,
 So 14 (.alloc 34) 0,
 Sn (.store 34 (.tmp 14) (.tmp 29)) 0,
 So 13 (.assign (.tmp 30)) 36] [0, 10, 12, 13, 14])
 (.seq (.seq (.ops [So 31 (.move (.tmp 13)) 36,
 So 32 (.binOp .neq 36 (.tmp 31) (.const (.int .i64 0)) 36) 4] [0, 10, 12, 13, 14, 32])
 (.cond (.tmp 32)
 (.seq (.ops [So 33 (.build 34 #[]) 34,
 So 34 (.move (.tmp 13)) 36,
 Sn (.store 34 (.tmp 10) (.tmp 33)) 0,
 So 11 (.assign (.tmp 34)) 36] [10, 11])
 (.ret))
 (.skip)))
 (.seq (.ops [So 35 (.move (.tmp 0)) 3,
 So 36 (.build 30 #[]) 30,
 So 37 (.load 34 (.tmp 12)) 34,
 So 38 (.load 34 (.tmp 14)) 34,
 So 39 (.buildSlice 32 2 #[(0, .tmp 37), (1, .tmp 38)]) 32,
 So 40 (.call ⟨.value (.func 96), #[.tmp 35, .tmp 36, .tmp 39], #[3, 30, 32]⟩) 39,
 So 41 (.extract (.tmp 40) 0) 34,
 So 42 (.extract (.tmp 40) 1) 36,
 Sn (.store 34 (.tmp 10) (.tmp 41)) 0,
 So 11 (.assign (.tmp 42)) 36] [10, 11])
 (.ret))))))
theorem w92 : CW 92 s92 [.cell 10 34, .tmp 11] := fun hr h => callsV_of_p follows cfgT a92 (fn := Tryz.f92) (c := Tryz.f92.body.getD .skip) (by kernel_rfl) (by kernel_rfl) (by kernel_rfl) (by kernel_rfl) (by kernel_rfl) (sc := s92) (by kernel_rfl) [.cell 10 34, .tmp 11] (by kernel_rfl) hr h
def a71 : List Ann := [⟨[0, 2], [], []⟩,
 ⟨[2], [], []⟩]
def s71 : SC := .seq (.ops [So 2 (.alloc 42) 0] [0, 2])
 (.seq (.ops [So 3 (.move (.tmp 0)) 3,
 So 4 (.build 42 #[(0, .const (.int .i64 1)), (1, .tmp 3)]) 42,
 Sn (.store 42 (.tmp 2) (.tmp 4)) 0] [2])
 (.ret))
theorem w71 : CW 71 s71 [.cell 2 42] := fun hr h => callsV_of_p follows cfgT a71 (fn := Tryz.f71) (c := Tryz.f71.body.getD .skip) (by kernel_rfl) (by kernel_rfl) (by kernel_rfl) (by kernel_rfl) (by kernel_rfl) (sc := s71) (by kernel_rfl) [.cell 2 42] (by kernel_rfl) hr h
def a94 : List Ann := [⟨[1, 2, 3, 6], [], []⟩,
 ⟨[1, 2, 3, 6, 11], [], []⟩,
 ⟨[6], [], []⟩,
 ⟨[1, 2, 3, 6, 15], [], []⟩,
 ⟨[2, 3, 6, 19], [], []⟩,
 ⟨[3, 6], [], []⟩,
 ⟨[6], [], []⟩,
 ⟨[1, 2, 3, 6, 28], [], []⟩,
 ⟨[1, 2, 3, 6], [], []⟩,
 ⟨[1, 2, 3, 6, 7], [], []⟩,
 ⟨[1, 2, 3, 6, 7], [], []⟩,
 ⟨[1, 2, 6, 7, 34, 35, 36], [], []⟩,
 ⟨[1, 2, 6, 7, 34, 35, 36, 37], [], []⟩,
 ⟨[1, 2, 6, 7, 9, 34, 35, 36], [], []⟩,
 ⟨[1, 2, 6, 7, 34, 35, 36], [0, 1, 0, 0, 0, 28, 60, 127, 255, 511], [false, true, false, false, false, true, false, false, false, false]⟩,
 ⟨[1, 2, 6, 7, 34, 35, 36], [], []⟩,
 ⟨[6], [], []⟩]
def s94 : SC := .seq (.ops [So 3 (.box 42 (.tmp 0)) 0,
 So 6 (.alloc 42) 0] [1, 2, 3, 6])
 (.seq (.seq (.ops [So 10 (.move (.tmp 2)) 3,
 So 11 (.binOp .eql 3 (.tmp 10) (.const (.int .i64 0)) 3) 4] [1, 2, 3, 6, 11])
 (.cond (.tmp 11)
 (.seq (.ops [So 12 (.load 42 (.tmp 3)) 42,
 Sn (.store 42 (.tmp 6) (.tmp 12)) 0] [6])
 (.ret))
 (.skip)))
 (.seq (.seq (.ops [So 13 (.fieldAddr 42 (.tmp 3) 0) 0,
 So 14 (.load 3 (.tmp 13)) 3,
 So 15 (.binOp .eql 3 (.tmp 14) (.const (.int .i64 1)) 3) 4] [1, 2, 3, 6, 15])
 (.cond (.tmp 15)
 (.seq (.seq (.ops [So 16 (.fieldAddr 42 (.tmp 3) 1) 0,
 So 17 (.load 3 (.tmp 16)) 3,
 So 18 (.move (.tmp 1)) 3,
 So 19 (.binOp .geq 3 (.tmp 17) (.tmp 18) 3) 4] [2, 3, 6, 19])
 (.cond (.tmp 19)
 (.ops [So 20 (.fieldAddr 42 (.tmp 3) 1) 0,
 So 21 (.load 3 (.tmp 20)) 3,
 So 22 (.move (.tmp 2)) 3,
 So 23 (.binOp .add 3 (.tmp 21) (.tmp 22) 3) 3,
 So 24 (.fieldAddr 42 (.tmp 3) 1) 0,
 Sn (.store 3 (.tmp 24) (.tmp 23)) 0] [3, 6])
 (.skip)))
 (.seq (.ops [So 25 (.load 42 (.tmp 3)) 42,
 Sn (.store 42 (.tmp 6) (.tmp 25)) 0] [6])
 (.ret)))
 (.skip)))
 (.seq (.seq (.ops [So 26 (.fieldAddr 42 (.tmp 3) 0) 0,
 So 27 (.load 3 (.tmp 26)) 3,
 So 28 (.binOp .eql 3 (.tmp 27) (.const (.int .i64 2)) 3) 4] [1, 2, 3, 6, 28])
 (.cond (.tmp 28)
 (.ops [So 29 (.move (.tmp 1)) 3,
 So 30 (.binOp .add 3 (.tmp 29) (.const (.int .i64 1)) 3) 3,
 So 1 (.assign (.tmp 30)) 3] [1, 2, 3, 6])
 (.skip)))
 (.seq (.ops [So 31 (.load 42 (.tmp 3)) 42,
 So 7 (.alloc 42) 0,
 Sn (.store 42 (.tmp 7) (.tmp 31)) 0] [1, 2, 3, 6, 7])
 (.seq (.ops [So 32 (.fieldAddr 42 (.tmp 7) 3) 0,
 Sn (.store 31 (.tmp 32) (.const (.slice none 0 0))) 0] [1, 2, 3, 6, 7])
 (.seq (.seq (.ops [So 33 (.fieldAddr 42 (.tmp 3) 3) 0,
 So 34 (.load 31 (.tmp 33)) 31,
 So 35 (.call ⟨.builtin .len, #[.tmp 34], #[31]⟩) 3,
 So 36 (.move (.const (.int .i64 0))) 3] [1, 2, 6, 7, 34, 35, 36])
 (.block 0
 (.loop
 (.seq (.ops [So 37 (.binOp .lss 3 (.tmp 36) (.tmp 35) 3) 0] [1, 2, 6, 7, 34, 35, 36, 37])
 (.seq (.cond (.tmp 37)
 (.skip)
 (.exit 0))
 (.seq (.block 1
 (.seq (.ops [So 38 (.indexAddr 31 (.tmp 34) (.tmp 36)) 0,
 So 39 (.load 42 (.tmp 38)) 42,
 So 9 (.alloc 42) 0,
 Sn (.store 42 (.tmp 9) (.tmp 39)) 0] [1, 2, 6, 7, 9, 34, 35, 36])
 (.draw [So 40 (.fieldAddr 42 (.tmp 7) 3) 0,
 So 41 (.load 31 (.tmp 40)) 31,
 So 42 (.load 42 (.tmp 9)) 42,
 So 43 (.move (.tmp 1)) 3,
 So 44 (.move (.tmp 2)) 3,
 So 45 (.call ⟨.value (.func 94), #[.tmp 42, .tmp 43, .tmp 44], #[42, 3, 3]⟩) 42,
 So 46 (.buildSlice 31 1 #[(0, .tmp 45)]) 31,
 So 47 (.call ⟨.builtin .append, #[.tmp 41, .tmp 46], #[31, 31]⟩) 31,
 So 48 (.fieldAddr 42 (.tmp 7) 3) 0,
 Sn (.store 31 (.tmp 48) (.tmp 47)) 0] [false, true, false, false, false, true, false, false, false, false] [1, 2, 6, 7, 34, 35, 36])))
 (.ops [So 49 (.binOp .add 3 (.tmp 36) (.const (.int .i64 1)) 3) 3,
 So 36 (.move (.tmp 49)) 3] [1, 2, 6, 7, 34, 35, 36])))))))
 (.seq (.ops [So 50 (.load 42 (.tmp 7)) 42,
 Sn (.store 42 (.tmp 6) (.tmp 50)) 0] [6])
 (.ret))))))))
theorem w94 : CW 94 s94 [.cell 6 42] := fun hr h => callsV_of_p follows cfgT a94 (fn := Tryz.f94) (c := Tryz.f94.body.getD .skip) (by kernel_rfl) (by kernel_rfl) (by kernel_rfl) (by kernel_rfl) (by kernel_rfl) (sc := s94) (by kernel_rfl) [.cell 6 42] (by kernel_rfl) hr h
def a95 : List Ann := [⟨[1, 2], [], []⟩,
 ⟨[2], [], []⟩]
def s95 : SC := .seq (.ops [So 1 (.box 42 (.tmp 0)) 0,
 So 2 (.alloc 42) 0] [1, 2])
 (.seq (.ops [So 3 (.load 42 (.tmp 1)) 42,
 So 4 (.call ⟨.value (.func 94), #[.tmp 3, .const (.int .i64 0), .const (.int .i64 1)], #[42, 3, 3]⟩) 42,
 So 5 (.call ⟨.value (.func 71), #[.const (.int .i64 0)], #[3]⟩) 42,
 So 6 (.buildSlice 31 2 #[(0, .tmp 4), (1, .tmp 5)]) 31,
 So 7 (.build 42 #[(0, .const (.int .i64 3)), (3, .tmp 6)]) 42,
 Sn (.store 42 (.tmp 2) (.tmp 7)) 0] [2])
 (.ret))
theorem w95 : CW 95 s95 [.cell 2 42] := fun hr h => callsV_of_p follows cfgT a95 (fn := Tryz.f95) (c := Tryz.f95.body.getD .skip) (by kernel_rfl) (by kernel_rfl) (by kernel_rfl) (by kernel_rfl) (by kernel_rfl) (sc := s95) (by kernel_rfl) [.cell 2 42] (by kernel_rfl) hr h
def a153 : List Ann := [⟨[1], [], []⟩,
 ⟨[4], [], []⟩,
 ⟨[2], [], []⟩]
def s153 : SC := .seq (.ops [So 1 (.box 30 (.tmp 0)) 0,
 So 2 (.assign (.const (.int .i64 0))) 36] [1])
 (.seq (.ops [So 6 (.load 30 (.tmp 1)) 30,
 So 7 (.call ⟨.value (.func 144), #[.tmp 6], #[30]⟩) 102,
 So 5 (.move (.tmp 7)) 102,
 So 8 (.extract (.tmp 5) 0) 3,
 So 9 (.extract (.tmp 5) 1) 36,
 So 3 (.assign (.tmp 8)) 3,
 So 4 (.assign (.tmp 9)) 36] [4])
 (.seq (.ops [So 10 (.move (.tmp 4)) 36,
 So 2 (.assign (.tmp 10)) 36] [2])
 (.ret)))
theorem w153 : CW 153 s153 [.tmp 2] := fun hr h => callsV_of_p follows cfgT a153 (fn := Tryz.f153) (c := Tryz.f153.body.getD .skip) (by kernel_rfl) (by kernel_rfl) (by kernel_rfl) (by kernel_rfl) (by kernel_rfl) (sc := s153) (by kernel_rfl) [.tmp 2] (by kernel_rfl) hr h
def a154 : List Ann := [⟨[0, 4, 5, 6], [], []⟩,
 ⟨[6, 9], [], []⟩,
 ⟨[6, 9, 10], [], []⟩,
 ⟨[6, 9, 10, 19], [], []⟩,
 ⟨[6, 7, 8], [], []⟩,
 ⟨[6, 7, 8], [], []⟩]
def s154 : SC := .seq (.ops [So 4 (.box 30 (.tmp 1)) 0,
 So 5 (.box 30 (.tmp 2)) 0,
 So 6 (.alloc 30) 0,
 So 7 (.assign (.const (.bool false))) 4,
 So 8 (.assign (.const (.int .i64 0))) 36] [0, 4, 5, 6])
 (.seq (.ops [So 11 (.move (.tmp 0)) 3,
 So 12 (.load 30 (.tmp 4)) 30,
 So 13 (.load 30 (.tmp 5)) 30,
 So 14 (.buildSlice 27 2 #[(0, .tmp 12), (1, .tmp 13)]) 27,
 So 15 (.build 30 #[(0, .tmp 11), (1, .tmp 14)]) 30,
 So 9 (.alloc 30) 0,
 Sn (.store 30 (.tmp 9) (.tmp 15)) 0] [6, 9])
 (.seq (.seq (.ops [So 16 (.load 30 (.tmp 9)) 30,
 So 17 (.call ⟨.value (.func 153), #[.tmp 16], #[30]⟩) 36,
 So 10 (.assign (.tmp 17)) 36] [6, 9, 10])
 (.seq (.ops [So 18 (.move (.tmp 10)) 36,
 So 19 (.binOp .neq 36 (.tmp 18) (.const (.int .i64 0)) 36) 4] [6, 9, 10, 19])
 (.cond (.tmp 19)
 (.seq (.ops [So 20 (.build 30 #[]) 30,
 So 21 (.move (.tmp 10)) 36,
 Sn (.store 30 (.tmp 6) (.tmp 20)) 0,
 So 7 (.assign (.const (.bool false))) 4,
 So 8 (.assign (.tmp 21)) 36] [6, 7, 8])
 (.ret))
 (.skip))))
 (.seq (.ops [So 22 (.load 30 (.tmp 9)) 30,
 Sn (.store 30 (.tmp 6) (.tmp 22)) 0,
 So 7 (.assign (.const (.bool true))) 4,
 So 8 (.assign (.const (.int .i64 0))) 36] [6, 7, 8])
 (.ret))))
theorem w154 : CW 154 s154 [.cell 6 30, .tmp 7, .tmp 8] := fun hr h => callsV_of_p follows cfgT a154 (fn := Tryz.f154) (c := Tryz.f154.body.getD .skip) (by kernel_rfl) (by kernel_rfl) (by kernel_rfl) (by kernel_rfl) (by kernel_rfl) (sc := s154) (by kernel_rfl) [.cell 6 30, .tmp 7, .tmp 8] (by kernel_rfl) hr h
end
end Go.Proofs.YtnpgbkldpdogjaaGreatDoor.V
