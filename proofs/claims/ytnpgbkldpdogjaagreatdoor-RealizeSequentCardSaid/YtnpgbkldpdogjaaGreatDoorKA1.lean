/-
Parts of the proof of one law, put together by program: part 1.
-/
import Derived.WalkKit
import Derived.Orders
import Derived.Below
import Derived.KernelRfl
import Derived.Laws.CopyRow
set_option linter.unusedSimpArgs false
set_option linter.unusedVariables false
namespace Go.Proofs.YtnpgbkldpdogjaaGreatDoor.V
open Go
inductive Own where
  | no
  | full
  | tip (k : Nat)
  deriving DecidableEq
inductive Cell where
  | int (k : IntKind) (n : Int)
  | bool (b : Bool)
  | str (s : ByteArray)
  | slice (own : Own) (sz : Nat) (es : List (List Cell))
  | box (d t v off : Nat)
  | cptr (cs : List Cell) (off : Nat)
  | func (f : FuncId) (caps : List Cell)
  | nilp
  | nilf
inductive PV where
  | one (c : Cell)
  | agg (cs : List Cell)
  | tup (vs : List PV)
  | undef
  | gone
structure Map where
  prot : Nat → Nat
  box : Nat → Nat → Nat → Option Nat
  own : Nat → Option Nat
inductive RepC (w : World) (M : Map) : Cell → Value → Prop
  | int (k n) : RepC w M (.int k n) (.int k n)
  | bool (b) : RepC w M (.bool b) (.bool b)
  | str (s) : RepC w M (.str s) (.string s)
  | nil (o sz a c) (hf : o = .full → c = 0) : RepC w M (.slice o sz []) (.slice a 0 c)
  | slice (o sz es b off cap) (f : Nat → Nat → Value) (hl : ∀ e ∈ es, e.length = sz) (hp : off + es.length * sz ≤ M.prot b) (hf : o = .full → cap = es.length) (hc : es.length ≤ cap)
      (hw : ∀ (j i : Nat) (e : List Cell) (c : Cell), es[j]? = some e → e[i]? = some c → w.cell? ⟨b, off + (j * sz + i), none⟩ = some (f j i))
      (hr : ∀ (j i : Nat) (e : List Cell) (c : Cell), es[j]? = some e → e[i]? = some c → RepC w M c (f j i)) : RepC w M (.slice o sz es) (.slice (some ⟨b, off, none⟩) es.length cap)
  | box (d t v off b) (hb : M.box d t v = some b) : RepC w M (.box d t v off) (.pointer (some ⟨b, off, none⟩))
  | cptr (cs off b o) (f : Nat → Value) (hp : o + cs.length ≤ M.prot b) (hw : ∀ (i : Nat) (c : Cell), cs[i]? = some c → w.cell? ⟨b, o + i, none⟩ = some (f i))
      (hr : ∀ (i : Nat) (c : Cell), cs[i]? = some c → RepC w M c (f i)) : RepC w M (.cptr cs off) (.pointer (some ⟨b, o + off, none⟩))
  | func (f caps) (vs : Array Value) (hs : vs.size = caps.length) (hr : ∀ (i : Nat) (c : Cell), caps[i]? = some c → RepC w M c (vs.getD i undef)) : RepC w M (.func f caps) (.func (.func f) #[] vs)
  | nilp : RepC w M .nilp (.pointer none)
  | nilf : RepC w M .nilf .nilFunc
inductive RepV (w : World) (M : Map) : PV → Value → Prop
  | one (c v) (h : RepC w M c v) : RepV w M (.one c) v
  | agg (cs) (vs : Array Value) (hs : vs.size = cs.length) (hr : ∀ (i : Nat) (c : Cell), cs[i]? = some c → RepC w M c (vs.getD i undef)) : RepV w M (.agg cs) (.agg vs)
  | tup (ps) (vs : Array Value) (hs : vs.size = ps.length) (hr : ∀ (i : Nat) (p : PV), ps[i]? = some p → RepV w M p (vs.getD i undef)) : RepV w M (.tup ps) (.tuple vs)
  | undef (v) : RepV w M .undef v
  | gone : RepV w M .gone Go.undef
structure Mono (w : World) (M : Map) (w1 : World) (M1 : Map) : Prop where
  prot : ∀ b, M.prot b ≤ M1.prot b
  cell : ∀ b i, i < M.prot b → w1.cell? ⟨b, i, none⟩ = w.cell? ⟨b, i, none⟩
  box : ∀ d t v b, M.box d t v = some b → M1.box d t v = some b
theorem Mono.refl (w : World) (M : Map) : Mono w M w M := ⟨fun _ => Nat.le_refl _, fun _ _ _ => rfl, fun _ _ _ _ h => h⟩
theorem Mono.trans {w w1 w2 : World} {M M1 M2 : Map} (h : Mono w M w1 M1) (k : Mono w1 M1 w2 M2) : Mono w M w2 M2 :=
  ⟨fun b => Nat.le_trans (h.prot b) (k.prot b), fun b i hi => (k.cell b i (Nat.lt_of_lt_of_le hi (h.prot b))).trans (h.cell b i hi), fun d t v b hb => k.box d t v b (h.box d t v b hb)⟩
theorem elem_lt {es : List (List Cell)} {sz j i : Nat} {e : List Cell} {c : Cell} (hl : ∀ e ∈ es, e.length = sz) (hj : es[j]? = some e) (hi : e[i]? = some c) : j * sz + i < es.length * sz := by
  have h1 : j < es.length := (List.getElem?_eq_some_iff.1 hj).1
  have h2 : e.length = sz := hl e (List.mem_of_getElem? hj)
  have h3 : i < e.length := (List.getElem?_eq_some_iff.1 hi).1
  have h4 : (j + 1) * sz ≤ es.length * sz := Nat.mul_le_mul_right _ h1
  rw [Nat.add_mul, Nat.one_mul] at h4
  omega
theorem RepC.mono {w w1 : World} {M M1 : Map} (hm : Mono w M w1 M1) {c : Cell} {v : Value} (h : RepC w M c v) : RepC w1 M1 c v := by
  induction h with
  | int k n => exact .int k n
  | bool b => exact .bool b
  | str s => exact .str s
  | nil o sz a c hf => exact .nil o sz a c hf
  | slice o sz es b off cap f hl hp hf hc hw hr ih =>
    refine .slice o sz es b off cap f hl (Nat.le_trans hp (hm.prot b)) hf hc (fun j i e c hj hi => ?_) ih
    rw [hm.cell b _ (by have := elem_lt hl hj hi; omega)]
    exact hw j i e c hj hi
  | box d t v off b hb => exact .box d t v off b (hm.box d t v b hb)
  | cptr cs off b o f hp hw hr ih =>
    refine .cptr cs off b o f (Nat.le_trans hp (hm.prot b)) (fun i c hi => ?_) ih
    rw [hm.cell b _ (by have := (List.getElem?_eq_some_iff.1 hi).1; omega)]
    exact hw i c hi
  | func f caps vs hs hr ih => exact .func f caps vs hs ih
  | nilp => exact .nilp
  | nilf => exact .nilf
theorem RepV.mono {w w1 : World} {M M1 : Map} (hm : Mono w M w1 M1) {p : PV} {v : Value} (h : RepV w M p v) : RepV w1 M1 p v := by
  induction h with
  | one c v h => exact .one c v (h.mono hm)
  | agg cs vs hs hr => exact .agg cs vs hs fun i c hi => (hr i c hi).mono hm
  | tup ps vs hs hr ih => exact .tup ps vs hs ih
  | undef v => exact .undef v
  | gone => exact .gone
def erC : Cell → Cell
  | .slice _ sz es => .slice .no sz es
  | c => c
def erV : PV → PV
  | .one c => .one (erC c)
  | .agg cs => .agg (cs.map erC)
  | .tup vs => .tup (vs.attach.map fun ⟨v, _⟩ => erV v)
  | .undef => .undef
  | .gone => .gone
theorem RepC.er {w : World} {M : Map} {c : Cell} {v : Value} (h : RepC w M c v) : RepC w M (erC c) v := by
  cases h with
  | nil o sz a c hf => exact .nil .no sz a c (fun h => by cases h)
  | slice o sz es b off cap f hl hp hf hc hw hr => exact .slice .no sz es b off cap f hl hp (fun h => by cases h) hc hw hr
  | int k n => exact .int k n
  | bool b => exact .bool b
  | str s => exact .str s
  | box d t v off b hb => exact .box d t v off b hb
  | cptr cs off b o f hp hw hr => exact .cptr cs off b o f hp hw hr
  | func f caps vs hs hr => exact .func f caps vs hs hr
  | nilp => exact .nilp
  | nilf => exact .nilf
theorem RepV.er {w : World} {M : Map} {p : PV} {v : Value} (h : RepV w M p v) : RepV w M (erV p) v := by
  induction h with
  | one c v h => rw [erV]; exact .one _ v h.er
  | agg cs vs hs hr =>
    rw [erV]
    refine .agg _ vs (by simpa using hs) fun i c hi => ?_
    rw [List.getElem?_map] at hi
    obtain ⟨c', h1, rfl⟩ := Option.map_eq_some_iff.1 hi
    exact (hr i c' h1).er
  | tup ps vs hs hr ih =>
    rw [erV]
    refine .tup _ vs (by simpa using hs) fun i p hi => ?_
    rw [List.getElem?_map] at hi
    obtain ⟨p', h1, rfl⟩ := Option.map_eq_some_iff.1 hi
    obtain ⟨x, hx⟩ := p'
    have h2 : ps[i]? = some x := by
      obtain ⟨hlt, heq⟩ := List.getElem?_eq_some_iff.1 h1
      rw [List.getElem_attach] at heq
      have := congrArg Subtype.val heq
      exact List.getElem?_eq_some_iff.2 ⟨by simpa using hlt, this⟩
    exact ih i x h2
  | undef v => rw [erV]; exact .undef v
  | gone => rw [erV]; exact .gone
@[simp] theorem erC_int (k n) : erC (.int k n) = .int k n := rfl
@[simp] theorem erC_bool (b) : erC (.bool b) = .bool b := rfl
@[simp] theorem erC_slice (o sz es) : erC (.slice o sz es) = .slice .no sz es := rfl
@[simp] theorem erC_str (b) : erC (.str b) = .str b := rfl
@[simp] theorem erC_box (d t v o) : erC (.box d t v o) = .box d t v o := rfl
@[simp] theorem erC_cptr (d t) : erC (.cptr d t) = .cptr d t := rfl
@[simp] theorem erC_func (d t) : erC (.func d t) = .func d t := rfl
@[simp] theorem erC_erC (c : Cell) : erC (erC c) = erC c := by cases c <;> rfl
@[simp] theorem erV_one (c) : erV (.one c) = .one (erC c) := by rw [erV]
@[simp] theorem erV_agg (c) : erV (.agg c) = .agg (c.map erC) := by rw [erV]
@[simp] theorem erV_undef : erV .undef = .undef := by rw [erV]
@[simp] theorem erV_gone : erV .gone = .gone := by rw [erV]
@[simp] theorem erV_tup (vs) : erV (.tup vs) = .tup (vs.map erV) := by
  rw [erV]
  congr 1
  exact List.attach_map_subtype_val vs ▸ by simp
mutual
def flatC : Cell → Bool
  | .slice _ _ es => flatLL es
  | .cptr cs _ => flatL cs
  | .box _ _ _ _ => false
  | .func _ _ => false
  | _ => true
def flatL : List Cell → Bool
  | [] => true
  | c :: cs => flatC c && flatL cs
def flatLL : List (List Cell) → Bool
  | [] => true
  | e :: es => flatL e && flatLL es
end
theorem flatL_mem {cs : List Cell} (h : flatL cs = true) : ∀ c ∈ cs, flatC c = true := by
  induction cs with
  | nil => intro c hc; simp at hc
  | cons x cs ih =>
    simp only [flatL, Bool.and_eq_true] at h
    intro c hc
    rcases List.mem_cons.1 hc with rfl | hc
    · exact h.1
    · exact ih h.2 c hc
theorem flatLL_mem {es : List (List Cell)} (h : flatLL es = true) : ∀ e ∈ es, flatL e = true := by
  induction es with
  | nil => intro c hc; simp at hc
  | cons x es ih =>
    simp only [flatLL, Bool.and_eq_true] at h
    intro c hc
    rcases List.mem_cons.1 hc with rfl | hc
    · exact h.1
    · exact ih h.2 c hc
theorem flatLL_of {es : List (List Cell)} (h : ∀ e ∈ es, flatL e = true) : flatLL es = true := by
  induction es with
  | nil => rfl
  | cons x es ih => simp only [flatLL, Bool.and_eq_true]; exact ⟨h x (by simp), ih fun c hc => h c (by simp [hc])⟩
@[simp] theorem flatC_er (c : Cell) : flatC (erC c) = flatC c := by cases c <;> simp [flatC, erC]
def flatV : PV → Bool
  | .one c => flatC c
  | .agg cs => flatL cs
  | .tup vs => vs.attach.all fun ⟨v, _⟩ => flatV v
  | .undef => true
  | .gone => true
theorem RepC.flat {w : World} {M : Map} {c : Cell} {v : Value} (h : RepC w M c v) (B : Nat → Nat → Nat → Option Nat) (O : Nat → Option Nat) : flatC c = true → RepC w ⟨M.prot, B, O⟩ c v := by
  induction h with
  | int k n => exact fun _ => .int k n
  | bool b => exact fun _ => .bool b
  | str s => exact fun _ => .str s
  | nil o sz a c hf => exact fun _ => .nil o sz a c hf
  | slice o sz es b off cap f hl hp hf hc hw hr ih =>
    intro hfl
    rw [flatC] at hfl
    exact .slice o sz es b off cap f hl hp hf hc hw fun j i e c hj hi => ih j i e c hj hi (flatL_mem (flatLL_mem hfl e (List.mem_of_getElem? hj)) c (List.mem_of_getElem? hi))
  | box d t v off b hb => exact fun hfl => by simp [flatC] at hfl
  | cptr cs off b o f hp hw hr ih =>
    intro hfl
    rw [flatC] at hfl
    exact .cptr cs off b o f hp hw fun i c hi => ih i c hi (flatL_mem hfl c (List.mem_of_getElem? hi))
  | func f caps vs hs hr ih => exact fun hfl => by simp [flatC] at hfl
  | nilp => exact fun _ => .nilp
  | nilf => exact fun _ => .nilf
theorem RepV.flat {w : World} {M : Map} {p : PV} {v : Value} (h : RepV w M p v) (B : Nat → Nat → Nat → Option Nat) (O : Nat → Option Nat) : flatV p = true → RepV w ⟨M.prot, B, O⟩ p v := by
  induction h with
  | one c v h => exact fun hf => .one c v (h.flat B O (by rwa [flatV] at hf))
  | agg cs vs hs hr => exact fun hf => .agg cs vs hs fun i c hi => (hr i c hi).flat B O (flatL_mem (by rwa [flatV] at hf) c (List.mem_of_getElem? hi))
  | tup ps vs hs hr ih =>
    intro hf
    rw [flatV] at hf
    refine .tup ps vs hs fun i p hi => ih i p hi ?_
    have := List.all_eq_true.1 hf ⟨p, List.mem_of_getElem? hi⟩ (List.mem_attach _ _)
    exact this
  | undef v => exact fun _ => .undef v
  | gone => exact fun _ => .gone
@[simp] theorem flatV_one (c) : flatV (.one c) = flatC c := by rw [flatV]
@[simp] theorem flatV_agg (cs) : flatV (.agg cs) = flatL cs := by rw [flatV]
@[simp] theorem flatV_tup (vs : List PV) : flatV (.tup vs) = vs.all flatV := by
  rw [flatV]
  conv => rhs; rw [← List.attach_map_subtype_val vs, List.all_map]
  rfl
end Go.Proofs.YtnpgbkldpdogjaaGreatDoor.V

namespace Go.Proofs.YtnpgbkldpdogjaaGreatDoor.V
open Go
inductive TyK where
  | bool
  | struct (fs : List (Nat × Nat))     -- offset and size of each field
  | slice (e : TypeId)
  | array (n : Nat) (e : TypeId)
  | other
structure TyD where
  k : TyK
  size : Nat
  bytes : Nat
  zero : List Cell
def TyD.isAgg (d : TyD) : Bool := match d.k with
  | .struct _ | .array _ _ => true
  | _ => false
def zval : Cell → Value
  | .int k n => .int k n
  | .bool b => .bool b
  | .str s => .string s
  | .slice _ _ _ => .slice none 0 0
  | .nilf => .nilFunc
  | _ => .pointer none
def zeroOk : Cell → Bool
  | .int _ _ | .bool _ | .str _ | .nilp | .nilf => true
  | .slice .full _ [] => true
  | _ => false
def TyFits (P : Program) (t : TypeId) (d : TyD) : Prop :=
  ∃ i u, P.info? t = some i ∧ P.underlying t = some u ∧ i.size = d.size ∧ i.bytes = d.bytes ∧ d.zero.length = d.size ∧ d.zero.all zeroOk = true ∧
    i.zero = some (if d.isAgg then .agg (d.zero.map zval).toArray else zval (d.zero.headD .nilp)) ∧ (d.isAgg = false → d.size = 1) ∧
    match d.k with
    | .bool => u = .bool
    | .struct fs => ∃ fa : Array Field, u = .struct fa ∧ fa.size = fs.length ∧ ∀ (j : Nat) (p : Nat × Nat), fs[j]? = some p → ∃ (f : Field) (g : TypeInfo), fa[j]? = some f ∧ f.offset = p.1 ∧ P.info? f.type = some g ∧ g.size = p.2
    | .slice e => u = .slice e
    | .array n e => u = .array n e
    | .other => (∀ fs, u ≠ .struct fs) ∧ (∀ n e, u ≠ .array n e)
structure Cfg where
  P : Program
  T : TypeId → Option TyD
  gl : Nat → Option (List Cell)
abbrev Frm := Nat → List (List Cell)
structure Live where
  on : Nat → Bool
  nx : Nat
structure St where
  env : Nat → PV
  loc : Frm
  σ : List Frm
  live : Live
def upd {α : Type} (f : Nat → α) (k : Nat) (v : α) : Nat → α := fun j => if j = k then v else f j
@[simp] theorem upd_same {α : Type} (f : Nat → α) (k : Nat) (v : α) : upd f k v k = v := by simp [upd]
theorem upd_ne {α : Type} (f : Nat → α) (k : Nat) (v : α) (j : Nat) (h : j ≠ k) : upd f k v j = f j := by simp [upd, h]
def constC : Value → Cell
  | .int k n => .int k n
  | .bool b => .bool b
  | .string s => .str s
  | .slice none 0 0 => .slice .full 0 []
  | .nilFunc => .nilf
  | .pointer none => .nilp
  | _ => .cptr [] 0
def constOk : Value → Bool
  | .int _ _ | .bool _ | .string _ | .slice none 0 0 | .nilFunc | .pointer none => true
  | _ => false
def oper (C : Cfg) (env : Nat → PV) : Operand → PV
  | .tmp t => env t
  | .const v => if constOk v then .one (constC v) else .undef
  | .global g => match C.gl g with
    | some cs => .one (.cptr cs 0)
    | none => .undef
  | .func f => .one (.func f [])
def esize (C : Cfg) (t : TypeId) : Nat := match C.T t with
  | some d => match d.k with
    | .slice e => match C.T e with
      | some de => de.size
      | none => 0
    | _ => 0
  | none => 0
def operT (C : Cfg) (env : Nat → PV) (t : TypeId) : Operand → PV
  | .const (.slice none 0 0) => .one (.slice .full (esize C t) [])
  | x => oper C env x
def argsT (C : Cfg) (env : Nat → PV) : List TypeId → List Operand → List PV
  | _, [] => []
  | [], x :: xs => erV (oper C env x) :: argsT C env [] xs
  | t :: ts, x :: xs => erV (operT C env t x) :: argsT C env ts xs
def intC (op : BinOp) (k : IntKind) (a b : Int) : Option Cell :=
  match op with
  | .add => some (.int k (k.wrap (a + b)))
  | .sub => some (.int k (k.wrap (a - b)))
  | .mul => some (.int k (k.wrap (a * b)))
  | .rem => if b = 0 then none else some (.int k (a.tmod b))
  | .quo => if b = 0 then none else some (.int k (k.wrap (a.tdiv b)))
  | .and => some (.int k (k.wrap (BitVec.ofInt k.bits a &&& BitVec.ofInt k.bits b).toNat))
  | .or => some (.int k (k.wrap (BitVec.ofInt k.bits a ||| BitVec.ofInt k.bits b).toNat))
  | .eql => some (.bool (a == b))
  | .neq => some (.bool (a != b))
  | .lss => some (.bool (decide (a < b)))
  | .leq => some (.bool (decide (a ≤ b)))
  | .gtr => some (.bool (decide (a > b)))
  | .geq => some (.bool (decide (a ≥ b)))
  | _ => none
def binR (C : Cfg) (op : BinOp) (xt : TypeId) : PV → PV → PV → Prop
  | .one (.int k a), .one (.int k' b), r => k = k' ∧ ∃ c, intC op k a b = some c ∧ r = .one c
  | .one (.bool a), .one (.bool b), r => (∃ d, C.T xt = some d ∧ d.k = .bool) ∧ ((op = .eql ∧ r = .one (.bool (a == b))) ∨ (op = .neq ∧ r = .one (.bool (!(a == b)))))
  | _, _, _ => False
def addrP : PV → Nat → Option PV
  | .one (.box d t v off), o => some (.one (.box d t v (off + o)))
  | .one (.cptr cs off), o => some (.one (.cptr cs (off + o)))
  | _, _ => none
def PV.cells : PV → Option (List Cell)
  | .one c => some [c]
  | .agg cs => some cs
  | _ => none
def splice (cs : List Cell) (off : Nat) (ns : List Cell) : List Cell := cs.take off ++ ns ++ cs.drop (off + ns.length)
def fillC (fs : List (Nat × Nat)) : List Cell → List (Nat × PV) → Option (List Cell)
  | cs, [] => some cs
  | cs, (i, p) :: rest => match fs[i]?, p.cells with
    | some (off, size), some ns => if ns.length = size ∧ off + ns.length ≤ cs.length then fillC fs (splice cs off ns) rest else none
    | _, _ => none
def elemsOf : Nat → List (Nat × PV) → Option (List (List Cell))
  | _, [] => some []
  | j, (i, p) :: rest => match p.cells, elemsOf (j + 1) rest with
    | some ns, some es => if i = j then some (ns.map erC :: es) else none
    | _, _ => none
def onesOf : List PV → Option (List Cell)
  | [] => some []
  | .one c :: rest => (onesOf rest).map (c :: ·)
  | _ => none
def sliceR (lo hi mx : Option PV) (sz : Nat) (es : List (List Cell)) (r : PV) : Prop :=
  match lo, hi, mx with
  | none, some (.one (.int _ h)), some (.one (.int _ m)) => h = m ∧ 0 ≤ h ∧ h ≤ es.length ∧ r = .one (.slice .full sz (es.take h.toNat))
  | none, some (.one (.int _ h)), none => 0 ≤ h ∧ h ≤ es.length ∧ r = .one (.slice .no sz (es.take h.toNat))
  | some (.one (.int _ l)), none, none => 0 ≤ l ∧ l ≤ es.length ∧ r = .one (.slice .no sz (es.drop l.toNat))
  | _, _, _ => False
def opR (C : Cfg) (env : Nat → PV) (ty : TypeId) : Op → PV → Prop
  | .move x, r => r = operT C env ty x
  | .assign x, r => r = operT C env ty x
  | .pick c a b, r => ∃ t, oper C env c = .one (.bool t) ∧ r = if t then oper C env a else oper C env b
  | .binOp op xt x y _, r => binR C op xt (oper C env x) (oper C env y) r
  | .unOp .not _ x, r => ∃ b, oper C env x = .one (.bool b) ∧ r = .one (.bool (!b))
  | .extract x i, r => ∃ vs v, oper C env x = .tup vs ∧ vs[i]? = some v ∧ r = erV v
  | .fieldAddr s x f, r => ∃ d fs p, C.T s = some d ∧ d.k = .struct fs ∧ fs[f]? = some p ∧ 0 < p.2 ∧ addrP (oper C env x) p.1 = some r
  | .indexAddr t x i, r => ∃ d k n, C.T t = some d ∧ oper C env i = .one (.int k n) ∧ 0 ≤ n ∧
      match d.k with
      | .slice e => ∃ o sz es e' de, oper C env x = .one (.slice o sz es) ∧ C.T e = some de ∧ de.size = sz ∧ es[n.toNat]? = some e' ∧ r = .one (.cptr e' 0)
      | .array len e => ∃ de, C.T e = some de ∧ n < len ∧ addrP (oper C env x) (n.toNat * de.size) = some r
      | _ => False
  | .build t parts, r => ∃ d fs cs, C.T t = some d ∧ d.k = .struct fs ∧ fillC fs d.zero (parts.toList.map fun p => (p.1, oper C env p.2)) = some cs ∧ r = .agg cs
  | .buildSlice t len parts, r => ∃ d e de es, C.T t = some d ∧ d.k = .slice e ∧ C.T e = some de ∧ elemsOf 0 (parts.toList.map fun p => (p.1, oper C env p.2)) = some es ∧ es.length = len ∧
      (∀ x ∈ es, x.length = de.size) ∧ len * de.size ≤ 16777216 ∧ r = .one (.slice .full de.size es)
  | .makeFunc (.func f) first captured, r => first.toList = [] ∧ ∃ caps, onesOf (captured.toList.map (oper C env)) = some caps ∧ r = .one (.func f caps)
  | .nilCheck x, r => (∃ q, addrP (oper C env x) 0 = some q) ∧ r = oper C env x
  | .slice t x lo hi mx, r => ∃ d e de o sz es, C.T t = some d ∧ d.k = .slice e ∧ C.T e = some de ∧ de.size = sz ∧ oper C env x = .one (.slice o sz es) ∧
      sliceR (lo.map (oper C env)) (hi.map (oper C env)) (mx.map (oper C env)) sz es r
  | .call c, r => match c.callee with
    | .builtin .len => ∃ x d e o sz es, c.args.toList = [x] ∧ (∃ t, c.argTypes.toList = [t] ∧ C.T t = some d) ∧ d.k = .slice e ∧ oper C env x = .one (.slice o sz es) ∧ r = .one (.int .i64 es.length)
    | .builtin .max => ∃ x y k a b, c.args.toList = [x, y] ∧ oper C env x = .one (.int k a) ∧ oper C env y = .one (.int k b) ∧ r = .one (.int k (if b > a then b else a))
    | .builtin .min => ∃ x y k a b, c.args.toList = [x, y] ∧ oper C env x = .one (.int k a) ∧ oper C env y = .one (.int k b) ∧ r = .one (.int k (if b < a then b else a))
    | _ => False
  | _, _ => False
def readBox (st : St) (d t v : Nat) : Option (List Cell) :=
  if d = st.σ.length then (st.loc t)[v]? else (st.σ[d]?).bind fun f => (f t)[v]?
def mkPV (agg : Bool) (cs : List Cell) : PV :=
  if agg then .agg cs else match cs with
  | [c] => .one c
  | _ => .undef
def loadR (C : Cfg) (st : St) (t : TypeId) (x : PV) (r : PV) : Prop :=
  ∃ d, C.T t = some d ∧ match x with
    | .one (.box fd tt v off) => ∃ cs, readBox st fd tt v = some cs ∧ off + d.size ≤ cs.length ∧ r = (if fd = st.σ.length then mkPV d.isAgg ((cs.drop off).take d.size) else erV (mkPV d.isAgg ((cs.drop off).take d.size)))
    | .one (.cptr cs off) => off + d.size ≤ cs.length ∧ r = erV (mkPV d.isAgg ((cs.drop off).take d.size))
    | _ => False
def put (st : St) (dst : Option Tmp) (v : PV) : St :=
  match dst with
  | some d => { st with env := upd st.env d v }
  | none => st
def writeBox (st : St) (d t v off : Nat) (ns : List Cell) : St :=
  if d = st.σ.length then { st with loc := upd st.loc t ((st.loc t).modify v fun cs => splice cs off ns) }
  else { st with σ := st.σ.modify d fun f => upd f t ((f t).modify v fun cs => splice cs off (ns.map erC)) }
inductive Ret where
  | val (v : PV)
  | new (cs : List Cell)
def Outer (w : World) (M : Map) (σ : List Frm) : Prop :=
  ∀ d t v b, M.box d t v = some b → ∃ cs : List Cell, (∃ f, σ[d]? = some f ∧ (f t)[v]? = some cs) ∧ M.prot b = 0 ∧
    ∃ c e, w.heap[b]? = some (.cells c e (0, 0)) ∧ c.size = cs.length ∧ ∀ (i : Nat) (x : Cell), cs[i]? = some x → RepC w M x (c.getD i undef)
def Inj (M : Map) : Prop := ∀ d t v d' t' v' b, M.box d t v = some b → M.box d' t' v' = some b → d = d' ∧ t = t' ∧ v = v'
def Globs (C : Cfg) (w : World) (M : Map) : Prop := ∀ g cs, C.gl g = some cs → RepC w M (.cptr cs 0) (.pointer (some ⟨g, 0, none⟩))
structure Base (C : Cfg) (w : World) (M : Map) (σ : List Frm) : Prop where
  outer : Outer w M σ
  inj : Inj M
  globs : Globs C w M
  prot : ∀ b, w.heap.size ≤ b → M.prot b = 0
def isTip : Cell → Bool
  | .slice (.tip _) _ _ => true
  | _ => false
structure Keeps (w : World) (M : Map) (w' : World) (M' : Map) : Prop where
  os : w'.os = w.os
  tape : w'.tape = w.tape
  output : w'.output = w.output
  size : w.heap.size ≤ w'.heap.size
  prot : ∀ b, b < w.heap.size → M'.prot b = M.prot b
  keep : ∀ b, b < w.heap.size → (∀ d t v, M.box d t v ≠ some b) → w'.heap[b]? = w.heap[b]?
def RetRep (w : World) (M : Map) (w' : World) (M' : Map) : Ret → Value → Prop
  | .val p, v => M'.box = M.box ∧ RepV w' M' p v
  | .new cs, v => M'.box = M.box ∧ ∃ b c e, v = .pointer (some ⟨b, 0, none⟩) ∧ w.heap.size ≤ b ∧ w'.heap[b]? = some (.cells c e (0, 0)) ∧ c.size = cs.length ∧ M'.prot b = 0 ∧ ∀ (i : Nat) (x : Cell), cs[i]? = some x → isTip x = false ∧ RepC w' M' x (c.getD i undef)
def CallsV (C : Cfg) (f : FuncId) (args : List PV) (σ : List Frm) (r : Ret) (σ' : List Frm) : Prop :=
  (∃ fn, C.P.funcs[f]? = some fn ∧ (fn.name == "runtime.NumGoroutine") = false ∧ fn.body.isNone = false) ∧ (∀ p, r = .val p → erV p = p) ∧
  ∀ (w : World) (M : Map) (cargs : Array Value), Base C w M σ → cargs.size = args.length → (∀ (i : Nat) (p : PV), args[i]? = some p → RepV w M p (cargs.getD i undef)) →
    Calls C.P f cargs w fun e w' => ∃ M' v, e = .returned v ∧ Keeps w M w' M' ∧ Base C w' M' σ' ∧
      (∀ d t v b, M.box d t v = some b → ∀ (i : Nat) (x : Cell), (∃ f cs, σ'[d]? = some f ∧ (f t)[v]? = some cs ∧ cs[i]? = some x) → ((∃ f cs, σ[d]? = some f ∧ (f t)[v]? = some cs ∧ cs[i]? = some x) ∧ w'.cell? ⟨b, i, none⟩ = w.cell? ⟨b, i, none⟩) ∨ (flatC x = true ∧ isTip x = false)) ∧
      RetRep w M w' M' r v
def CallV (C : Cfg) (c : Call) (o : Oper) (K : St → Prop) (st : St) : Prop :=
  match c.callee with
  | .value f => ∃ fid caps r σ2 σ1 l1, oper C st.env f = .one (.func fid caps) ∧
      CallsV C fid (argsT C st.env c.argTypes.toList c.args.toList ++ caps.map fun c => .one (erC c)) (st.σ ++ [st.loc]) r σ2 ∧ σ2 = σ1 ++ [l1] ∧ σ1.length = st.σ.length ∧
      match r with
      | .val v => K (put { st with σ := σ1, loc := l1 } o.dst v)
      | .new cs => ∃ d, o.dst = some d ∧ K (put { st with σ := σ1, loc := upd l1 d (l1 d ++ [cs]) } o.dst (.one (.box st.σ.length d (l1 d).length 0)))
  | _ => False
def okOwn (live : Live) : Own → Prop
  | .no => False
  | .full => True
  | .tip k => live.on k = true
def killOwn (live : Nat → Bool) : Own → Nat → Bool
  | .tip k => upd live k false
  | _ => live
def grownLive (live : Live) (ow : Own) : Live := ⟨upd (killOwn live.on ow) live.nx true, live.nx + 1⟩
def AppendV (C : Cfg) (c : Call) (o : Oper) (K : St → Prop) (st : St) : Prop :=
  ∃ s x t u d e de ow sz es oy sy ys, c.args.toList = [s, x] ∧ c.argTypes.toList = [t, u] ∧ C.T t = some d ∧ d.k = .slice e ∧ C.T u = some d ∧ C.T e = some de ∧ 0 < de.size ∧
    oper C st.env s = .one (.slice ow sz es) ∧ (sz = de.size ∨ (es = [] ∧ ow = .full)) ∧ oper C st.env x = .one (.slice oy sy ys) ∧ (ys = [] ∨ sy = de.size) ∧ okOwn st.live ow ∧
    (es.length + ys.length) * de.bytes ≤ 140737488355328 ∧ es.length + ys.length ≤ 9223372036854775807 ∧
    K (put { st with live := grownLive st.live ow } o.dst (.one (.slice (.tip st.live.nx) de.size (es ++ ys.map fun e => e.map erC))))
def opV (C : Cfg) (o : Oper) (K : St → Prop) (st : St) : Prop :=
  match o.op with
  | .alloc t => ∃ d dst, C.T t = some d ∧ o.dst = some dst ∧ K { st with loc := upd st.loc dst (st.loc dst ++ [d.zero]), env := upd st.env dst (.one (.box st.σ.length dst (st.loc dst).length 0)) }
  | .box t x => ∃ d dst cs, C.T t = some d ∧ o.dst = some dst ∧ (oper C st.env x).cells = some cs ∧ cs.length = d.size ∧
      K { st with loc := upd st.loc dst (st.loc dst ++ [cs]), env := upd st.env dst (.one (.box st.σ.length dst (st.loc dst).length 0)) }
  | .load t x => ∃ r, loadR C st t (oper C st.env x) r ∧ K (put st o.dst r)
  | .store t x y => ∃ d fd tt v off cs ns, C.T t = some d ∧ oper C st.env x = .one (.box fd tt v off) ∧ readBox st fd tt v = some cs ∧ (operT C st.env t y).cells = some ns ∧ ns.length = d.size ∧ off + ns.length ≤ cs.length ∧
      (fd = st.σ.length ∨ flatL ns = true) ∧ K (put (writeBox st fd tt v off ns) o.dst .undef)
  | .call c => match c.callee with
    | .value _ => CallV C c o K st
    | .builtin .append => AppendV C c o K st
    | _ => ∃ r, opR C st.env o.type o.op r ∧ K (put st o.dst r)
  | _ => ∃ r, opR C st.env o.type o.op r ∧ K (put st o.dst r)
def gB : PV → Option (Option Bool)
  | .one (.bool b) => some (some b)
  | .gone => some none
  | _ => none
def guardV (ops : Array Oper) (o : Oper) (st : St) (run : Prop) (skip : Prop) : Prop :=
  match o.guard with
  | none => run
  | some (j, want) => ∃ oj t b, ops[j]? = some oj ∧ oj.dst = some t ∧ gB (st.env t) = some b ∧ (if b = some want then run else skip)
def opsV (C : Cfg) (ops : Array Oper) (K : St → Prop) : List Oper → St → Prop
  | [], st => K st
  | o :: rest, st => guardV ops o st (opV C o (opsV C ops K rest) st) (opsV C ops K rest (put st o.dst .gone))
inductive Ex where
  | normal
  | exit (id : Nat)
  | ret
def blockEx (id : Nat) (Q : Ex → St → Prop) : Ex → St → Prop
  | .exit i, st => if i = id then Q .normal st else Q (.exit i) st
  | e, st => Q e st
end Go.Proofs.YtnpgbkldpdogjaaGreatDoor.V

namespace Go.Proofs.YtnpgbkldpdogjaaGreatDoor.V
open Go
def TipC (w : World) (M : Map) (live : Live) : Cell → Value → Prop
  | .slice (.tip k) sz es, v => k < live.nx ∧ (live.on k = true → ∃ a cap, v = .slice a es.length cap ∧ (cap = es.length ∨ ∃ g cs e, a = some ⟨g, 0, none⟩ ∧ M.own k = some g ∧ M.prot g = es.length * sz ∧
      w.heap[g]? = some (.cells cs e (0, 0)) ∧ cap * sz ≤ cs.size ∧ es.length ≤ cap))
  | _, _ => True
def TipV (w : World) (M : Map) (live : Live) : PV → Value → Prop
  | .one c, v => TipC w M live c v
  | .agg cs, .agg vs => ∀ (i : Nat) (c : Cell), cs[i]? = some c → TipC w M live c (vs.getD i undef)
  | _, _ => True
theorem TipC.of_not {w : World} {M : Map} {live : Live} {c : Cell} {v : Value} (h : isTip c = false) : TipC w M live c v := by
  unfold TipC
  split
  · simp [isTip] at h
  · trivial
theorem isTip_erC (c : Cell) : isTip (erC c) = false := by cases c <;> rfl
theorem TipV.er {w : World} {M : Map} {live : Live} {p : PV} {v : Value} : TipV w M live (erV p) v := by
  cases p with
  | one c => rw [erV_one]; exact TipC.of_not (isTip_erC c)
  | agg cs =>
    rw [erV_agg]
    cases v with
    | agg vs =>
      intro i c hc
      rw [List.getElem?_map] at hc
      obtain ⟨c', _, rfl⟩ := Option.map_eq_some_iff.1 hc
      exact TipC.of_not (isTip_erC c')
    | _ => trivial
  | tup vs => rw [erV_tup]; trivial
  | undef => rw [erV_undef]; trivial
  | gone => rw [erV_gone]; trivial
theorem TipV.imp {w w1 : World} {M M1 : Map} {live live1 : Live} {p : PV} {v : Value} (hi : ∀ x v, TipC w M live x v → TipC w1 M1 live1 x v) (h : TipV w M live p v) : TipV w1 M1 live1 p v := by
  cases p with
  | one c => exact hi _ _ h
  | agg cs =>
    cases v with
    | agg vs => exact fun i c hc => hi _ _ (h i c hc)
    | _ => trivial
  | _ => trivial
structure Sim (C : Cfg) (N : Nat) (w0 : World) (M0 : Map) (σ0 : List Frm) (Φ : Nat → Nat → Bool) (st : St) (w : World) (M : Map) (a : Act) : Prop where
  keeps : Keeps w0 M0 w M
  base : Base C w M (st.σ ++ [st.loc])
  boxes0 : ∀ d t v, d < st.σ.length → M.box d t v = M0.box d t v
  box0 : ∀ d t v b, M0.box d t v = some b → d < st.σ.length ∧ b < w0.heap.size
  newbox : ∀ t v b, M.box st.σ.length t v = some b → w0.heap.size ≤ b
  tipsO : ∀ d t v b, M0.box d t v = some b → ∀ (i : Nat) (x : Cell), (∃ f cs, st.σ[d]? = some f ∧ (f t)[v]? = some cs ∧ cs[i]? = some x) → ((∃ f cs, σ0[d]? = some f ∧ (f t)[v]? = some cs ∧ cs[i]? = some x) ∧ w.cell? ⟨b, i, none⟩ = w0.cell? ⟨b, i, none⟩) ∨ (flatC x = true ∧ isTip x = false)
  phan : ∀ t v, Φ t v = true → M.box st.σ.length t v = none
  size : a.tmps.size = N
  defers : a.defers = []
  tmps : ∀ t, RepV w M (st.env t) (a.tmps.getD t undef)
  tipsT : ∀ t, TipV w M st.live (st.env t) (a.tmps.getD t undef)
  tipsL : ∀ t v b c e, M.box st.σ.length t v = some b → w.heap[b]? = some (.cells c e (0, 0)) → ∀ (i : Nat) (x : Cell) (cs : List Cell), (st.loc t)[v]? = some cs → cs[i]? = some x → TipC w M st.live x (c.getD i undef)
  own : ∀ k g, M.own k = some g → w0.heap.size ≤ g ∧ g < w.heap.size ∧ k < st.live.nx ∧ (∀ d t v, M.box d t v ≠ some g)
  live : ∀ k, st.live.on k = true → k < st.live.nx
  uniq : ∀ k k' g, st.live.on k = true → st.live.on k' = true → M.own k = some g → M.own k' = some g → k = k'
structure Grow (w : World) (M : Map) (w1 : World) (M1 : Map) : Prop where
  os : w1.os = w.os
  tape : w1.tape = w.tape
  output : w1.output = w.output
  size : w.heap.size ≤ w1.heap.size
  heap : ∀ b, b < w.heap.size → w1.heap[b]? = w.heap[b]?
  prot : ∀ b, b < w.heap.size → M1.prot b = M.prot b
  prot0 : ∀ b, w1.heap.size ≤ b → M1.prot b = 0
  box : M1.box = M.box
  own : M1.own = M.own
theorem cell_of_heap {w w1 : World} {b i : Nat} (h : w1.heap[b]? = w.heap[b]?) : w1.cell? ⟨b, i, none⟩ = w.cell? ⟨b, i, none⟩ := by simp only [World.cell?, h]
theorem lt_of_heap {w : World} {b : Nat} {o : Obj} (h : w.heap[b]? = some o) : b < w.heap.size := (Array.getElem?_eq_some_iff.1 h).1
theorem Grow.mono {w w1 : World} {M M1 : Map} (h : Grow w M w1 M1) (h0 : ∀ b, w.heap.size ≤ b → M.prot b = 0) : Mono w M w1 M1 := by
  refine ⟨fun b => ?_, fun b i hi => ?_, fun d t v b hb => by rw [h.box]; exact hb⟩
  · by_cases hb : b < w.heap.size
    · rw [h.prot b hb]; exact Nat.le_refl _
    · rw [h0 b (by omega)]; exact Nat.zero_le _
  · have hb : b < w.heap.size := by
      rcases Nat.lt_or_ge b w.heap.size with h' | h'
      · exact h'
      · rw [h0 b h'] at hi; omega
    exact cell_of_heap (h.heap b hb)
theorem Keeps.grow {w0 w w1 : World} {M0 M M1 : Map} (h : Keeps w0 M0 w M) (g : Grow w M w1 M1) : Keeps w0 M0 w1 M1 :=
  ⟨g.os.trans h.os, g.tape.trans h.tape, g.output.trans h.output, Nat.le_trans h.size g.size, fun b hb => (g.prot b (Nat.lt_of_lt_of_le hb h.size)).trans (h.prot b hb),
    fun b hb hn => (g.heap b (Nat.lt_of_lt_of_le hb h.size)).trans (h.keep b hb hn)⟩
theorem Outer.lt {w : World} {M : Map} {σ : List Frm} (h : Outer w M σ) {d t v b : Nat} (hb : M.box d t v = some b) : b < w.heap.size := by
  obtain ⟨_, _, _, c, e, hh, _⟩ := h d t v b hb
  exact lt_of_heap hh
theorem Outer.grow {w w1 : World} {M M1 : Map} {σ : List Frm} (h : Outer w M σ) (g : Grow w M w1 M1) (m : Mono w M w1 M1) : Outer w1 M1 σ := by
  intro d t v b hb
  rw [g.box] at hb
  obtain ⟨cs, hf, hp, c, e, hh, hs, hr⟩ := h d t v b hb
  have hlt := lt_of_heap hh
  exact ⟨cs, hf, by rw [g.prot b hlt]; exact hp, c, e, by rw [g.heap b hlt]; exact hh, hs, fun i x hx => (hr i x hx).mono m⟩
theorem TipC.grow {w w1 : World} {M M1 : Map} {live : Live} {c : Cell} {v : Value} (h : TipC w M live c v) (g : Grow w M w1 M1) : TipC w1 M1 live c v := by
  unfold TipC at *
  split
  · obtain ⟨hb, h⟩ := h
    refine ⟨hb, fun hl => ?_⟩
    obtain ⟨a, cap, hv, h1⟩ := h hl
    refine ⟨a, cap, hv, ?_⟩
    rcases h1 with h1 | ⟨b, cs, e, ha, ho, hp, hh, hc⟩
    · exact .inl h1
    · have hlt := lt_of_heap hh
      exact .inr ⟨b, cs, e, ha, by rw [g.own]; exact ho, by rw [g.prot b hlt]; exact hp, by rw [g.heap b hlt]; exact hh, hc⟩
  · trivial
theorem TipV.grow {w w1 : World} {M M1 : Map} {live : Live} {p : PV} {v : Value} (h : TipV w M live p v) (g : Grow w M w1 M1) : TipV w1 M1 live p v := by
  exact TipV.imp (fun _ _ hx => hx.grow g) h
theorem Sim.grow {C : Cfg} {N : Nat} {w0 w w1 : World} {M0 M M1 : Map} {σ0 : List Frm} {Φ : Nat → Nat → Bool} {st : St} {a : Act} (h : Sim C N w0 M0 σ0 Φ st w M a) (g : Grow w M w1 M1) : Sim C N w0 M0 σ0 Φ st w1 M1 a := by
  have m := g.mono h.base.prot
  refine ⟨h.keeps.grow g, ⟨h.base.outer.grow g m, by rw [Inj, g.box]; exact h.base.inj, fun x cs hx => (h.base.globs x cs hx).mono m, g.prot0⟩, fun d t v hd => by rw [g.box]; exact h.boxes0 d t v hd, h.box0,
    fun t v b hb => h.newbox t v b (by rw [← g.box]; exact hb), ?_, fun t v hp => by rw [g.box]; exact h.phan t v hp, h.size, h.defers, fun t => (h.tmps t).mono m, fun t => (h.tipsT t).grow g, ?_, ?_, h.live, ?_⟩
  · intro d t v b hb i x hx
    rw [cell_of_heap (g.heap b ?_)]
    · exact h.tipsO d t v b hb i x hx
    · exact Nat.lt_of_lt_of_le (h.box0 d t v b hb).2 h.keeps.size
  · intro t v b c e hb hh i x cs hl hx
    rw [g.box] at hb
    rw [g.heap b (h.base.outer.lt hb)] at hh
    exact (h.tipsL t v b c e hb hh i x cs hl hx).grow g
  · intro k b hk
    rw [g.own] at hk
    obtain ⟨h1, h2, h3, h4⟩ := h.own k b hk
    exact ⟨h1, Nat.lt_of_lt_of_le h2 g.size, h3, fun d t v => by rw [g.box]; exact h4 d t v⟩
  · intro k k' b hl hl' hk hk'
    rw [g.own] at hk hk'
    exact h.uniq k k' b hl hl' hk hk'
theorem Sim.put {C : Cfg} {N : Nat} {w0 w : World} {M0 M : Map} {σ0 : List Frm} {Φ : Nat → Nat → Bool} {st : St} {a : Act} (h : Sim C N w0 M0 σ0 Φ st w M a) (dst : Option Tmp) (hd : ∀ d, dst = some d → d < N) {r : PV} {v : Value} (hr : RepV w M r v) (ht : TipV w M st.live r v) :
    Sim C N w0 M0 σ0 Φ (put st dst r) w M (a.put dst v) := by
  cases dst with
  | none => exact h
  | some d =>
    have hdN := hd d rfl
    have hget : ∀ t, (a.tmps.setIfInBounds d v).getD t undef = if t = d then v else a.tmps.getD t undef := by
      intro t
      rw [Array.getD_eq_getD_getElem?, Array.getD_eq_getD_getElem?, Array.getElem?_setIfInBounds]
      by_cases e : t = d
      · subst e
        rw [if_pos rfl, if_pos (by rw [h.size]; exact hdN), if_pos rfl]
        try rfl
      · rw [if_neg (fun e' => e e'.symm), if_neg e]
    refine ⟨h.keeps, h.base, h.boxes0, h.box0, h.newbox, h.tipsO, h.phan, by simp [Act.put, h.size], h.defers, fun t => ?_, fun t => ?_, h.tipsL, h.own, h.live, h.uniq⟩
    · simp only [V.put, Act.put, hget, upd]
      by_cases e : t = d
      · rw [if_pos e, if_pos e]; exact hr
      · rw [if_neg e, if_neg e]; exact h.tmps t
    · simp only [V.put, Act.put, hget, upd]
      by_cases e : t = d
      · rw [if_pos e, if_pos e]; exact ht
      · rw [if_neg e, if_neg e]; exact h.tipsT t
theorem Sim.addBox {C : Cfg} {N : Nat} {w0 w : World} {M0 M : Map} {σ0 : List Frm} {Φ : Nat → Nat → Bool} {st : St} {a : Act} (h : Sim C N w0 M0 σ0 Φ st w M a) (t : Nat) (cs : List Cell) (b : Nat) (c : Array Value) (e : TypeId)
    (hw : w0.heap.size ≤ b) (hb : w.heap[b]? = some (.cells c e (0, 0))) (hp : M.prot b = 0) (hfree : ∀ d t v, M.box d t v ≠ some b) (hown : ∀ k, M.own k ≠ some b)
    (hs : c.size = cs.length) (hr : ∀ (i : Nat) (x : Cell), cs[i]? = some x → RepC w M x (c.getD i undef)) (ht : ∀ (i : Nat) (x : Cell), cs[i]? = some x → TipC w M st.live x (c.getD i undef)) (hΦ : Φ t (st.loc t).length = false) :
    Sim C N w0 M0 σ0 Φ { st with loc := upd st.loc t (st.loc t ++ [cs]) } w { M with box := fun d t' v => if d = st.σ.length ∧ t' = t ∧ v = (st.loc t).length then some b else M.box d t' v } a := by
  have hnone : M.box st.σ.length t (st.loc t).length = none := by
    cases hx : M.box st.σ.length t (st.loc t).length with
    | none => rfl
    | some b' =>
      obtain ⟨cs', ⟨f, hf, hv⟩, _⟩ := h.base.outer _ _ _ _ hx
      rw [List.getElem?_append_right (Nat.le_refl _), Nat.sub_self] at hf
      simp only [List.getElem?_cons_zero, Option.some.injEq] at hf
      subst hf
      have := (List.getElem?_eq_some_iff.1 hv).1
      omega
  have hm : Mono w M w { M with box := fun d t' v => if d = st.σ.length ∧ t' = t ∧ v = (st.loc t).length then some b else M.box d t' v } := by
    refine ⟨fun _ => Nat.le_refl _, fun _ _ _ => rfl, fun d t' v b' hb' => ?_⟩
    show (if d = st.σ.length ∧ t' = t ∧ v = (st.loc t).length then some b else M.box d t' v) = some b'
    rw [if_neg]
    · exact hb'
    · rintro ⟨rfl, rfl, rfl⟩
      rw [hnone] at hb'
      cases hb'
  have hlt := lt_of_heap hb
  have hloc : ∀ (t' v : Nat) (cs' : List Cell), (st.loc t')[v]? = some cs' → (upd st.loc t (st.loc t ++ [cs]) t')[v]? = some cs' := by
    intro t' v cs' hv
    unfold upd
    split
    · rename_i e'; subst e'
      rw [List.getElem?_append_left (List.getElem?_eq_some_iff.1 hv).1]; exact hv
    · exact hv
  have tipm : ∀ {x : Cell} {v : Value}, TipC w M st.live x v → TipC w { M with box := fun d t' v => if d = st.σ.length ∧ t' = t ∧ v = (st.loc t).length then some b else M.box d t' v } st.live x v := by
    intro x v hx
    unfold TipC at *
    split at hx
    · exact hx
    · trivial
  refine ⟨⟨h.keeps.os, h.keeps.tape, h.keeps.output, h.keeps.size, h.keeps.prot, h.keeps.keep⟩, ⟨?_, ?_, fun x cs hx => (h.base.globs x cs hx).mono hm, h.base.prot⟩, ?_, h.box0, ?_, h.tipsO, ?_, h.size, h.defers, fun t => (h.tmps t).mono hm, ?_, ?_, ?_, h.live, h.uniq⟩
  · intro d t' v b' hb'
    replace hb' : (if d = st.σ.length ∧ t' = t ∧ v = (st.loc t).length then some b else M.box d t' v) = some b' := hb'
    by_cases e' : d = st.σ.length ∧ t' = t ∧ v = (st.loc t).length
    · rw [if_pos e'] at hb'
      obtain ⟨rfl, rfl, rfl⟩ := e'
      cases hb'
      refine ⟨cs, ⟨_, by rw [List.getElem?_append_right (Nat.le_refl _), Nat.sub_self]; try rfl, ?_⟩, hp, c, e, hb, hs, fun i x hx => (hr i x hx).mono hm⟩
      simp
    · rw [if_neg e'] at hb'
      obtain ⟨cs', ⟨f, hf, hv⟩, hp', c', e1, hh, hs', hr'⟩ := h.base.outer d t' v b' hb'
      refine ⟨cs', ?_, hp', c', e1, hh, hs', fun i x hx => (hr' i x hx).mono hm⟩
      by_cases hd : d < st.σ.length
      · rw [List.getElem?_append_left hd] at hf
        exact ⟨f, by rw [List.getElem?_append_left hd]; exact hf, hv⟩
      · have : d = st.σ.length := by
          have := (List.getElem?_eq_some_iff.1 hf).1
          rw [List.length_append, List.length_singleton] at this
          omega
        subst this
        rw [List.getElem?_append_right (Nat.le_refl _), Nat.sub_self] at hf
        simp only [List.getElem?_cons_zero, Option.some.injEq] at hf
        subst hf
        exact ⟨_, by rw [List.getElem?_append_right (Nat.le_refl _), Nat.sub_self]; try rfl, hloc t' v cs' hv⟩
  · intro d t1 v d' t' v' b' hb1 hb2
    replace hb1 : (if d = st.σ.length ∧ t1 = t ∧ v = (st.loc t).length then some b else M.box d t1 v) = some b' := hb1
    replace hb2 : (if d' = st.σ.length ∧ t' = t ∧ v' = (st.loc t).length then some b else M.box d' t' v') = some b' := hb2
    by_cases e1 : d = st.σ.length ∧ t1 = t ∧ v = (st.loc t).length <;> by_cases e2 : d' = st.σ.length ∧ t' = t ∧ v' = (st.loc t).length
    · obtain ⟨rfl, rfl, rfl⟩ := e1; obtain ⟨rfl, rfl, rfl⟩ := e2; exact ⟨rfl, rfl, rfl⟩
    · rw [if_pos e1] at hb1; rw [if_neg e2] at hb2; cases hb1; exact absurd hb2 (hfree _ _ _)
    · rw [if_neg e1] at hb1; rw [if_pos e2] at hb2; cases hb2; exact absurd hb1 (hfree _ _ _)
    · rw [if_neg e1] at hb1; rw [if_neg e2] at hb2; exact h.base.inj _ _ _ _ _ _ _ hb1 hb2
  · intro d t' v hd
    show (if d = st.σ.length ∧ t' = t ∧ v = (st.loc t).length then some b else M.box d t' v) = _
    rw [if_neg (by rintro ⟨rfl, _⟩; exact absurd hd (Nat.lt_irrefl _))]
    exact h.boxes0 d t' v hd
  · intro t' v b' hb'
    replace hb' : (if st.σ.length = st.σ.length ∧ t' = t ∧ v = (st.loc t).length then some b else M.box st.σ.length t' v) = some b' := hb'
    split at hb'
    · cases hb'; exact hw
    · exact h.newbox t' v b' hb'
  · intro t' v hp
    show (if st.σ.length = st.σ.length ∧ t' = t ∧ v = (st.loc t).length then some b else M.box st.σ.length t' v) = none
    rw [if_neg (by rintro ⟨_, rfl, rfl⟩; rw [hΦ] at hp; cases hp)]
    exact h.phan t' v hp
  · exact fun t' => TipV.imp (fun _ _ hx => tipm hx) (h.tipsT t')
  · intro t' v b' c' e' hb' hh i x cs' hl hx
    replace hb' : (if st.σ.length = st.σ.length ∧ t' = t ∧ v = (st.loc t).length then some b else M.box st.σ.length t' v) = some b' := hb'
    by_cases e1 : st.σ.length = st.σ.length ∧ t' = t ∧ v = (st.loc t).length
    · rw [if_pos e1] at hb'
      obtain ⟨_, rfl, rfl⟩ := e1
      cases hb'
      rw [hb] at hh
      cases hh
      have : cs' = cs := by simpa using hl.symm
      subst this
      exact tipm (ht i x hx)
    · rw [if_neg e1] at hb'
      have hl' : (st.loc t')[v]? = some cs' := by
        replace hl : (upd st.loc t (st.loc t ++ [cs]) t')[v]? = some cs' := hl
        unfold upd at hl
        split at hl
        · rename_i e2; subst e2
          have hv : v ≠ (st.loc t').length := fun e3 => e1 ⟨rfl, rfl, e3⟩
          have hlt2 := (List.getElem?_eq_some_iff.1 hl).1
          rw [List.length_append, List.length_singleton] at hlt2
          rw [List.getElem?_append_left (by omega)] at hl
          exact hl
        · exact hl
      exact tipm (h.tipsL t' v b' c' e' hb' hh i x cs' hl' hx)
  · intro k g hk
    obtain ⟨h1, h2, h3, h4⟩ := h.own k g hk
    refine ⟨h1, h2, h3, fun d t' v hb' => ?_⟩
    replace hb' : (if d = st.σ.length ∧ t' = t ∧ v = (st.loc t).length then some b else M.box d t' v) = some g := hb'
    split at hb'
    · cases hb'; exact hown k hk
    · exact h4 _ _ _ hb'
end Go.Proofs.YtnpgbkldpdogjaaGreatDoor.V

namespace Go.Proofs.YtnpgbkldpdogjaaGreatDoor.V
open Go
theorem Grow.refl {w : World} {M : Map} (h0 : ∀ b, w.heap.size ≤ b → M.prot b = 0) : Grow w M w M := ⟨rfl, rfl, rfl, Nat.le_refl _, fun _ _ => rfl, fun _ _ => rfl, h0, rfl, rfl⟩
theorem rep_const {w : World} {M : Map} {v : Value} (h : constOk v = true) : RepC w M (constC v) v := by
  unfold constOk at h
  split at h
  · exact .int _ _
  · exact .bool _
  · exact .str _
  · exact .nil _ _ _ _ (fun _ => rfl)
  · exact .nilf
  · exact .nilp
  · cases h
theorem not_tip_const {v : Value} : isTip (constC v) = false := by
  unfold constC
  split <;> rfl
theorem Sim.eval {C : Cfg} {N : Nat} {w0 w : World} {M0 M : Map} {σ0 : List Frm} {Φ : Nat → Nat → Bool} {st : St} {a : Act} (h : Sim C N w0 M0 σ0 Φ st w M a) (x : Operand) : RepV w M (oper C st.env x) (a.eval x) ∧ TipV w M st.live (oper C st.env x) (a.eval x) := by
  cases x with
  | tmp t => exact ⟨h.tmps t, h.tipsT t⟩
  | const v =>
    simp only [oper]
    by_cases hc : constOk v = true
    · rw [if_pos hc]
      exact ⟨.one _ _ (rep_const hc), TipC.of_not not_tip_const⟩
    · rw [if_neg hc]
      exact ⟨.undef _, trivial⟩
  | global g =>
    simp only [oper]
    cases hg : C.gl g with
    | none => exact ⟨.undef _, trivial⟩
    | some cs => exact ⟨.one _ _ (h.base.globs g cs hg), trivial⟩
  | func f => exact ⟨.one _ _ (.func f [] #[] rfl (fun i c hc => by simp at hc)), trivial⟩
theorem Sim.evalT {C : Cfg} {N : Nat} {w0 w : World} {M0 M : Map} {σ0 : List Frm} {Φ : Nat → Nat → Bool} {st : St} {a : Act} (h : Sim C N w0 M0 σ0 Φ st w M a) (t : TypeId) (x : Operand) : RepV w M (operT C st.env t x) (a.eval x) ∧ TipV w M st.live (operT C st.env t x) (a.eval x) := by
  unfold operT
  split
  · exact ⟨.one _ _ (.nil _ _ _ _ fun _ => rfl), trivial⟩
  · exact h.eval x
theorem argsT_length (C : Cfg) (env : Nat → PV) : ∀ (xs : List Operand) (ts : List TypeId), (argsT C env ts xs).length = xs.length
  | [], _ => rfl
  | _ :: xs, [] => congrArg (· + 1) (argsT_length C env xs [])
  | _ :: xs, _ :: ts => congrArg (· + 1) (argsT_length C env xs ts)
theorem argsT_get (C : Cfg) (env : Nat → PV) : ∀ (xs : List Operand) (ts : List TypeId) (i : Nat) (p : PV), (argsT C env ts xs)[i]? = some p → ∃ x, xs[i]? = some x ∧ (p = erV (oper C env x) ∨ ∃ t, p = erV (operT C env t x))
  | [], _, i, p, h => by simp [argsT] at h
  | x :: xs, [], 0, p, h => ⟨x, rfl, .inl (by simpa [argsT] using h.symm)⟩
  | x :: xs, t :: ts, 0, p, h => ⟨x, rfl, .inr ⟨t, by simpa [argsT] using h.symm⟩⟩
  | x :: xs, [], i + 1, p, h => argsT_get C env xs [] i p (by simpa [argsT] using h)
  | x :: xs, t :: ts, i + 1, p, h => argsT_get C env xs ts i p (by simpa [argsT] using h)
section
variable {w : World} {M : Map}
theorem RepV.one_inv {c : Cell} {v : Value} (h : RepV w M (.one c) v) : RepC w M c v := by cases h; assumption
theorem rep_int {k : IntKind} {n : Int} {v : Value} (h : RepV w M (.one (.int k n)) v) : v = .int k n := by cases h.one_inv; rfl
theorem rep_bool {b : Bool} {v : Value} (h : RepV w M (.one (.bool b)) v) : v = .bool b := by cases h.one_inv; rfl
theorem rep_box {d t x off : Nat} {v : Value} (h : RepV w M (.one (.box d t x off)) v) : ∃ b, M.box d t x = some b ∧ v = .pointer (some ⟨b, off, none⟩) := by cases h.one_inv with | box _ _ _ _ b hb => exact ⟨b, hb, rfl⟩
theorem rep_cptr {cs : List Cell} {off : Nat} {v : Value} (h : RepV w M (.one (.cptr cs off)) v) : ∃ b o, ∃ f : Nat → Value, v = .pointer (some ⟨b, o + off, none⟩) ∧ o + cs.length ≤ M.prot b ∧
    (∀ (i : Nat) (c : Cell), cs[i]? = some c → w.cell? ⟨b, o + i, none⟩ = some (f i)) ∧ (∀ (i : Nat) (c : Cell), cs[i]? = some c → RepC w M c (f i)) := by
  cases h.one_inv with | cptr _ _ b o f hp hw hr => exact ⟨b, o, f, rfl, hp, hw, hr⟩
theorem rep_slice {o : Own} {sz : Nat} {es : List (List Cell)} {v : Value} (h : RepV w M (.one (.slice o sz es)) v) :
    ∃ a cap, v = .slice a es.length cap ∧ es.length ≤ cap ∧ (o = .full → cap = es.length) ∧ (es ≠ [] → ∃ b off, ∃ f : Nat → Nat → Value, a = some ⟨b, off, none⟩ ∧ (∀ e ∈ es, e.length = sz) ∧ off + es.length * sz ≤ M.prot b ∧
      (∀ (j i : Nat) (e : List Cell) (c : Cell), es[j]? = some e → e[i]? = some c → w.cell? ⟨b, off + (j * sz + i), none⟩ = some (f j i)) ∧
      (∀ (j i : Nat) (e : List Cell) (c : Cell), es[j]? = some e → e[i]? = some c → RepC w M c (f j i))) := by
  cases h.one_inv with
  | nil _ _ a c hf => exact ⟨a, c, rfl, Nat.zero_le _, fun h => hf h, fun h => absurd rfl h⟩
  | slice _ _ _ b off cap f hl hp hf hc hw hr => exact ⟨_, cap, rfl, hc, hf, fun _ => ⟨b, off, f, rfl, hl, hp, hw, hr⟩⟩
theorem rep_agg {cs : List Cell} {v : Value} (h : RepV w M (.agg cs) v) : ∃ vs : Array Value, v = .agg vs ∧ vs.size = cs.length ∧ ∀ (i : Nat) (c : Cell), cs[i]? = some c → RepC w M c (vs.getD i undef) := by
  cases h with | agg _ vs hs hr => exact ⟨vs, rfl, hs, hr⟩
theorem rep_tup {ps : List PV} {v : Value} (h : RepV w M (.tup ps) v) : ∃ vs : Array Value, v = .tuple vs ∧ vs.size = ps.length ∧ ∀ (i : Nat) (p : PV), ps[i]? = some p → RepV w M p (vs.getD i undef) := by
  cases h with | tup _ vs hs hr => exact ⟨vs, rfl, hs, hr⟩
theorem rep_func {f : FuncId} {caps : List Cell} {v : Value} (h : RepV w M (.one (.func f caps)) v) : ∃ vs : Array Value, v = .func (.func f) #[] vs ∧ vs.size = caps.length ∧ ∀ (i : Nat) (c : Cell), caps[i]? = some c → RepC w M c (vs.getD i undef) := by
  cases h.one_inv with | func _ _ vs hs hr => exact ⟨vs, rfl, hs, hr⟩
theorem rep_cells {p : PV} {cs : List Cell} {v : Value} (h : RepV w M p v) (hc : p.cells = some cs) : v.cells.size = cs.length ∧ (∀ (i : Nat) (c : Cell), cs[i]? = some c → RepC w M c (v.cells.getD i undef)) ∧ (∀ u ∈ v.cells.toList, u.oneCell' = true) := by
  have one : ∀ {c : Cell} {v : Value}, RepC w M c v → v.cells = #[v] ∧ v.oneCell' = true := by
    intro c v h
    cases h <;> exact ⟨rfl, rfl⟩
  cases p with
  | one c =>
    cases hc
    obtain ⟨h1, h2⟩ := one h.one_inv
    rw [h1]
    refine ⟨rfl, fun i c' hc' => ?_, fun u hu => by simp at hu; rw [hu]; exact h2⟩
    cases i with
    | zero => simp at hc'; subst hc'; simpa using h.one_inv
    | succ i => simp at hc'
  | agg cs' =>
    cases hc
    obtain ⟨vs, rfl, hs, hr⟩ := rep_agg h
    refine ⟨hs, hr, fun u hu => ?_⟩
    obtain ⟨i, hi, rfl⟩ := List.mem_iff_getElem.1 hu
    have hi2 : i < vs.size := by simpa [Value.cells] using hi
    have hi' : i < cs.length := by rw [← hs]; exact hi2
    have := hr i cs[i] (List.getElem?_eq_getElem hi')
    rw [Array.getD_eq_getD_getElem?, Array.getElem?_eq_getElem hi2] at this
    exact (one (show RepC w M cs[i] vs[i] by simpa using this)).2
  | tup vs => cases hc
  | undef => cases hc
  | gone => cases hc
theorem tip_cells {live : Live} {p : PV} {cs : List Cell} {v : Value} (hr : RepV w M p v) (h : TipV w M live p v) (hc : p.cells = some cs) : ∀ (i : Nat) (c : Cell), cs[i]? = some c → TipC w M live c (v.cells.getD i undef) := by
  cases p with
  | one c =>
    cases hc
    have h1 : v.cells = #[v] := by cases hr.one_inv <;> rfl
    rw [h1]
    intro i c' hc'
    cases i with
    | zero => simp at hc'; subst hc'; simpa using (show TipC w M live c v from h)
    | succ i => simp at hc'
  | agg cs' =>
    cases hc
    obtain ⟨vs, rfl, hs, _⟩ := rep_agg hr
    exact h
  | tup vs => cases hc
  | undef => cases hc
  | gone => cases hc
end
theorem addr_add (b o n : Nat) : (⟨b, o, none⟩ : Addr).add n = ⟨b, o + n, none⟩ := by unfold Addr.add; split <;> simp_all
theorem addrP_rep {w : World} {M : Map} {p q : PV} {o : Nat} {v : Value} (hr : RepV w M p v) (h : addrP p o = some q) : ∃ a : Addr, v = .pointer (some a) ∧ RepV w M q (.pointer (some (a.add o))) ∧ ∀ (live : Live) (u : Value), TipV w M live q u := by
  unfold addrP at h
  split at h
  · cases h
    obtain ⟨b, hb, rfl⟩ := rep_box hr
    exact ⟨_, rfl, by rw [addr_add]; exact .one _ _ (.box _ _ _ _ _ hb), fun _ _ => trivial⟩
  · cases h
    obtain ⟨b, off, f, rfl, hp, hw, hr'⟩ := rep_cptr hr
    exact ⟨_, rfl, by rw [addr_add, Nat.add_assoc]; exact .one _ _ (.cptr _ _ _ _ f hp hw hr'), fun _ _ => trivial⟩
  · cases h
theorem run_sizeOf' {P : Program} {t : TypeId} {i : TypeInfo} (h : P.info? t = some i) (w : World) : (sizeOf t).run P w = .ok i.size w := by simp [sizeOf, typeInfo, h]
theorem intC_run {P : Program} {op : BinOp} {k : IntKind} {a b : Int} {c : Cell} (h : intC op k a b = some c) (t : TypeId) (w : World) :
    ∃ v, (binOp op t (.int k a) (.int k b)).run P w = .ok v w ∧ ∀ M, RepC w M c v ∧ isTip c = false := by
  cases op <;> simp only [intC] at h <;> first
    | (cases h; exact ⟨_, rfl, fun M => ⟨by constructor, rfl⟩⟩)
    | (cases h; refine ⟨_, by simp only [binOp]; simp [Op.intArith, Op.intBits, Op.intCmp]; rfl, fun M => ⟨by constructor, rfl⟩⟩)
    | (split at h
       · cases h
       · rename_i hb
         cases h
         refine ⟨_, by simp only [binOp]; simp [Op.intDiv, hb]; rfl, fun M => ⟨by constructor, rfl⟩⟩)
    | cases h
def Gives (C : Cfg) (a : Act) (live : Live) (w : World) (M : Map) (o : Oper) (r : PV) : Prop :=
  ∃ v w1 M1, (execOp a.eval o).run C.P w = .ok (.value v) w1 ∧ Grow w M w1 M1 ∧ RepV w1 M1 r v ∧ TipV w1 M1 live r v
section
variable {C : Cfg} {N : Nat} {w0 w : World} {M0 M : Map} {σ0 : List Frm} {Φ : Nat → Nat → Bool} {st : St} {a : Act}
theorem gives_plain (h : Sim C N w0 M0 σ0 Φ st w M a) {o : Oper} {r : PV} {v : Value} (hrun : (execOp a.eval o).run C.P w = .ok (.value v) w) (hr : RepV w M r v) (ht : TipV w M st.live r v) : Gives C a st.live w M o r :=
  ⟨v, w, M, hrun, Grow.refl h.base.prot, hr, ht⟩
theorem gives_move (h : Sim C N w0 M0 σ0 Φ st w M a) {o : Oper} {x : Operand} (ho : o.op = .move x ∨ o.op = .assign x) : Gives C a st.live w M o (operT C st.env o.type x) := by
  obtain ⟨hr, ht⟩ := h.evalT o.type x
  exact gives_plain h (by rcases ho with ho | ho <;> simp [execOp, ho]) hr ht
theorem gives_pick (h : Sim C N w0 M0 σ0 Φ st w M a) {o : Oper} {c x y : Operand} {t : Bool} (ho : o.op = .pick c x y) (hc : oper C st.env c = .one (.bool t)) : Gives C a st.live w M o (if t then oper C st.env x else oper C st.env y) := by
  have hcv := (h.eval c).1
  rw [hc] at hcv
  have e := rep_bool hcv
  cases t
  · obtain ⟨hr, ht⟩ := h.eval y
    exact gives_plain h (by simp [execOp, ho, e, asBool]) hr ht
  · obtain ⟨hr, ht⟩ := h.eval x
    exact gives_plain h (by simp [execOp, ho, e, asBool]) hr ht
theorem eqGuard_plain {P : Program} {op : BinOp} {t : TypeId} {x y : Operand} {p q : Value} {w : World} (hp : (∃ k n, p = .int k n) ∨ ∃ b, p = .bool b) : (eqGuard op t x y p q).run P w = .ok () w := by
  unfold eqGuard
  rcases hp with ⟨k, n, rfl⟩ | ⟨b, rfl⟩ <;> (cases op <;> simp)
theorem gives_bin (h : Sim C N w0 M0 σ0 Φ st w M a) (hT : ∀ t d, C.T t = some d → TyFits C.P t d) {o : Oper} {op : BinOp} {xt yt : TypeId} {x y : Operand} {r : PV} (ho : o.op = .binOp op xt x y yt) (hb : binR C op xt (oper C st.env x) (oper C st.env y) r) : Gives C a st.live w M o r := by
  have hx := (h.eval x).1
  have hy := (h.eval y).1
  unfold binR at hb
  split at hb
  · rename_i r' k p k' q h1 h2
    obtain ⟨rfl, c, hc, rfl⟩ := hb
    rw [h1] at hx
    rw [h2] at hy
    have e1 := rep_int hx
    have e2 := rep_int hy
    obtain ⟨v, hv, hcv⟩ := intC_run (P := C.P) hc xt w
    refine gives_plain h (v := v) ?_ (.one _ _ (hcv M).1) (TipC.of_not (hcv M).2)
    simp only [execOp, ho, e1, e2, Sem.run_bind, eqGuard_plain (.inl ⟨k, p, rfl⟩), Result.andThen_ok, hv, Sem.run_pure]
  · rename_i r' p q h1 h2
    obtain ⟨⟨d, hd, hk⟩, hb⟩ := hb
    rw [h1] at hx
    rw [h2] at hy
    have e1 := rep_bool hx
    have e2 := rep_bool hy
    obtain ⟨i, u, hi, hu, _, _, _, _, _, _, hm⟩ := hT xt d hd
    rw [hk] at hm
    simp only at hm
    subst hm
    have heq : (Op.equal xt (.bool p) (.bool q)).run C.P w = .ok (p == q) w := by
      have key : ∀ n, (Op.equalIn (n + 1) xt (.bool p) (.bool q)).run C.P w = .ok (p == q) w := fun n => by simp [Op.equalIn, run_underlying hu]
      exact key 9999
    rcases hb with ⟨rfl, rfl⟩ | ⟨rfl, rfl⟩
    · refine gives_plain h (v := .bool (p == q)) ?_ (.one _ _ (.bool _)) trivial
      simp only [execOp, ho, e1, e2, Sem.run_bind, eqGuard_plain (.inr ⟨p, rfl⟩), Result.andThen_ok, binOp, heq, Sem.run_pure]
    · refine gives_plain h (v := .bool (!(p == q))) ?_ (.one _ _ (.bool _)) trivial
      simp only [execOp, ho, e1, e2, Sem.run_bind, eqGuard_plain (.inr ⟨p, rfl⟩), Result.andThen_ok, binOp, heq, Sem.run_pure]
  · exact hb.elim
theorem gives_not (h : Sim C N w0 M0 σ0 Φ st w M a) {o : Oper} {t : TypeId} {x : Operand} {b : Bool} (ho : o.op = .unOp .not t x) (hx : oper C st.env x = .one (.bool b)) : Gives C a st.live w M o (.one (.bool (!b))) := by
  have hxv := (h.eval x).1
  rw [hx] at hxv
  have e := rep_bool hxv
  refine gives_plain h (v := .bool (!b)) ?_ (.one _ _ (.bool _)) trivial
  simp [execOp, ho, e, Op.unary]
theorem gives_extract (h : Sim C N w0 M0 σ0 Φ st w M a) {o : Oper} {x : Operand} {i : Nat} {vs : List PV} {p : PV} (ho : o.op = .extract x i) (hx : oper C st.env x = .tup vs) (hi : vs[i]? = some p) : Gives C a st.live w M o (erV p) := by
  have hxv := (h.eval x).1
  rw [hx] at hxv
  obtain ⟨us, e, hs, hr⟩ := rep_tup hxv
  have hlt : i < us.size := by rw [hs]; exact (List.getElem?_eq_some_iff.1 hi).1
  have hri := hr i p hi
  rw [Array.getD_eq_getD_getElem?, Array.getElem?_eq_getElem hlt] at hri
  refine gives_plain h (v := us[i]) ?_ hri.er TipV.er
  simp [execOp, ho, e, Instr.extract, Array.getElem?_eq_getElem hlt]
theorem run_sureAddr {P : Program} {w : World} (x : Addr) : (Instr.sureAddr (.pointer (some x))).run P w = .ok x w := rfl
theorem gives_fieldAddr (h : Sim C N w0 M0 σ0 Φ st w M a) (hT : ∀ t d, C.T t = some d → TyFits C.P t d) {o : Oper} {s : TypeId} {x : Operand} {f : Nat} {d : TyD} {fs : List (Nat × Nat)} {p : Nat × Nat} {r : PV} (ho : o.op = .fieldAddr s x f)
    (hd : C.T s = some d) (hk : d.k = .struct fs) (hf : fs[f]? = some p) (hp : 0 < p.2) (hx : addrP (oper C st.env x) p.1 = some r) : Gives C a st.live w M o r := by
  obtain ⟨ad, e, hr, ht⟩ := addrP_rep (h.eval x).1 hx
  obtain ⟨i, u, hi, hu, _, _, _, _, _, _, hm⟩ := hT s d hd
  rw [hk] at hm
  obtain ⟨fa, rfl, _, hfa⟩ := hm
  obtain ⟨fd, g, h1, h2, h3, h4⟩ := hfa f p hf
  refine gives_plain h (v := .pointer (some (ad.add p.1))) ?_ hr (ht _ _)
  simp [execOp, ho, e, Instr.fieldAt, run_underlying hu, h1, run_sureAddr, fieldPlace, run_sizeOf' h3, h4, h2, Nat.ne_of_gt hp]
theorem gives_nilCheck (h : Sim C N w0 M0 σ0 Φ st w M a) {o : Oper} {x : Operand} {q : PV} (ho : o.op = .nilCheck x) (hx : addrP (oper C st.env x) 0 = some q) : Gives C a st.live w M o (oper C st.env x) := by
  obtain ⟨hr, ht⟩ := h.eval x
  obtain ⟨ad, e, _, _⟩ := addrP_rep hr hx
  refine gives_plain h (v := a.eval x) ?_ hr ht
  simp [execOp, ho, e]
theorem gives_makeFunc (h : Sim C N w0 M0 σ0 Φ st w M a) {o : Oper} {f : FuncId} {first captured : Array Operand} {caps : List Cell} (ho : o.op = .makeFunc (.func f) first captured) (hf : first.toList = []) (hc : onesOf (captured.toList.map (oper C st.env)) = some caps) : Gives C a st.live w M o (.one (.func f caps)) := by
  have key : ∀ (l : List Operand) (caps : List Cell), onesOf (l.map (oper C st.env)) = some caps → l.length = caps.length ∧ ∀ (i : Nat) (c : Cell), caps[i]? = some c → RepC w M c ((l.map a.eval).getD i undef) := by
    intro l
    induction l with
    | nil => intro caps hc; simp [onesOf] at hc; subst hc; exact ⟨rfl, fun i c hc => by simp at hc⟩
    | cons x l ih =>
      intro caps hc
      rw [List.map_cons] at hc
      have hx := (h.eval x).1
      cases hp : oper C st.env x with
      | one c =>
        rw [hp] at hc hx
        simp only [onesOf, Option.map_eq_some_iff] at hc
        obtain ⟨caps', hc', rfl⟩ := hc
        obtain ⟨h1, h2⟩ := ih caps' hc'
        refine ⟨by simp [h1], fun i c' hi => ?_⟩
        cases i with
        | zero => simp at hi; subst hi; simpa using hx.one_inv
        | succ i => simpa using h2 i c' (by simpa using hi)
      | agg cs => rw [hp] at hc; simp [onesOf] at hc
      | tup vs => rw [hp] at hc; simp [onesOf] at hc
      | undef => rw [hp] at hc; simp [onesOf] at hc
      | gone => rw [hp] at hc; simp [onesOf] at hc
  obtain ⟨h1, h2⟩ := key _ _ hc
  obtain rfl : first = #[] := by cases first; simpa using hf
  refine gives_plain h (v := .func (.func f) #[] (captured.map a.eval)) (by simp [execOp, ho, Instr.makeFunc]) (.one _ _ (.func _ _ _ (by simpa using h1) fun i c hi => ?_)) trivial
  have := h2 i c hi
  rw [Array.getD_eq_getD_getElem?]
  simpa [List.getD_eq_getElem?_getD] using this
theorem gives_len (h : Sim C N w0 M0 σ0 Φ st w M a) (hT : ∀ t d, C.T t = some d → TyFits C.P t d) {o : Oper} {c : Call} {x : Operand} {t : TypeId} {d : TyD} {e : TypeId} {ow : Own} {sz : Nat} {es : List (List Cell)} (ho : o.op = .call c) (hb : c.callee = .builtin .len) (ha : c.args.toList = [x])
    (ht : c.argTypes.toList = [t]) (hd : C.T t = some d) (hk : d.k = .slice e) (hx : oper C st.env x = .one (.slice ow sz es)) : Gives C a st.live w M o (.one (.int .i64 es.length)) := by
  have hxv := (h.eval x).1
  rw [hx] at hxv
  obtain ⟨ad, cap, ev, _⟩ := rep_slice hxv
  obtain ⟨i, u, hi, hu, _, _, _, _, _, _, hm⟩ := hT t d hd
  rw [hk] at hm
  simp only at hm
  subst hm
  have h1 : c.args = #[x] := by cases hc : c.args; rw [hc] at ha; simpa using ha
  have h2 : c.argTypes = #[t] := by cases hc : c.argTypes; rw [hc] at ht; simpa using ht
  refine gives_plain h (v := .int .i64 es.length) ?_ (.one _ _ (.int _ _)) trivial
  simp [execOp, ho, resolve, hb, invoke, builtin, Builtin.len_, h1, h2, ev, run_underlying hu, goInt]
end
end Go.Proofs.YtnpgbkldpdogjaaGreatDoor.V

namespace Go.Proofs.YtnpgbkldpdogjaaGreatDoor.V
open Go
section
variable {C : Cfg} {N : Nat} {w0 w : World} {M0 M : Map} {σ0 : List Frm} {Φ : Nat → Nat → Bool} {st : St} {a : Act}
theorem rep_elem {w : World} {M : Map} {b off sz : Nat} {es : List (List Cell)} {f : Nat → Nat → Value} (hl : ∀ e ∈ es, e.length = sz) (hp : off + es.length * sz ≤ M.prot b)
    (hw : ∀ (j i : Nat) (e : List Cell) (c : Cell), es[j]? = some e → e[i]? = some c → w.cell? ⟨b, off + (j * sz + i), none⟩ = some (f j i))
    (hr : ∀ (j i : Nat) (e : List Cell) (c : Cell), es[j]? = some e → e[i]? = some c → RepC w M c (f j i)) {n : Nat} {e : List Cell} (he : es[n]? = some e) :
    RepC w M (.cptr e 0) (.pointer (some ⟨b, off + n * sz, none⟩)) := by
  have hlt : n < es.length := (List.getElem?_eq_some_iff.1 he).1
  have hm : (n + 1) * sz ≤ es.length * sz := Nat.mul_le_mul_right _ hlt
  rw [Nat.add_mul, Nat.one_mul] at hm
  have hel := hl e (List.mem_of_getElem? he)
  refine .cptr e 0 b (off + n * sz) (f n) (by omega) (fun i c hi => ?_) (fun i c hi => hr n i e c he hi)
  rw [Nat.add_assoc]
  exact hw n i e c he hi
theorem gives_indexSlice (h : Sim C N w0 M0 σ0 Φ st w M a) (hT : ∀ t d, C.T t = some d → TyFits C.P t d) {o : Oper} {t : TypeId} {x ix : Operand} {d de : TyD} {e : TypeId} {k : IntKind} {n : Int} {ow : Own} {sz : Nat} {es : List (List Cell)} {e' : List Cell}
    (ho : o.op = .indexAddr t x ix) (hd : C.T t = some d) (hk : d.k = .slice e) (hi : oper C st.env ix = .one (.int k n)) (hn : 0 ≤ n) (hx : oper C st.env x = .one (.slice ow sz es)) (hde : C.T e = some de) (hsz : de.size = sz) (he : es[n.toNat]? = some e') :
    Gives C a st.live w M o (.one (.cptr e' 0)) := by
  have hxv := (h.eval x).1
  rw [hx] at hxv
  have hiv := (h.eval ix).1
  rw [hi] at hiv
  have ei := rep_int hiv
  obtain ⟨ad, cap, ev, _, _, hne⟩ := rep_slice hxv
  have hlt : n.toNat < es.length := (List.getElem?_eq_some_iff.1 he).1
  obtain ⟨b, off, f, rfl, hl, hp, hw, hr⟩ := hne (by intro e0; rw [e0] at hlt; simp at hlt)
  obtain ⟨i1, u1, hi1, hu1, _, _, _, _, _, _, hm1⟩ := hT t d hd
  rw [hk] at hm1
  simp only at hm1
  subst hm1
  obtain ⟨i2, u2, hi2, hu2, hs2, _⟩ := hT e de hde
  refine gives_plain h (v := .pointer (some ((⟨b, off, none⟩ : Addr).add (n.toNat * sz)))) ?_ (.one _ _ ?_) trivial
  · have hlt' : n < (es.length : Int) := by omega
    simp [execOp, ho, ev, ei, Instr.indexAt, asIntOf, run_underlying hu1, hn, hlt', run_sizeOf' hi2, hs2, hsz]
  · rw [addr_add]
    exact rep_elem hl hp hw hr he
theorem gives_indexArray (h : Sim C N w0 M0 σ0 Φ st w M a) (hT : ∀ t d, C.T t = some d → TyFits C.P t d) {o : Oper} {t : TypeId} {x ix : Operand} {d de : TyD} {e : TypeId} {len : Nat} {k : IntKind} {n : Int} {r : PV}
    (ho : o.op = .indexAddr t x ix) (hd : C.T t = some d) (hk : d.k = .array len e) (hi : oper C st.env ix = .one (.int k n)) (hn : 0 ≤ n) (hde : C.T e = some de) (hlt : n < len) (hx : addrP (oper C st.env x) (n.toNat * de.size) = some r) :
    Gives C a st.live w M o r := by
  obtain ⟨ad, ev, hr, ht⟩ := addrP_rep (h.eval x).1 hx
  have hiv := (h.eval ix).1
  rw [hi] at hiv
  have ei := rep_int hiv
  obtain ⟨i1, u1, hi1, hu1, _, _, _, _, _, _, hm1⟩ := hT t d hd
  rw [hk] at hm1
  simp only at hm1
  subst hm1
  obtain ⟨i2, u2, hi2, hu2, hs2, _⟩ := hT e de hde
  refine gives_plain h (v := .pointer (some (ad.add (n.toNat * de.size)))) ?_ hr (ht _ _)
  simp [execOp, ho, ev, ei, Instr.indexAt, asIntOf, run_underlying hu1, run_sureAddr, hn, hlt, run_sizeOf' hi2, hs2]
theorem zero_rep {w : World} {M : Map} {c : Cell} (h : zeroOk c = true) : RepC w M c (zval c) ∧ isTip c = false := by
  unfold zeroOk at h
  split at h <;> first | (cases h; done) | exact ⟨.nil _ _ _ _ (fun _ => rfl), rfl⟩ | exact ⟨by constructor, rfl⟩
theorem zeros_rep {w : World} {M : Map} {z : List Cell} (h : z.all zeroOk = true) : ∀ (i : Nat) (c : Cell), z[i]? = some c → RepC w M c ((z.map zval).toArray.getD i undef) ∧ isTip c = false := by
  intro i c hc
  have hm : zeroOk c = true := List.all_eq_true.1 h c (List.mem_of_getElem? hc)
  rw [Array.getD_eq_getD_getElem?, List.getElem?_toArray, List.getElem?_map, hc]
  exact zero_rep hm
theorem foldl_set (vs : List Value) : ∀ (off : Nat) (cs : Array Value) (j : Nat), off + vs.length ≤ cs.size →
    (vs.zipIdx j).foldl (fun (cs : Array Value) (p : Value × Nat) => cs.setIfInBounds (off + p.2) p.1) cs = (cs.toList.take (off + j) ++ vs ++ cs.toList.drop (off + j + vs.length)).toArray ∨ cs.size < off + j + vs.length := by
  induction vs with
  | nil => intro off cs j _; left; simp
  | cons v vs ih =>
    intro off cs j hl
    by_cases hsz : cs.size < off + j + (v :: vs).length
    · right; exact hsz
    · left
      simp only [List.zipIdx_cons, List.foldl_cons]
      simp only [List.length_cons] at hl hsz
      rcases ih off (cs.setIfInBounds (off + j) v) (j + 1) (by simp; omega) with h | h
      · rw [h]
        have hs : (cs.setIfInBounds (off + j) v).toList = cs.toList.set (off + j) v := by simp
        rw [hs]
        congr 1
        have := list_seg_step cs.toList (off + j) v vs (by simp; omega)
        rw [show off + (j + 1) = off + j + 1 by omega, this]
        simp [List.length_cons]
      · exfalso
        simp at h
        omega
theorem splice_length (cs ns : List Cell) (off : Nat) (h : off + ns.length ≤ cs.length) : (splice cs off ns).length = cs.length := by
  simp only [splice, List.length_append, List.length_take, List.length_drop]
  omega
theorem splice_get {α : Type} (cs ns : List α) (off i : Nat) (h : off + ns.length ≤ cs.length) : (cs.take off ++ ns ++ cs.drop (off + ns.length))[i]? = if off ≤ i ∧ i < off + ns.length then ns[i - off]? else cs[i]? := by
  rw [List.append_assoc, List.getElem?_append, List.getElem?_append, List.length_take, List.getElem?_take, List.getElem?_drop]
  by_cases h1 : i < off
  · rw [if_pos (by omega), if_pos h1, if_neg (by omega)]
  · rw [if_neg (by omega)]
    by_cases h2 : i < off + ns.length
    · rw [if_pos (by omega), if_pos (by omega)]
      congr 1
      omega
    · rw [if_neg (by omega), if_neg (by omega)]
      congr 1
      omega
theorem rep_splice {R : Cell → Value → Prop} {cs ns : List Cell} {vs us : List Value} {off : Nat} (hs : vs.length = cs.length) (hn : us.length = ns.length) (hl : off + ns.length ≤ cs.length)
    (h1 : ∀ (i : Nat) (c : Cell), cs[i]? = some c → R c (vs.getD i undef)) (h2 : ∀ (i : Nat) (c : Cell), ns[i]? = some c → R c (us.getD i undef)) :
    (vs.take off ++ us ++ vs.drop (off + us.length)).length = cs.length ∧ ∀ (i : Nat) (c : Cell), (splice cs off ns)[i]? = some c → R c ((vs.take off ++ us ++ vs.drop (off + us.length)).getD i undef) := by
  refine ⟨by simp only [List.length_append, List.length_take, List.length_drop]; omega, fun i c hc => ?_⟩
  rw [List.getD_eq_getElem?_getD, splice_get vs us off i (by omega)]
  unfold splice at hc
  rw [splice_get cs ns off i hl] at hc
  rw [hn]
  split at hc
  · rename_i hi
    rw [if_pos hi, ← List.getD_eq_getElem?_getD]
    exact h2 _ c hc
  · rename_i hi
    rw [if_neg hi, ← List.getD_eq_getElem?_getD]
    exact h1 i c hc
theorem array_getD_list (l : List Value) (i : Nat) : l.toArray.getD i undef = l.getD i undef := by
  rw [Array.getD_eq_getD_getElem?, List.getElem?_toArray, List.getD_eq_getElem?_getD]
theorem array_getD_toList (l : Array Value) (i : Nat) : l.toList.getD i undef = l.getD i undef := by
  rw [Array.getD_eq_getD_getElem?, List.getD_eq_getElem?_getD, Array.getElem?_toList]
theorem fill_rep (R : Cell → Value → Prop) (fs : List (Nat × Nat)) (place : Nat → Option (Nat × Nat)) (hpl : ∀ i p, fs[i]? = some p → place i = some p) (ps : List (Nat × PV)) :
    ∀ (us : List (Nat × Value)) (cs : List Cell) (vs : Array Value) (cs' : List Cell), us.length = ps.length → vs.size = cs.length →
      (∀ (i : Nat) (c : Cell), cs[i]? = some c → R c (vs.getD i undef)) →
      (∀ (j : Nat) (p : Nat × PV) (u : Nat × Value), ps[j]? = some p → us[j]? = some u → p.1 = u.1 ∧ ∀ ns, p.2.cells = some ns → u.2.cells.size = ns.length ∧ ∀ (i : Nat) (c : Cell), ns[i]? = some c → R c (u.2.cells.getD i undef)) →
      fillC fs cs ps = some cs' → ∃ vs', Instr.fill place vs us = some vs' ∧ vs'.size = cs'.length ∧ ∀ (i : Nat) (c : Cell), cs'[i]? = some c → R c (vs'.getD i undef) := by
  induction ps with
  | nil =>
    intro us cs vs cs' hl hs hr _ hf
    obtain rfl : us = [] := List.eq_nil_of_length_eq_zero (by simpa using hl)
    simp [fillC] at hf
    subst hf
    exact ⟨vs, rfl, hs, hr⟩
  | cons p ps ih =>
    intro us cs vs cs' hl hs hr hp hf
    cases us with
    | nil => simp at hl
    | cons u us =>
      obtain ⟨i, pv⟩ := p
      obtain ⟨i', uv⟩ := u
      obtain ⟨rfl, h0⟩ := hp 0 (i, pv) (i', uv) rfl rfl
      simp only [fillC] at hf
      cases hfi : fs[i]? with
      | none => simp [hfi] at hf
      | some q =>
        obtain ⟨off, size⟩ := q
        cases hpc : pv.cells with
        | none => simp [hfi, hpc] at hf
        | some ns =>
          simp only [hfi, hpc] at hf
          split at hf
          · rename_i hcond
            obtain ⟨h1, h2⟩ : uv.cells.size = ns.length ∧ ∀ (i : Nat) (c : Cell), ns[i]? = some c → R c (uv.cells.getD i undef) := h0 ns hpc
            obtain ⟨e1, e2⟩ := hcond
            have hlist := rep_splice (R := R) (cs := cs) (ns := ns) (vs := vs.toList) (us := uv.cells.toList) (off := off) (by simpa using hs) (by simpa using h1) e2
              (fun i c hc => by rw [array_getD_toList]; exact hr i c hc) (fun i c hc => by rw [array_getD_toList]; exact h2 i c hc)
            have hfold := foldl_set uv.cells.toList off vs 0 (by simp; omega)
            simp only [Nat.add_zero] at hfold
            replace hfold := hfold.resolve_right (by simp; omega)
            obtain ⟨vs', h3, h4, h5⟩ := ih us (splice cs off ns) (vs.toList.take off ++ uv.cells.toList ++ vs.toList.drop (off + uv.cells.toList.length)).toArray cs' (by simpa using hl)
              (by rw [splice_length _ _ _ e2]; simpa using hlist.1) (fun i c hc => by rw [array_getD_list]; exact hlist.2 i c hc) (fun j p u hj hu => hp (j + 1) p u (by simpa using hj) (by simpa using hu)) hf
            refine ⟨vs', ?_, h4, h5⟩
            simp only [Instr.fill, hpl _ _ hfi]
            rw [if_neg (by simp; omega)]
            rw [show (uv.cells.zipIdx.foldl (fun (cs : Array Value) (x : Value × Nat) => cs.setIfInBounds (off + x.2) x.1) vs) = (uv.cells.toList.zipIdx.foldl (fun (cs : Array Value) (p : Value × Nat) => cs.setIfInBounds (off + p.2) p.1) vs) by
              rw [← Array.foldl_toList, Array.toList_zipIdx]]
            rw [hfold]
            exact h3
          · cases hf
theorem run_mapM_places {P : Program} {fa : Array Field} {w : World} (fs : List (Nat × Nat)) (hs : fa.size = fs.length) (hf : ∀ (j : Nat) (p : Nat × Nat), fs[j]? = some p → ∃ (f : Field) (g : TypeInfo), fa[j]? = some f ∧ f.offset = p.1 ∧ P.info? f.type = some g ∧ g.size = p.2) :
    (fa.mapM fun f => do pure (f.offset, ← sizeOf f.type) : Sem (Array (Nat × Nat))).run P w = .ok fs.toArray w := by
  have key : ∀ (l : List Field) (fs : List (Nat × Nat)), l.length = fs.length → (∀ (j : Nat) (p : Nat × Nat), fs[j]? = some p → ∃ (f : Field) (g : TypeInfo), l[j]? = some f ∧ f.offset = p.1 ∧ P.info? f.type = some g ∧ g.size = p.2) →
      (l.mapM fun f => do pure (f.offset, ← sizeOf f.type) : Sem (List (Nat × Nat))).run P w = .ok fs w := by
    intro l
    induction l with
    | nil => intro fs h _; obtain rfl : fs = [] := List.eq_nil_of_length_eq_zero (by simpa using h.symm); rfl
    | cons x l ih =>
      intro fs hl h
      cases fs with
      | nil => simp at hl
      | cons p fs =>
        obtain ⟨f, g, h1, h2, h3, h4⟩ := h 0 p rfl
        simp at h1
        subst h1
        rw [List.mapM_cons]
        simp only [Sem.run_bind, run_sizeOf' h3, Result.andThen_ok, Sem.run_pure, h2, h4, ih fs (by simpa using hl) (fun j p hj => by simpa using h (j + 1) p (by simpa using hj))]
  rw [← Array.toArray_toList (xs := fa), List.mapM_toArray]
  simp only [Sem.run_map]
  rw [key fa.toList fs (by simpa using hs) (fun j p hj => by simpa using hf j p hj)]
  try rfl
theorem run_zeroValue' {P : Program} {t : TypeId} {i : TypeInfo} {z : Value} (h : P.info? t = some i) (hz : i.zero = some z) (w : World) : (zeroValue t).run P w = .ok z w := by simp [zeroValue, typeInfo, h, hz]
theorem parts_rep (h : Sim C N w0 M0 σ0 Φ st w M a) (parts : List (Nat × Operand)) : ∀ (j : Nat) (p : Nat × PV) (u : Nat × Value), (parts.map fun p => (p.1, oper C st.env p.2))[j]? = some p → (parts.map fun p => (p.1, a.eval p.2))[j]? = some u →
    p.1 = u.1 ∧ ∀ ns, p.2.cells = some ns → u.2.cells.size = ns.length ∧ ∀ (i : Nat) (c : Cell), ns[i]? = some c → RepC w M c (u.2.cells.getD i undef) ∧ TipC w M st.live c (u.2.cells.getD i undef) := by
  intro j p u hp hu
  rw [List.getElem?_map] at hp hu
  obtain ⟨q, hq, rfl⟩ := Option.map_eq_some_iff.1 hp
  rw [hq] at hu
  simp at hu
  subst hu
  refine ⟨rfl, fun ns hns => ?_⟩
  obtain ⟨hr, ht⟩ := h.eval q.2
  obtain ⟨h1, h2, _⟩ := rep_cells hr hns
  exact ⟨h1, fun i c hc => ⟨h2 i c hc, tip_cells hr ht hns i c hc⟩⟩
theorem gives_build (h : Sim C N w0 M0 σ0 Φ st w M a) (hT : ∀ t d, C.T t = some d → TyFits C.P t d) {o : Oper} {t : TypeId} {parts : Array (Nat × Operand)} {d : TyD} {fs : List (Nat × Nat)} {cs : List Cell}
    (ho : o.op = .build t parts) (hd : C.T t = some d) (hk : d.k = .struct fs) (hf : fillC fs d.zero (parts.toList.map fun p => (p.1, oper C st.env p.2)) = some cs) : Gives C a st.live w M o (.agg cs) := by
  obtain ⟨i, u, hi, hu, hs, _, hzl, hza, hz, _, hm⟩ := hT t d hd
  rw [hk] at hm
  obtain ⟨fa, rfl, hfl, hfa⟩ := hm
  have hagg : d.isAgg = true := by simp [TyD.isAgg, hk]
  rw [hagg, if_pos rfl] at hz
  obtain ⟨vs, h1, h2, h3⟩ := fill_rep (fun c v => RepC w M c v ∧ TipC w M st.live c v) fs (fun j => fs.toArray[j]?) (fun j p hj => by simpa using hj) (parts.toList.map fun p => (p.1, oper C st.env p.2)) (parts.toList.map fun p => (p.1, a.eval p.2)) d.zero (d.zero.map zval).toArray cs
    (by simp) (by simp) (fun j c hc => by obtain ⟨e1, e2⟩ := zeros_rep (w := w) (M := M) hza j c hc; exact ⟨e1, TipC.of_not e2⟩) (parts_rep h _) hf
  refine gives_plain h (v := .agg vs) ?_ (.agg _ _ h2 fun j c hc => (h3 j c hc).1) (fun j c hc => (h3 j c hc).2)
  have hp : (parts.map fun (x : Nat × Operand) => (x.1, a.eval x.2)).toList = parts.toList.map fun p => (p.1, a.eval p.2) := by simp
  have hmap := run_mapM_places (w := w) fs hfl hfa
  simp only [execOp, ho, Instr.build, Sem.run_bind, run_zeroValue' hi hz, Result.andThen_ok, run_underlying hu, hmap, hp]
  have hcells : (Value.agg (d.zero.map zval).toArray).cells = (d.zero.map zval).toArray := rfl
  rw [hcells]
  simp only [h1]
  simp
end
end Go.Proofs.YtnpgbkldpdogjaaGreatDoor.V

namespace Go.Proofs.YtnpgbkldpdogjaaGreatDoor.V
open Go
section
variable {C : Cfg} {N : Nat} {w0 w : World} {M0 M : Map} {σ0 : List Frm} {Φ : Nat → Nat → Bool} {st : St} {a : Act}
theorem fill_all (sz : Nat) (us : List (Nat × Value)) : ∀ (j : Nat) (cells : Array Value), (∀ (i : Nat) (u : Nat × Value), us[i]? = some u → u.1 = j + i ∧ u.2.cells.size = sz) → (j + us.length) * sz ≤ cells.size →
    Instr.fill (fun i => some (i * sz, sz)) cells us = some (cells.toList.take (j * sz) ++ (us.flatMap fun u => u.2.cells.toList) ++ cells.toList.drop ((j + us.length) * sz)).toArray := by
  induction us with
  | nil => intro j cells _ _; simp [Instr.fill]
  | cons u us ih =>
    intro j cells h hl
    obtain ⟨i, v⟩ := u
    obtain ⟨h1, h2⟩ := h 0 (i, v) rfl
    simp only [Nat.add_zero] at h1 h2
    subst h1
    have hm : (i + (us.length + 1)) * sz = i * sz + sz + us.length * sz := by rw [Nat.add_mul, Nat.add_mul, Nat.one_mul]; omega
    simp only [List.length_cons] at hl
    rw [hm] at hl
    have hfold := foldl_set v.cells.toList (i * sz) cells 0 (by simp; omega)
    simp only [Nat.add_zero] at hfold
    replace hfold := hfold.resolve_right (by simp; omega)
    simp only [Instr.fill]
    rw [if_neg (by simp; omega)]
    rw [show (v.cells.zipIdx.foldl (fun (cs : Array Value) (x : Value × Nat) => cs.setIfInBounds (i * sz + x.2) x.1) cells) = (v.cells.toList.zipIdx.foldl (fun (cs : Array Value) (p : Value × Nat) => cs.setIfInBounds (i * sz + p.2) p.1) cells) by
      rw [← Array.foldl_toList, Array.toList_zipIdx]]
    rw [hfold]
    have hlen : (cells.toList.take (i * sz) ++ v.cells.toList ++ cells.toList.drop (i * sz + v.cells.toList.length)).length = cells.size := by
      simp only [List.length_append, List.length_take, List.length_drop, Array.length_toList]; omega
    rw [ih (i + 1) _ (fun k u hu => by obtain ⟨e1, e2⟩ := h (k + 1) u (by simpa using hu); exact ⟨by omega, e2⟩) (by rw [List.size_toArray, hlen, Nat.add_mul, Nat.add_mul, Nat.one_mul]; omega)]
    congr 2
    have hv : v.cells.toList.length = sz := by simpa using h2
    have e1 : (i + 1) * sz = i * sz + sz := by rw [Nat.add_mul, Nat.one_mul]
    have e2 : (i + 1 + us.length) * sz = i * sz + sz + us.length * sz := by rw [Nat.add_mul, Nat.add_mul, Nat.one_mul]
    rw [List.flatMap_cons, List.length_cons, hm, e1, e2, hv]
    have hT : (cells.toList.take (i * sz) ++ v.cells.toList).length = i * sz + sz := by rw [List.length_append, List.length_take, hv, Array.length_toList]; omega
    rw [List.take_append_of_le_length (by rw [hT]; exact Nat.le_refl _), List.take_of_length_le (by rw [hT]; exact Nat.le_refl _)]
    rw [List.drop_append, hT, List.drop_of_length_le (by rw [hT]; omega), List.nil_append, List.drop_drop]
    rw [List.append_assoc, List.append_assoc, List.append_assoc, List.append_assoc]
    congr 4
    omega
theorem flatMap_get {α β : Type} (f : α → List β) (sz : Nat) : ∀ (l : List α) (n i : Nat) (x : α), (∀ y ∈ l, (f y).length = sz) → l[n]? = some x → i < sz → (l.flatMap f)[n * sz + i]? = (f x)[i]? := by
  intro l
  induction l with
  | nil => intro n i x _ h _; simp at h
  | cons y l ih =>
    intro n i x hl h hi
    have hy := hl y (by simp)
    rw [List.flatMap_cons]
    cases n with
    | zero =>
      simp at h
      subst h
      rw [Nat.zero_mul, Nat.zero_add, List.getElem?_append_left (by omega)]
    | succ n =>
      rw [List.getElem?_append_right (by rw [hy, Nat.add_mul, Nat.one_mul]; omega), hy, Nat.add_mul, Nat.one_mul, show n * sz + sz + i - sz = n * sz + i by omega]
      exact ih n i x (fun z hz => hl z (by simp [hz])) (by simpa using h) hi
theorem flatMap_length {α β : Type} (f : α → List β) (sz : Nat) (l : List α) (h : ∀ y ∈ l, (f y).length = sz) : (l.flatMap f).length = l.length * sz := by
  induction l with
  | nil => simp
  | cons y l ih =>
    rw [List.flatMap_cons, List.length_append, h y (by simp), ih (fun z hz => h z (by simp [hz])), List.length_cons, Nat.add_mul, Nat.one_mul]
    omega
theorem elemsOf_spec (ps : List (Nat × PV)) : ∀ (j : Nat) (es : List (List Cell)), elemsOf j ps = some es → es.length = ps.length ∧ ∀ (i : Nat) (p : Nat × PV), ps[i]? = some p → p.1 = j + i ∧ ∃ ns, p.2.cells = some ns ∧ es[i]? = some (ns.map erC) := by
  induction ps with
  | nil => intro j es h; simp [elemsOf] at h; subst h; exact ⟨rfl, fun i p hp => by simp at hp⟩
  | cons p ps ih =>
    intro j es h
    obtain ⟨k, pv⟩ := p
    simp only [elemsOf] at h
    cases hc : pv.cells with
    | none => simp [hc] at h
    | some ns =>
      cases he : elemsOf (j + 1) ps with
      | none => simp [hc, he] at h
      | some es' =>
        simp only [hc, he] at h
        split at h
        · rename_i hk
          cases h
          obtain ⟨h1, h2⟩ := ih (j + 1) es' he
          refine ⟨by simp [h1], fun i p hp => ?_⟩
          cases i with
          | zero => simp at hp; subst hp; exact ⟨by simpa using hk, ns, hc, by simp⟩
          | succ i =>
            obtain ⟨e1, ns', e2, e3⟩ := h2 i p (by simpa using hp)
            exact ⟨by omega, ns', e2, by simpa using e3⟩
        · cases h
theorem grow_row {w : World} {M : Map} (h0 : ∀ b, w.heap.size ≤ b → M.prot b = 0) (cs : Array Value) (e : TypeId) (n : Nat) :
    Grow w M (w.alloc (.cells cs e)) { M with prot := fun b => if b = w.heap.size then n else M.prot b } := by
  refine ⟨rfl, rfl, rfl, by simp, fun b hb => RowKit.Below.heap_alloc _ _ _ hb, fun b hb => if_neg (by omega), fun b hb => ?_, rfl, rfl⟩
  simp at hb
  show (if b = w.heap.size then n else M.prot b) = 0
  rw [if_neg (by omega)]
  exact h0 b (by omega)
theorem heap_new (w : World) (o : Obj) : (w.alloc o).heap[w.heap.size]? = some o := by
  show (w.heap.push o)[w.heap.size]? = some o
  simp
theorem gives_buildSlice (h : Sim C N w0 M0 σ0 Φ st w M a) (hT : ∀ t d, C.T t = some d → TyFits C.P t d) {o : Oper} {t : TypeId} {len : Nat} {parts : Array (Nat × Operand)} {d de : TyD} {e : TypeId} {es : List (List Cell)}
    (ho : o.op = .buildSlice t len parts) (hd : C.T t = some d) (hk : d.k = .slice e) (hde : C.T e = some de) (he : elemsOf 0 (parts.toList.map fun p => (p.1, oper C st.env p.2)) = some es) (hl : es.length = len)
    (hsz : ∀ x ∈ es, x.length = de.size) (hmax : len * de.size ≤ 16777216) : Gives C a st.live w M o (.one (.slice .full de.size es)) := by
  obtain ⟨i1, u1, hi1, hu1, _, _, _, _, _, _, hm1⟩ := hT t d hd
  rw [hk] at hm1
  simp only at hm1
  subst hm1
  obtain ⟨i2, u2, hi2, hu2, hs2, _, hzl, hza, hz, _, _⟩ := hT e de hde
  obtain ⟨hel, hes⟩ := elemsOf_spec _ _ _ he
  have hp : (parts.map fun (x : Nat × Operand) => (x.1, a.eval x.2)).toList = parts.toList.map fun p => (p.1, a.eval p.2) := by simp
  have hplen : (parts.toList.map fun p => (p.1, a.eval p.2)).length = len := by rw [← hl, hel]; simp
  -- each part
  have hpart : ∀ (i : Nat) (u : Nat × Value), (parts.toList.map fun p => (p.1, a.eval p.2))[i]? = some u → u.1 = 0 + i ∧ ∃ x, es[i]? = some x ∧ u.2.cells.size = de.size ∧ x.length = de.size ∧ (∀ (k : Nat) (c : Cell), x[k]? = some c → RepC w M c (u.2.cells.getD k undef)) := by
    intro i u hu
    rw [List.getElem?_map] at hu
    obtain ⟨q, hq, rfl⟩ := Option.map_eq_some_iff.1 hu
    obtain ⟨e1, ns, e2, e3⟩ := hes i (q.1, oper C st.env q.2) (by rw [List.getElem?_map, hq]; try rfl)
    obtain ⟨hr, _⟩ := h.eval q.2
    obtain ⟨r1, r2, _⟩ := rep_cells hr e2
    have hx := hsz _ (List.mem_of_getElem? e3)
    refine ⟨e1, _, e3, by rw [r1]; simpa using hx, hx, fun k c hc => ?_⟩
    rw [List.getElem?_map] at hc
    obtain ⟨c', hc', rfl⟩ := Option.map_eq_some_iff.1 hc
    exact (r2 k c' hc').er
  have hfl := flatMap_length (fun u : Nat × Value => u.2.cells.toList) de.size (parts.toList.map fun p => (p.1, a.eval p.2)) (fun u hu => by
    obtain ⟨i, hi⟩ := List.mem_iff_getElem?.1 hu
    obtain ⟨_, x, _, h2, _⟩ := hpart i u hi
    simpa using h2)
  rw [hplen] at hfl
  have hfill := fun z : Array Value => fill_all de.size (parts.toList.map fun p => (p.1, a.eval p.2)) 0 ((Array.range (len * de.size)).map (z[· % z.size]!)) (fun i u hu => by obtain ⟨e1, x, _, e2, _⟩ := hpart i u hu; exact ⟨e1, e2⟩)
    (by rw [hplen]; simp)
  simp only [hplen] at hfill
  have hcells : ∀ z : Array Value, ((((Array.range (len * de.size)).map (z[· % z.size]!)).toList.take (0 * de.size) ++ ((parts.toList.map fun p => (p.1, a.eval p.2)).flatMap fun u => u.2.cells.toList) ++ ((Array.range (len * de.size)).map (z[· % z.size]!)).toList.drop ((0 + len) * de.size)).toArray) = ((parts.toList.map fun p => (p.1, a.eval p.2)).flatMap fun u => u.2.cells.toList).toArray := by
    intro z
    rw [Nat.zero_mul, List.take_zero, List.nil_append, List.drop_of_length_le (by simp), List.append_nil]
  simp only [hcells] at hfill
  generalize hF : ((parts.toList.map fun p => (p.1, a.eval p.2)).flatMap fun u => u.2.cells.toList) = F at hfill hfl
  have hg := grow_row (M := M) h.base.prot F.toArray e (len * de.size)
  have hm := hg.mono h.base.prot
  refine ⟨.slice (some ⟨w.heap.size, 0, none⟩) len len, _, _, ?_, hg, ?_, trivial⟩
  · simp only [execOp, ho, Instr.buildSlice, Sem.run_bind, run_underlying hu1, Result.andThen_ok, run_sizeOf' hi2, hs2]
    rw [if_neg (by omega)]
    simp only [Sem.run_ite]
    split
    · simp only [Sem.run_bind, Sem.run_pure, Result.andThen_ok, hp, hfill]
      simp [newRow]
    · simp only [Sem.run_bind, Sem.run_pure, Result.andThen_ok, run_zeroValue' hi2 hz, hp, hfill]
      simp [newRow]
  · refine .one _ _ ?_
    subst hl
    refine .slice .full de.size es w.heap.size 0 es.length (fun j i => F.getD (j * de.size + i) undef) hsz ?_ (fun _ => rfl) (Nat.le_refl _) (fun j i x c hj hi => ?_) (fun j i x c hj hi => ?_)
    · show 0 + _ ≤ (if w.heap.size = w.heap.size then _ else _)
      rw [if_pos rfl]
      omega
    · have hlt := elem_lt hsz hj hi
      rw [Nat.zero_add, World.cell?_alloc_new, List.getElem?_toArray, List.getD_eq_getElem?_getD, List.getElem?_eq_getElem (by omega)]
      try rfl
    · have hil : i < de.size := by rw [← hsz x (List.mem_of_getElem? hj)]; exact (List.getElem?_eq_some_iff.1 hi).1
      have hjl : j < (parts.toList.map fun p => (p.1, a.eval p.2)).length := by rw [hplen]; exact (List.getElem?_eq_some_iff.1 hj).1
      obtain ⟨_, x', hx', _, _, hr⟩ := hpart j _ (List.getElem?_eq_getElem hjl)
      rw [hj] at hx'
      cases hx'
      have hgt := flatMap_get (fun u : Nat × Value => u.2.cells.toList) de.size (parts.toList.map fun p => (p.1, a.eval p.2)) j i _ (fun u hu => by
        obtain ⟨k, hk⟩ := List.mem_iff_getElem?.1 hu
        obtain ⟨_, y, _, h2, _⟩ := hpart k u hk
        simpa using h2) (List.getElem?_eq_getElem hjl) hil
      rw [hF] at hgt
      rw [List.getD_eq_getElem?_getD, hgt, ← List.getD_eq_getElem?_getD, array_getD_toList]
      exact (hr i c hi).mono hm
theorem gives_mm (h : Sim C N w0 M0 σ0 Φ st w M a) {o : Oper} {c : Call} {x y : Operand} {k : IntKind} {p q : Int} (ho : o.op = .call c) (ha : c.args.toList = [x, y]) (hx : oper C st.env x = .one (.int k p)) (hy : oper C st.env y = .one (.int k q)) :
    (c.callee = .builtin .max → Gives C a st.live w M o (.one (.int k (if q > p then q else p)))) ∧ (c.callee = .builtin .min → Gives C a st.live w M o (.one (.int k (if q < p then q else p)))) := by
  have hxv := (h.eval x).1
  rw [hx] at hxv
  have e1 := rep_int hxv
  have hyv := (h.eval y).1
  rw [hy] at hyv
  have e2 := rep_int hyv
  have h1 : c.args = #[x, y] := by cases hc : c.args; rw [hc] at ha; simpa using ha
  constructor <;> intro hb
  · refine gives_plain h (v := .int k (if q > p then q else p)) ?_ (.one _ _ (.int _ _)) trivial
    simp [execOp, ho, resolve, hb, invoke, builtin, Builtin.max_, h1, e1, e2, Builtin.max2]
  · refine gives_plain h (v := .int k (if q < p then q else p)) ?_ (.one _ _ (.int _ _)) trivial
    simp [execOp, ho, resolve, hb, invoke, builtin, Builtin.min_, h1, e1, e2, Builtin.min2]
theorem take_get {α : Type} {es : List α} {n j : Nat} {e : α} (h : (es.take n)[j]? = some e) : es[j]? = some e := by
  rw [List.getElem?_take] at h
  split at h
  · exact h
  · cases h
theorem rep_take {w : World} {M : Map} {ow : Own} {sz : Nat} {es : List (List Cell)} {ad : Option Addr} {cap : Nat} (h : RepC w M (.slice ow sz es) (.slice ad es.length cap)) (n : Nat) (hn : n ≤ es.length) (o' : Own) (cap' : Nat) (hc : n ≤ cap') (hf : o' = .full → cap' = n) :
    RepC w M (.slice o' sz (es.take n)) (.slice ad n cap') := by
  have hl : (es.take n).length = n := by rw [List.length_take]; omega
  obtain ⟨a', c', e1, _, _, hne⟩ := rep_slice (.one _ _ h)
  cases e1
  by_cases h0 : n = 0
  · subst h0
    rw [List.take_zero]
    exact .nil _ _ _ _ hf
  · have hes : es ≠ [] := by rintro rfl; simp at hn; exact h0 hn
    obtain ⟨b, off, f, rfl, h1, h2, h3, h4⟩ := hne hes
    have := RepC.slice (w := w) (M := M) o' sz (es.take n) b off cap' f (fun e he => h1 e (List.mem_of_mem_take he)) (by rw [hl]; have := Nat.mul_le_mul_right sz hn; omega) (fun e => by rw [hl]; exact hf e) (by rw [hl]; exact hc)
      (fun j i e c hj hi => h3 j i e c (take_get hj) hi) (fun j i e c hj hi => h4 j i e c (take_get hj) hi)
    rwa [hl] at this
theorem rep_drop {w : World} {M : Map} {ow : Own} {sz : Nat} {es : List (List Cell)} {ad : Option Addr} {cap : Nat} (h : RepC w M (.slice ow sz es) (.slice ad es.length cap)) (n : Nat) (hn : n ≤ es.length) :
    RepC w M (.slice .no sz (es.drop n)) (.slice (if cap = n then ad else ad.map (·.add (n * sz))) (es.length - n) (cap - n)) := by
  have hl : (es.drop n).length = es.length - n := List.length_drop
  obtain ⟨a', c', e1, hcap, _, hne⟩ := rep_slice (.one _ _ h)
  cases e1
  by_cases h0 : n = es.length
  · subst h0
    rw [List.drop_length, Nat.sub_self]
    exact .nil _ _ _ _ (fun e => by cases e)
  · have hes : es ≠ [] := by rintro rfl; simp at hn h0; exact h0 hn
    obtain ⟨b, off, f, rfl, h1, h2, h3, h4⟩ := hne hes
    rw [if_neg (by omega), Option.map_some, addr_add]
    have hget : ∀ {j : Nat} {e : List Cell}, (es.drop n)[j]? = some e → es[n + j]? = some e := fun hj => by rwa [List.getElem?_drop] at hj
    have hmul : n * sz + (es.length - n) * sz = es.length * sz := by rw [← Nat.add_mul]; congr 1; omega
    have := RepC.slice (w := w) (M := M) .no sz (es.drop n) b (off + n * sz) (cap - n) (fun j => f (n + j)) (fun e he => h1 e (List.mem_of_mem_drop he)) (by rw [hl]; omega) (fun e => by cases e) (by rw [hl]; omega)
      (fun j i e c hj hi => by
        have := h3 (n + j) i e c (hget hj) hi
        rw [Nat.add_mul] at this
        rw [show off + n * sz + (j * sz + i) = off + (n * sz + j * sz + i) by omega]
        exact this) (fun j i e c hj hi => h4 (n + j) i e c (hget hj) hi)
    rwa [hl] at this
theorem gives_slice (h : Sim C N w0 M0 σ0 Φ st w M a) (hT : ∀ t d, C.T t = some d → TyFits C.P t d) {o : Oper} {t : TypeId} {x : Operand} {lo hi mx : Option Operand} {d de : TyD} {e : TypeId} {ow : Own} {sz : Nat} {es : List (List Cell)} {r : PV}
    (ho : o.op = .slice t x lo hi mx) (hd : C.T t = some d) (hk : d.k = .slice e) (hde : C.T e = some de) (hsz : de.size = sz) (hx : oper C st.env x = .one (.slice ow sz es))
    (hs : sliceR (lo.map (oper C st.env)) (hi.map (oper C st.env)) (mx.map (oper C st.env)) sz es r) : Gives C a st.live w M o r := by
  obtain ⟨i1, u1, hi1, hu1, _, _, _, _, _, _, hm1⟩ := hT t d hd
  rw [hk] at hm1
  simp only at hm1
  subst hm1
  obtain ⟨i2, u2, hi2, hu2, hs2, _⟩ := hT e de hde
  have hxv := (h.eval x).1
  rw [hx] at hxv
  obtain ⟨ad, cap, ev, hcap, _, _⟩ := rep_slice hxv
  rw [ev] at hxv
  have hint : ∀ {y : Operand} {k : IntKind} {n : Int}, oper C st.env y = .one (.int k n) → a.eval y = .int k n := fun {y k n} hy => by
    have := (h.eval y).1
    rw [hy] at this
    exact rep_int this
  cases lo with
  | none =>
    cases hi with
    | none => cases mx <;> simp [sliceR] at hs
    | some y =>
      cases mx with
      | none =>
        simp only [Option.map_none, Option.map_some, sliceR] at hs
        cases hy : oper C st.env y with
        | one c =>
          cases c with
          | int k n =>
            rw [hy] at hs
            simp only at hs
            obtain ⟨h1, h2, rfl⟩ := hs
            have e1 := hint hy
            refine gives_plain h (v := .slice ad n.toNat cap) ?_ (.one _ _ (rep_take hxv.one_inv n.toNat (by omega) .no cap (by omega) (fun e => by cases e))) trivial
            have hb : n ≤ (cap : Int) := by omega
            simp [execOp, ho, ev, Instr.sliceAt, Instr.slice, run_underlying hu1, Instr.sliceBounds, Instr.sliceBound, asIntOf, e1, h1, hb, run_sizeOf' hi2]
            intro _
            cases ad <;> simp [Addr.add]
          | _ => rw [hy] at hs; simp at hs
        | _ => rw [hy] at hs; simp at hs
      | some z =>
        simp only [Option.map_none, Option.map_some, sliceR] at hs
        cases hy : oper C st.env y with
        | one c =>
          cases c with
          | int k n =>
            rw [hy] at hs
            cases hz : oper C st.env z with
            | one c' =>
              cases c' with
              | int k' m =>
                rw [hz] at hs
                simp only at hs
                obtain ⟨rfl, h1, h2, rfl⟩ := hs
                have e1 := hint hy
                have e2 := hint hz
                refine gives_plain h (v := .slice ad n.toNat n.toNat) ?_ (.one _ _ (rep_take hxv.one_inv n.toNat (by omega) .full n.toNat (by omega) (fun _ => rfl))) trivial
                have hb : n ≤ (cap : Int) := by omega
                have hb2 : n ≤ max n 0 := by omega
                have hb3 : (if n ≤ 0 then ad else Option.map (fun x => x.add 0) ad) = ad := by
                  split
                  · rfl
                  · cases ad <;> simp [Addr.add]
                simp [execOp, ho, ev, Instr.sliceAt, Instr.slice, run_underlying hu1, Instr.sliceBounds, Instr.sliceBound, asIntOf, e1, e2, h1, hb, hb2, hb3, run_sizeOf' hi2]
              | _ => rw [hz] at hs; simp at hs
            | _ => rw [hz] at hs; simp at hs
          | _ => rw [hy] at hs; simp at hs
        | _ => rw [hy] at hs; simp at hs
  | some y =>
    cases hi with
    | some z => cases mx <;> simp [sliceR] at hs
    | none =>
      cases mx with
      | some z => simp [sliceR] at hs
      | none =>
        simp only [Option.map_none, Option.map_some, sliceR] at hs
        cases hy : oper C st.env y with
        | one c =>
          cases c with
          | int k n =>
            rw [hy] at hs
            simp only at hs
            obtain ⟨h1, h2, rfl⟩ := hs
            have e1 := hint hy
            refine gives_plain h (v := .slice (if cap = n.toNat then ad else ad.map (·.add (n.toNat * sz))) (es.length - n.toNat) (cap - n.toNat)) ?_ (.one _ _ (rep_drop hxv.one_inv n.toNat (by omega))) trivial
            simp [execOp, ho, ev, Instr.sliceAt, Instr.slice, run_underlying hu1, Instr.sliceBounds, Instr.sliceBound, asIntOf, e1, h1, h2, run_sizeOf' hi2, hs2, hsz]
          | _ => rw [hy] at hs; simp at hs
        | _ => rw [hy] at hs; simp at hs
theorem opR_gives (h : Sim C N w0 M0 σ0 Φ st w M a) (hT : ∀ t d, C.T t = some d → TyFits C.P t d) {o : Oper} {r : PV} (hr : opR C st.env o.type o.op r) : Gives C a st.live w M o r := by
  cases ho : o.op <;> rw [ho] at hr <;> simp only [opR] at hr
  case move x => subst hr; exact gives_move h (.inl ho)
  case assign x => subst hr; exact gives_move h (.inr ho)
  case pick c x y => obtain ⟨t, hc, rfl⟩ := hr; exact gives_pick h ho hc
  case build t ps => obtain ⟨d, fs, cs, h1, h2, h3, rfl⟩ := hr; exact gives_build h hT ho h1 h2 h3
  case buildSlice t n ps => obtain ⟨d, e, de, es, h1, h2, h3, h4, h5, h6, h7, rfl⟩ := hr; exact gives_buildSlice h hT ho h1 h2 h3 h4 h5 h6 h7
  case nilCheck x => obtain ⟨⟨q, hq⟩, rfl⟩ := hr; exact gives_nilCheck h ho hq
  case binOp op xt x y yt => exact gives_bin h hT ho hr
  case unOp op t x =>
    cases op <;> simp only at hr
    obtain ⟨b, hb, rfl⟩ := hr
    exact gives_not h ho hb
  case makeFunc fn first captured =>
    cases fn <;> simp only at hr
    obtain ⟨h1, caps, h2, rfl⟩ := hr
    exact gives_makeFunc h ho h1 h2
  case slice t x lo hi mx => obtain ⟨d, e, de, ow, sz, es, h1, h2, h3, h4, h5, h6⟩ := hr; exact gives_slice h hT ho h1 h2 h3 h4 h5 h6
  case fieldAddr s x f => obtain ⟨d, fs, p, h1, h2, h3, h4, h5⟩ := hr; exact gives_fieldAddr h hT ho h1 h2 h3 h4 h5
  case indexAddr t x i =>
    obtain ⟨d, k, n, h1, h2, h3, h4⟩ := hr
    split at h4
    · rename_i e hk
      obtain ⟨ow, sz, es, e', de, h5, h6, h7, h8, rfl⟩ := h4
      exact gives_indexSlice h hT ho h1 hk h2 h3 h5 h6 h7 h8
    · rename_i len e hk
      obtain ⟨de, h5, h6, h7⟩ := h4
      exact gives_indexArray h hT ho h1 hk h2 h3 h5 h6 h7
    · exact h4.elim
  case extract x i => obtain ⟨vs, v, h1, h2, rfl⟩ := hr; exact gives_extract h ho h1 h2
  case call c =>
    split at hr
    · rename_i hb
      obtain ⟨x, d, e, ow, sz, es, h1, ⟨t, h2, h3⟩, h4, h5, rfl⟩ := hr
      exact gives_len h hT ho hb h1 h2 h3 h4 h5
    · rename_i hb
      obtain ⟨x, y, k, p, q, h1, h2, h3, rfl⟩ := hr
      exact (gives_mm h ho h1 h2 h3).1 hb
    · rename_i hb
      obtain ⟨x, y, k, p, q, h1, h2, h3, rfl⟩ := hr
      exact (gives_mm h ho h1 h2 h3).2 hb
    · exact hr.elim
end
end Go.Proofs.YtnpgbkldpdogjaaGreatDoor.V

namespace Go.Proofs.YtnpgbkldpdogjaaGreatDoor.V
open Go
theorem readBox_iff {st : St} {d t v : Nat} {cs : List Cell} : (∃ f, (st.σ ++ [st.loc])[d]? = some f ∧ (f t)[v]? = some cs) ↔ readBox st d t v = some cs := by
  unfold readBox
  by_cases h : d = st.σ.length
  · subst h
    rw [if_pos rfl]
    constructor
    · rintro ⟨f, hf, hv⟩
      rw [List.getElem?_append_right (Nat.le_refl _), Nat.sub_self] at hf
      cases hf
      exact hv
    · intro hv
      exact ⟨_, by rw [List.getElem?_append_right (Nat.le_refl _), Nat.sub_self]; try rfl, hv⟩
  · rw [if_neg h]
    constructor
    · rintro ⟨f, hf, hv⟩
      have := (List.getElem?_eq_some_iff.1 hf).1
      rw [List.length_append, List.length_singleton] at this
      rw [List.getElem?_append_left (by omega)] at hf
      rw [hf]
      exact hv
    · intro hv
      obtain ⟨f, hf, hv⟩ := Option.bind_eq_some_iff.1 hv
      exact ⟨f, by rw [List.getElem?_append_left (List.getElem?_eq_some_iff.1 hf).1]; exact hf, hv⟩
section
variable {C : Cfg} {N : Nat} {w0 w : World} {M0 M : Map} {σ0 : List Frm} {Φ : Nat → Nat → Bool} {st : St} {a : Act}
theorem run_isAgg' {t : TypeId} {d : TyD} (h : TyFits C.P t d) (w : World) : (isAgg t).run C.P w = .ok d.isAgg w := by
  obtain ⟨i, u, hi, hu, _, _, _, _, _, _, hm⟩ := h
  unfold isAgg TyD.isAgg
  simp only [Sem.run_bind, run_underlying hu, Result.andThen_ok]
  cases hk : d.k <;> rw [hk] at hm <;> simp only at hm
  case bool => subst hm; rfl
  case struct fs => obtain ⟨fa, rfl, _⟩ := hm; rfl
  case slice e => subst hm; rfl
  case array n e => subst hm; rfl
  case other =>
    obtain ⟨h1, h2⟩ := hm
    cases u <;> first | rfl | exact absurd rfl (h1 _) | exact absurd rfl (h2 _ _)
theorem rep_mkPV {w : World} {M : Map} {live : Live} {cs : List Cell} {us : List Value} {agg : Bool} (hs : us.length = cs.length) (h1 : agg = false → cs.length = 1) (hr : ∀ (i : Nat) (x : Cell), cs[i]? = some x → RepC w M x (us.getD i undef))
    (ht : ∀ (i : Nat) (x : Cell), cs[i]? = some x → TipC w M live x (us.getD i undef)) : RepV w M (mkPV agg cs) (if agg then .agg us.toArray else us.getD 0 undef) ∧ TipV w M live (mkPV agg cs) (if agg then .agg us.toArray else us.getD 0 undef) := by
  cases agg with
  | true =>
    simp only [mkPV, if_true]
    exact ⟨.agg _ _ (by simpa using hs) fun i c hc => by rw [array_getD_list]; exact hr i c hc, fun i c hc => by rw [array_getD_list]; exact ht i c hc⟩
  | false =>
    have hl := h1 rfl
    match cs, hl with
    | [c], _ =>
      simp only [mkPV, Bool.false_eq_true, if_false]
      exact ⟨.one _ _ (hr 0 c rfl), ht 0 c rfl⟩
theorem run_loadVar' {t : TypeId} {d : TyD} (hf : TyFits C.P t d) {Pr : Cell → Value → Prop} {cs : List Cell} {b o off : Nat} (hc : ∀ (i : Nat) (x : Cell), cs[i]? = some x → ∃ u, w.cell? ⟨b, o + i, none⟩ = some u ∧ Pr x u) (hl : off + d.size ≤ cs.length) :
    ∃ us : List Value, (loadVar t ⟨b, o + off, none⟩).run C.P w = .ok (if d.isAgg then .agg us.toArray else us.getD 0 undef) w ∧ us.length = ((cs.drop off).take d.size).length ∧ (d.isAgg = false → ((cs.drop off).take d.size).length = 1) ∧
      ∀ (i : Nat) (x : Cell), ((cs.drop off).take d.size)[i]? = some x → Pr x (us.getD i undef) := by
  have hcell : ∀ i, i < d.size → ∃ u, w.cell? ⟨b, o + off + i, none⟩ = some u ∧ ∀ x, cs[off + i]? = some x → Pr x u := by
    intro i hi
    have hlt : off + i < cs.length := by omega
    obtain ⟨u, h1, h2⟩ := hc (off + i) _ (List.getElem?_eq_getElem hlt)
    refine ⟨u, by rw [Nat.add_assoc]; exact h1, fun x hx => ?_⟩
    rw [List.getElem?_eq_getElem hlt] at hx
    cases hx
    exact h2
  have hcs : ((cs.drop off).take d.size).length = d.size := by rw [List.length_take, List.length_drop]; omega
  let us : List Value := (List.range d.size).map fun i => (w.cell? ⟨b, o + off + i, none⟩).getD undef
  have hinfo := hf
  obtain ⟨inf, u, hi, hu, hsz, _, _, _, _, h1, _⟩ := hf
  refine ⟨us, ?_, by rw [hcs]; simp [us], fun e => by rw [hcs]; exact h1 e, fun i x hx => ?_⟩
  · unfold loadVar
    simp only [Sem.run_bind, run_isAgg' hinfo, Result.andThen_ok]
    cases hag : d.isAgg with
    | true =>
      simp only [if_true, Sem.run_bind, run_sizeOf' hi, hsz, Result.andThen_ok]
      rw [run_loadCells w ⟨b, o + off, none⟩ d.size (fun i => (w.cell? ⟨b, o + off + i, none⟩).getD undef) (fun j hj => by obtain ⟨u, hu, _⟩ := hcell j hj; rw [addr_add, hu]; try rfl)]
      try rfl
    | false =>
      have h1' := h1 hag
      obtain ⟨u, hu, _⟩ := hcell 0 (by omega)
      rw [Nat.add_zero] at hu
      have hz : us.getD 0 undef = u := by
        rw [List.getD_eq_getElem?_getD]
        simp only [us, List.getElem?_map, List.getElem?_range (show 0 < d.size by omega), Option.map_some, Option.getD_some, Nat.add_zero, hu]
      simp only [Bool.false_eq_true, if_false]
      rw [hz, run_load, hu]
  · rw [List.getElem?_take] at hx
    split at hx
    · rename_i hi
      rw [List.getElem?_drop] at hx
      obtain ⟨u, h1, h2⟩ := hcell i hi
      have : us.getD i undef = u := by
        rw [List.getD_eq_getElem?_getD]
        simp only [us, List.getElem?_map, List.getElem?_range hi, Option.map_some, Option.getD_some, h1]
      rw [this]
      exact h2 x hx
    · cases hx
theorem rep_mkPV_er {w : World} {M : Map} {live : Live} {cs : List Cell} {us : List Value} {agg : Bool} (hs : us.length = cs.length) (h1 : agg = false → cs.length = 1) (hr : ∀ (i : Nat) (x : Cell), cs[i]? = some x → RepC w M x (us.getD i undef)) :
    RepV w M (erV (mkPV agg cs)) (if agg then .agg us.toArray else us.getD 0 undef) ∧ TipV w M live (erV (mkPV agg cs)) (if agg then .agg us.toArray else us.getD 0 undef) := by
  refine ⟨RepV.er ?_, TipV.er⟩
  cases agg with
  | true =>
    simp only [mkPV, if_true]
    exact .agg _ _ (by simpa using hs) fun i c hc => by rw [array_getD_list]; exact hr i c hc
  | false =>
    have hl := h1 rfl
    match cs, hl with
    | [c], _ =>
      simp only [mkPV, Bool.false_eq_true, if_false]
      exact .one _ _ (hr 0 c rfl)
theorem Sim.boxCells (h : Sim C N w0 M0 σ0 Φ st w M a) {d t v b : Nat} {cs : List Cell} (hb : M.box d t v = some b) (hc : readBox st d t v = some cs) :
    ∃ c e, w.heap[b]? = some (.cells c e (0, 0)) ∧ c.size = cs.length ∧ M.prot b = 0 ∧ ∀ (i : Nat) (x : Cell), cs[i]? = some x → RepC w M x (c.getD i undef) := by
  obtain ⟨cs', hf, hp, c, e, hh, hs, hr⟩ := h.base.outer d t v b hb
  rw [readBox_iff.1 hf] at hc
  cases hc
  exact ⟨c, e, hh, hs, hp, hr⟩
theorem cell_of_cells {w : World} {b i : Nat} {c : Array Value} {e : TypeId} (hh : w.heap[b]? = some (.cells c e (0, 0))) (hi : i < c.size) : w.cell? ⟨b, i, none⟩ = some (c.getD i undef) := by
  rw [Array.getD_eq_getD_getElem?, Array.getElem?_eq_getElem hi]
  simp [World.cell?, hh, Array.getElem?_eq_getElem hi]
theorem load_plain (h : Sim C N w0 M0 σ0 Φ st w M a) (hT : ∀ t d, C.T t = some d → TyFits C.P t d) {t : TypeId} {x : Operand} {r : PV} (hr : loadR C st t (oper C st.env x) r) : ∃ ad v, a.eval x = .pointer (some ad) ∧ (loadVar t ad).run C.P w = .ok v w ∧ RepV w M r v ∧ TipV w M st.live r v := by
  obtain ⟨d, hd, hr⟩ := hr
  have hf := hT t d hd
  have hxv := (h.eval x).1
  split at hr
  · rename_i fd tt v off hx
    obtain ⟨cs, hc, hl, rfl⟩ := hr
    rw [hx] at hxv
    obtain ⟨b, hb, ev⟩ := rep_box hxv
    obtain ⟨c, e, hh, hs, hp, hrep⟩ := h.boxCells hb hc
    by_cases hfd : fd = st.σ.length
    · subst hfd
      rw [if_pos rfl]
      have hloc : (st.loc tt)[v]? = some cs := by simpa [readBox] using hc
      obtain ⟨us, h1, h2, h3, h4⟩ := run_loadVar' (w := w) (Pr := fun x u => RepC w M x u ∧ TipC w M st.live x u) hf (cs := cs) (b := b) (o := 0) (off := off) (fun i x hx => by
        have hi := (List.getElem?_eq_some_iff.1 hx).1
        exact ⟨_, by rw [Nat.zero_add]; exact cell_of_cells hh (by omega), hrep i x hx, h.tipsL tt v b c e hb hh i x cs hloc hx⟩) hl
      obtain ⟨r1, r2⟩ := rep_mkPV h2 h3 (fun i x hx => (h4 i x hx).1) (fun i x hx => (h4 i x hx).2)
      rw [Nat.zero_add] at h1
      exact ⟨_, _, ev, h1, r1, r2⟩
    · rw [if_neg hfd]
      obtain ⟨us, h1, h2, h3, h4⟩ := run_loadVar' (w := w) (Pr := fun x u => RepC w M x u) hf (cs := cs) (b := b) (o := 0) (off := off) (fun i x hx => by
        have hi := (List.getElem?_eq_some_iff.1 hx).1
        exact ⟨_, by rw [Nat.zero_add]; exact cell_of_cells hh (by omega), hrep i x hx⟩) hl
      obtain ⟨r1, r2⟩ := rep_mkPV_er (live := st.live) h2 h3 h4
      rw [Nat.zero_add] at h1
      exact ⟨_, _, ev, h1, r1, r2⟩
  · rename_i cs off hx
    obtain ⟨hl, rfl⟩ := hr
    rw [hx] at hxv
    obtain ⟨b, off', f, ev, hp, hw, hrep⟩ := rep_cptr hxv
    obtain ⟨us, h1, h2, h3, h4⟩ := run_loadVar' (w := w) (Pr := fun x u => RepC w M x u) hf (cs := cs) (b := b) (o := off') (off := off) (fun i x hx => ⟨_, hw i x hx, hrep i x hx⟩) hl
    obtain ⟨r1, r2⟩ := rep_mkPV_er (live := st.live) h2 h3 h4
    exact ⟨_, _, ev, h1, r1, r2⟩
  · exact hr.elim
theorem gives_load (h : Sim C N w0 M0 σ0 Φ st w M a) (hT : ∀ t d, C.T t = some d → TyFits C.P t d) {o : Oper} {t : TypeId} {x : Operand} {r : PV} (ho : o.op = .load t x) (hr : loadR C st t (oper C st.env x) r) : Gives C a st.live w M o r := by
  obtain ⟨ad, v, ev, h1, r1, r2⟩ := load_plain h hT hr
  exact gives_plain h (by simp only [execOp, ho, ev, Instr.loadAt, Sem.run_bind, run_sureAddr, Result.andThen_ok, h1, Sem.run_pure]) r1 r2
theorem sim_newVar (h : Sim C N w0 M0 σ0 Φ st w M a) {dst : Nat} (hN : dst < N) (hΦ : ∀ v, Φ dst v = false) {cs : List Cell} {us : Array Value} (e : TypeId) (hs : us.size = cs.length) (hr : ∀ (i : Nat) (x : Cell), cs[i]? = some x → RepC w M x (us.getD i undef))
    (ht : ∀ (i : Nat) (x : Cell), cs[i]? = some x → TipC w M st.live x (us.getD i undef)) :
    ∃ M1, Sim C N w0 M0 σ0 Φ { st with loc := upd st.loc dst (st.loc dst ++ [cs]), env := upd st.env dst (.one (.box st.σ.length dst (st.loc dst).length 0)) } (w.alloc (.cells us e)) M1 (a.put (some dst) (.pointer (some ⟨w.heap.size, 0, none⟩))) := by
  have hg := grow_row (M := M) h.base.prot us e 0
  have hm := hg.mono h.base.prot
  have h1 := h.grow hg
  have h2 := h1.addBox dst cs w.heap.size us e h.keeps.size (heap_new w _) (by show (if w.heap.size = w.heap.size then 0 else _) = 0; rw [if_pos rfl])
    (fun d t v hb => by have := h.base.outer.lt (show M.box d t v = some w.heap.size from hb); omega) (fun k hk => by have := (h.own k _ (show M.own k = some w.heap.size from hk)).2.1; omega) hs
    (fun i x hx => (hr i x hx).mono hm) (fun i x hx => (ht i x hx).grow hg) (hΦ _)
  refine ⟨_, h2.put (some dst) (fun d hd => by cases hd; exact hN) (r := .one (.box st.σ.length dst (st.loc dst).length 0)) (.one _ _ (.box _ _ _ _ _ ?_)) trivial⟩
  show (if _ then _ else _) = _
  rw [if_pos ⟨rfl, rfl, rfl⟩]
end
end Go.Proofs.YtnpgbkldpdogjaaGreatDoor.V

namespace Go.Proofs.YtnpgbkldpdogjaaGreatDoor.V
open Go
theorem modify_get {α : Type} (l : List α) (f : α → α) (i j : Nat) : (l.modify i f)[j]? = if i = j then (l[j]?).map f else l[j]? := by
  rw [List.getElem?_modify]
  by_cases h : i = j
  · simp [h]
  · simp [h]
section
variable {C : Cfg} {N : Nat} {w0 w : World} {M0 M : Map} {σ0 : List Frm} {Φ : Nat → Nat → Bool} {st : St} {a : Act}
theorem run_storeVar' {t : TypeId} {d : TyD} (hf : TyFits C.P t d) {v : Value} {b off : Nat} {c : Array Value} {e : TypeId} (hh : w.heap[b]? = some (.cells c e (0, 0))) (hs : v.cells.size = d.size) (hl : off + v.cells.size ≤ c.size) (h1 : ∀ u ∈ v.cells.toList, u.oneCell' = true) :
    (storeVar t ⟨b, off, none⟩ v).run C.P w = .ok () (w.setRow b (c.toList.take off ++ v.cells.toList ++ c.toList.drop (off + v.cells.toList.length)).toArray) := by
  obtain ⟨i, u, hi, hu, hsz, _⟩ := hf
  unfold storeVar
  simp only [Sem.run_bind, run_sizeOf' hi, Result.andThen_ok, hsz]
  rw [if_neg (by simpa using hs)]
  have := run_storeCells_at (P := C.P) b off e v.cells.toList 0 c w hh (by simpa using hl) h1
  rw [Nat.add_zero] at this
  exact this
theorem sim_store (h : Sim C N w0 M0 σ0 Φ st w M a) {fd tt v b off : Nat} {cs ns : List Cell} {c : Array Value} {e : TypeId} {us : List Value} (hb : M.box fd tt v = some b) (hc : readBox st fd tt v = some cs) (hh : w.heap[b]? = some (.cells c e (0, 0))) (hs : c.size = cs.length)
    (hus : us.length = ns.length) (hl : off + ns.length ≤ cs.length) (hflat : fd = st.σ.length ∨ flatL ns = true) (hr : ∀ (i : Nat) (x : Cell), ns[i]? = some x → RepC w M x (us.getD i undef)) (ht : ∀ (i : Nat) (x : Cell), ns[i]? = some x → TipC w M st.live x (us.getD i undef)) :
    Sim C N w0 M0 σ0 Φ (writeBox st fd tt v off ns) (w.setRow b (c.toList.take off ++ us ++ c.toList.drop (off + us.length)).toArray) M a := by
  obtain ⟨c', e', hh', hs', hp, hrep⟩ := h.boxCells hb hc
  rw [hh] at hh'
  cases hh'
  generalize hw1 : w.setRow b (c.toList.take off ++ us ++ c.toList.drop (off + us.length)).toArray = w1
  have hother : ∀ k, k ≠ b → w1.heap[k]? = w.heap[k]? := fun k hk => by rw [← hw1]; exact setRow_other w b k _ hk
  have hsame : w1.heap[b]? = some (.cells (c.toList.take off ++ us ++ c.toList.drop (off + us.length)).toArray e (0, 0)) := by rw [← hw1]; exact setRow_heap w b c _ e (0, 0) hh
  have hsize : w1.heap.size = w.heap.size := by rw [← hw1]; exact setRow_size _ _ _
  have hm : Mono w M w1 M := by
    refine ⟨fun _ => Nat.le_refl _, fun k i hi => ?_, fun _ _ _ _ hb => hb⟩
    have hk : k ≠ b := by rintro rfl; rw [hp] at hi; omega
    exact cell_of_heap (hother k hk)
  have hlen : (c.toList.take off ++ us ++ c.toList.drop (off + us.length)).length = cs.length := by
    simp only [List.length_append, List.length_take, List.length_drop, Array.length_toList]; omega
  have htip : ∀ {x : Cell} {u : Value}, TipC w M st.live x u → TipC w1 M st.live x u := by
    intro x u hx
    unfold TipC at *
    split
    · obtain ⟨hbd, hx⟩ := hx
      refine ⟨hbd, fun hlv => ?_⟩
      obtain ⟨ad, cap, hv, h1⟩ := hx hlv
      refine ⟨ad, cap, hv, ?_⟩
      rcases h1 with h1 | ⟨g, cs', e', ha, ho, hpg, hhg, hcap⟩
      · exact .inl h1
      · have hgb : g ≠ b := by rintro rfl; exact (h.own _ _ ho).2.2.2 _ _ _ hb
        exact .inr ⟨g, cs', e', ha, ho, hpg, by rw [hother g hgb]; exact hhg, hcap⟩
    · trivial
  -- the new cells
  have hnew : ∀ (er : Cell → Cell), (∀ x u, RepC w M x u → RepC w M (er x) u) → ∀ (i : Nat) (x : Cell), (splice cs off (ns.map er))[i]? = some x → RepC w1 M x ((c.toList.take off ++ us ++ c.toList.drop (off + us.length)).toArray.getD i undef) := by
    intro er her i x hx
    rw [array_getD_list]
    exact (rep_splice (R := fun c u => RepC w1 M c u) (cs := cs) (ns := ns.map er) (vs := c.toList) (us := us) (off := off) (by simpa using hs) (by simpa using hus) (by simpa using hl)
      (fun i c' hc' => by rw [array_getD_toList]; exact (hrep i c' hc').mono hm)
      (fun i c' hc' => by
        rw [List.getElem?_map] at hc'
        obtain ⟨c2, h2, rfl⟩ := Option.map_eq_some_iff.1 hc'
        exact (her _ _ (hr i c2 h2)).mono hm)).2 i x hx
  have hkeeps : Keeps w0 M0 w1 M := by
    refine ⟨by rw [← hw1]; exact h.keeps.os, by rw [← hw1]; exact h.keeps.tape, by rw [← hw1]; exact h.keeps.output, by rw [hsize]; exact h.keeps.size, h.keeps.prot, fun k hk hn => ?_⟩
    have hkb : k ≠ b := by
      rintro rfl
      by_cases hd : fd < st.σ.length
      · rw [h.boxes0 fd tt v hd] at hb
        exact hn _ _ _ hb
      · have : fd = st.σ.length := by
          obtain ⟨f, hf, _⟩ := readBox_iff.2 hc
          have := (List.getElem?_eq_some_iff.1 hf).1
          rw [List.length_append, List.length_singleton] at this
          omega
        subst this
        exact absurd (h.newbox tt v k hb) (by omega)
    rw [hother k hkb]
    exact h.keeps.keep k hk hn
  by_cases hfd : fd = st.σ.length
  · -- a variable of this frame
    subst hfd
    have hloc : (st.loc tt)[v]? = some cs := by simpa [readBox] using hc
    have hwb : writeBox st st.σ.length tt v off ns = { st with loc := upd st.loc tt ((st.loc tt).modify v fun cs => splice cs off ns) } := by simp [writeBox]
    rw [hwb]
    have hget : ∀ (t' v' : Nat) (cs' : List Cell), (upd st.loc tt ((st.loc tt).modify v fun cs => splice cs off ns) t')[v']? = some cs' → (t' = tt ∧ v' = v ∧ cs' = splice cs off ns) ∨ (¬ (t' = tt ∧ v' = v) ∧ (st.loc t')[v']? = some cs') := by
      intro t' v' cs' hx
      simp only [upd] at hx
      by_cases e1 : t' = tt
      · rw [if_pos e1] at hx
        rw [modify_get] at hx
        by_cases e2 : v = v'
        · subst e2
          rw [if_pos rfl, hloc] at hx
          simp at hx
          exact .inl ⟨e1, rfl, hx.symm⟩
        · rw [if_neg e2] at hx
          refine .inr ⟨fun e => e2 e.2.symm, ?_⟩
          subst e1
          simpa using hx
      · rw [if_neg e1] at hx
        exact .inr ⟨fun e => e1 e.1, hx⟩
    have hput : ∀ (t' v' : Nat) (cs' : List Cell), (st.loc t')[v']? = some cs' → (upd st.loc tt ((st.loc tt).modify v fun cs => splice cs off ns) t')[v']? = some (if t' = tt ∧ v' = v then splice cs off ns else cs') := by
      intro t' v' cs' hx
      simp only [upd]
      by_cases e1 : t' = tt
      · subst e1
        rw [if_pos rfl, modify_get]
        by_cases e2 : v = v'
        · subst e2
          rw [hloc] at hx
          cases hx
          rw [if_pos rfl, hloc, if_pos ⟨rfl, rfl⟩]
          try rfl
        · rw [if_neg e2, if_neg (fun e => e2 e.2.symm), hx]
      · rw [if_neg e1, if_neg (fun e => e1 e.1)]
        exact hx
    refine ⟨hkeeps, ⟨?_, h.base.inj, fun g cs' hg => (h.base.globs g cs' hg).mono hm, fun k hk => h.base.prot k (by rw [hsize] at hk; exact hk)⟩, h.boxes0, h.box0, h.newbox, ?_, h.phan, h.size, h.defers, fun t => (h.tmps t).mono hm,
      fun t => TipV.imp (fun _ _ hx => htip hx) (h.tipsT t), ?_, fun k g hk => by rw [hsize]; exact h.own k g hk, h.live, h.uniq⟩
    · intro d t' v' b' hb'
      obtain ⟨cs', hf, hp', c', e1, hh1, hs1, hr1⟩ := h.base.outer d t' v' b' hb'
      by_cases hbb : b' = b
      · subst hbb
        obtain ⟨rfl, rfl, rfl⟩ := h.base.inj _ _ _ _ _ _ _ hb hb'
        refine ⟨splice cs off ns, ⟨_, by rw [List.getElem?_append_right (Nat.le_refl _), Nat.sub_self]; try rfl, ?_⟩, hp, _, e, hsame, by rw [List.size_toArray, hlen, splice_length _ _ _ hl], fun i x hx => ?_⟩
        · have := hput tt v cs hloc
          rwa [if_pos ⟨rfl, rfl⟩] at this
        · exact hnew id (fun _ _ h => h) i x (by simpa using hx)
      · refine ⟨cs', ?_, hp', c', e1, by rw [hother b' hbb]; exact hh1, hs1, fun i x hx => (hr1 i x hx).mono hm⟩
        obtain ⟨f, hf1, hf2⟩ := hf
        by_cases hd : d < st.σ.length
        · rw [List.getElem?_append_left hd] at hf1
          exact ⟨f, by rw [List.getElem?_append_left hd]; exact hf1, hf2⟩
        · have hde : d = st.σ.length := by
            have := (List.getElem?_eq_some_iff.1 hf1).1
            rw [List.length_append, List.length_singleton] at this
            omega
          subst hde
          rw [List.getElem?_append_right (Nat.le_refl _), Nat.sub_self] at hf1
          cases hf1
          refine ⟨_, by rw [List.getElem?_append_right (Nat.le_refl _), Nat.sub_self]; try rfl, ?_⟩
          have := hput t' v' cs' hf2
          rw [if_neg] at this
          · exact this
          · rintro ⟨rfl, rfl⟩
            rw [hb] at hb'
            cases hb'
            exact hbb rfl
    · intro d t' v' b' hb' i x hx
      have hd := (h.box0 d t' v' b' hb').1
      have hbb : b' ≠ b := by
        rintro rfl
        rw [← h.boxes0 d t' v' hd] at hb'
        obtain ⟨rfl, _⟩ := h.base.inj _ _ _ _ _ _ _ hb hb'
        omega
      rw [cell_of_heap (hother b' hbb)]
      exact h.tipsO d t' v' b' hb' i x hx
    · intro t' v' b' c' e1 hb' hh1 i x cs' hcs' hx
      rcases hget t' v' cs' hcs' with ⟨rfl, rfl, rfl⟩ | ⟨hne, hold⟩
      · rw [hb] at hb'
        cases hb'
        rw [hsame] at hh1
        cases hh1
        rw [array_getD_list]
        exact (rep_splice (R := fun c u => TipC w1 M st.live c u) (cs := cs) (ns := ns) (vs := c.toList) (us := us) (off := off) (by simpa using hs) hus hl
          (fun i c' hc' => by rw [array_getD_toList]; exact htip (h.tipsL _ _ b c e hb hh i c' cs hloc hc')) (fun i c' hc' => htip (ht i c' hc'))).2 i x hx
      · have hbb : b' ≠ b := by
          rintro rfl
          obtain ⟨_, e2, e3⟩ := h.base.inj _ _ _ _ _ _ _ hb hb'
          exact hne ⟨e2.symm, e3.symm⟩
        rw [hother b' hbb] at hh1
        exact htip (h.tipsL t' v' b' c' e1 hb' hh1 i x cs' hold hx)
  · -- a variable of an earlier frame
    have hlt : fd < st.σ.length := by
      obtain ⟨f, hf, _⟩ := readBox_iff.2 hc
      have := (List.getElem?_eq_some_iff.1 hf).1
      rw [List.length_append, List.length_singleton] at this
      omega
    obtain ⟨f0, hf0, hv0⟩ : ∃ f0, st.σ[fd]? = some f0 ∧ (f0 tt)[v]? = some cs := by
      have := hc
      unfold readBox at this
      rw [if_neg hfd] at this
      exact Option.bind_eq_some_iff.1 this
    have hwb : writeBox st fd tt v off ns = { st with σ := st.σ.modify fd fun f => upd f tt ((f tt).modify v fun cs => splice cs off (ns.map erC)) } := by simp [writeBox, hfd]
    rw [hwb]
    generalize hσ1 : (st.σ.modify fd fun f => upd f tt ((f tt).modify v fun cs => splice cs off (ns.map erC))) = σ1
    have hσl : σ1.length = st.σ.length := by rw [← hσ1]; simp
    have hput : ∀ (d t' v' : Nat) (f : Frm) (cs' : List Cell), st.σ[d]? = some f → (f t')[v']? = some cs' → ∃ f', σ1[d]? = some f' ∧ (f' t')[v']? = some (if d = fd ∧ t' = tt ∧ v' = v then splice cs off (ns.map erC) else cs') := by
      intro d t' v' f cs' hf hv
      rw [← hσ1, modify_get, hf]
      by_cases e0 : fd = d
      · subst e0
        rw [hf0] at hf
        cases hf
        refine ⟨_, by rw [if_pos rfl]; try rfl, ?_⟩
        simp only [upd]
        by_cases e1 : t' = tt
        · subst e1
          rw [if_pos rfl, modify_get]
          by_cases e2 : v = v'
          · subst e2
            rw [if_pos rfl, hv0]
            simp
          · rw [if_neg e2, hv, if_neg (fun e => e2 e.2.2.symm)]
        · rw [if_neg e1, if_neg (fun e => e1 e.2.1)]
          exact hv
      · exact ⟨f, by rw [if_neg e0], by rw [if_neg (fun e => e0 e.1.symm)]; exact hv⟩
    have hget : ∀ (d t' v' : Nat) (f' : Frm) (cs' : List Cell), σ1[d]? = some f' → (f' t')[v']? = some cs' → ∃ f cs2, st.σ[d]? = some f ∧ (f t')[v']? = some cs2 ∧ cs' = (if d = fd ∧ t' = tt ∧ v' = v then splice cs off (ns.map erC) else cs2) := by
      intro d t' v' f' cs' hf hv
      rw [← hσ1, modify_get] at hf
      by_cases e0 : fd = d
      · subst e0
        rw [if_pos rfl, hf0] at hf
        cases hf
        simp only [upd] at hv
        by_cases e1 : t' = tt
        · subst e1
          rw [if_pos rfl, modify_get] at hv
          by_cases e2 : v = v'
          · subst e2
            rw [if_pos rfl, hv0] at hv
            simp at hv
            exact ⟨_, cs, hf0, hv0, by rw [if_pos ⟨rfl, rfl, rfl⟩]; exact hv.symm⟩
          · rw [if_neg e2] at hv
            exact ⟨_, cs', hf0, by simpa using hv, by rw [if_neg (fun e => e2 e.2.2.symm)]⟩
        · rw [if_neg e1] at hv
          exact ⟨_, cs', hf0, hv, by rw [if_neg (fun e => e1 e.2.1)]⟩
      · rw [if_neg e0] at hf
        exact ⟨f', cs', hf, hv, by rw [if_neg (fun e => e0 e.1.symm)]⟩
    refine ⟨hkeeps, ⟨?_, h.base.inj, fun g cs' hg => (h.base.globs g cs' hg).mono hm, fun k hk => h.base.prot k (by rw [hsize] at hk; exact hk)⟩, ?_, ?_, ?_, ?_, fun t v hp => by show M.box σ1.length t v = none; rw [hσl]; exact h.phan t v hp, h.size, h.defers, fun t => (h.tmps t).mono hm,
      fun t => TipV.imp (fun _ _ hx => htip hx) (h.tipsT t), ?_, fun k g hk => by rw [hsize]; exact h.own k g hk, h.live, h.uniq⟩
    · intro d t' v' b' hb'
      obtain ⟨cs', ⟨f, hf1, hf2⟩, hp', c', e1, hh1, hs1, hr1⟩ := h.base.outer d t' v' b' hb'
      by_cases hbb : b' = b
      · subst hbb
        obtain ⟨rfl, rfl, rfl⟩ := h.base.inj _ _ _ _ _ _ _ hb hb'
        obtain ⟨f', h1, h2⟩ := hput fd tt v f0 cs hf0 hv0
        rw [if_pos ⟨rfl, rfl, rfl⟩] at h2
        exact ⟨_, ⟨f', by rw [List.getElem?_append_left (by rw [hσl]; exact hlt)]; exact h1, h2⟩, hp, _, e, hsame, by rw [List.size_toArray, hlen, splice_length _ _ _ (by simpa using hl)], hnew erC (fun _ _ h => h.er)⟩
      · refine ⟨cs', ?_, hp', c', e1, by rw [hother b' hbb]; exact hh1, hs1, fun i x hx => (hr1 i x hx).mono hm⟩
        by_cases hd : d < st.σ.length
        · rw [List.getElem?_append_left hd] at hf1
          obtain ⟨f', h1, h2⟩ := hput d t' v' f cs' hf1 hf2
          rw [if_neg] at h2
          · exact ⟨f', by rw [List.getElem?_append_left (by rw [hσl]; exact hd)]; exact h1, h2⟩
          · rintro ⟨rfl, rfl, rfl⟩
            rw [hb] at hb'
            cases hb'
            exact hbb rfl
        · refine ⟨f, ?_, hf2⟩
          rw [List.getElem?_append_right (by omega)] at hf1
          show (σ1 ++ [st.loc])[d]? = some f
          rw [List.getElem?_append_right (by omega), hσl]
          exact hf1
    · intro d t' v' hd
      rw [hσl] at hd
      exact h.boxes0 d t' v' hd
    · intro d t' v' b' hb'
      rw [hσl]
      exact h.box0 d t' v' b' hb'
    · intro t' v' b' hb'
      rw [hσl] at hb'
      exact h.newbox t' v' b' hb'
    · rintro d t' v' b' hb' i x ⟨f', cs', h1, h2, h3⟩
      obtain ⟨f, cs2, h4, h5, h6⟩ := hget d t' v' f' cs' h1 h2
      have hd := (h.box0 d t' v' b' hb').1
      by_cases hbb : b' = b
      · subst hbb
        rw [← h.boxes0 d t' v' hd] at hb'
        obtain ⟨rfl, rfl, rfl⟩ := h.base.inj _ _ _ _ _ _ _ hb hb'
        rw [if_pos ⟨rfl, rfl, rfl⟩] at h6
        subst h6
        unfold splice at h3
        rw [splice_get cs (ns.map erC) off i (by simpa using hl)] at h3
        split at h3
        · rw [List.getElem?_map] at h3
          obtain ⟨c2, hc2, rfl⟩ := Option.map_eq_some_iff.1 h3
          refine .inr ⟨?_, isTip_erC _⟩
          rw [flatC_er]
          exact flatL_mem (hflat.resolve_left hfd) c2 (List.mem_of_getElem? hc2)
        · rename_i hni
          rcases h.tipsO fd tt v b' (by rw [← h.boxes0 fd tt v hd]; exact hb) i x ⟨f0, cs, hf0, hv0, h3⟩ with ⟨hold0, hold⟩ | hold
          case inr => exact .inr hold
          refine .inl ⟨hold0, ?_⟩
          rw [← hold]
          have hi : i < cs.length := (List.getElem?_eq_some_iff.1 h3).1
          rw [cell_of_cells hsame (by rw [List.size_toArray, hlen]; exact hi), cell_of_cells hh (by omega), array_getD_list, List.getD_eq_getElem?_getD, splice_get c.toList us off i (by simp; omega), if_neg (by rw [hus]; simpa using hni), ← List.getD_eq_getElem?_getD, array_getD_toList]
      · rw [cell_of_heap (hother b' hbb)]
        rw [if_neg] at h6
        · subst h6
          exact h.tipsO d t' v' b' hb' i x ⟨f, _, h4, h5, h3⟩
        · rintro ⟨rfl, rfl, rfl⟩
          rw [← h.boxes0 d t' v' hd, hb] at hb'
          cases hb'
          exact hbb rfl
    · intro t' v' b' c' e1 hb' hh1 i x cs' hcs' hx
      replace hb' : M.box σ1.length t' v' = some b' := hb'
      rw [hσl] at hb'
      have hbb : b' ≠ b := by
        rintro rfl
        obtain ⟨e0, _⟩ := h.base.inj _ _ _ _ _ _ _ hb hb'
        exact hfd e0
      rw [hother b' hbb] at hh1
      exact htip (h.tipsL t' v' b' c' e1 hb' hh1 i x cs' hcs' hx)
end
end Go.Proofs.YtnpgbkldpdogjaaGreatDoor.V

namespace Go.Proofs.YtnpgbkldpdogjaaGreatDoor.V
open Go
section
variable {C : Cfg} {N : Nat} {w0 w : World} {M0 M : Map} {σ0 : List Frm} {Φ : Nat → Nat → Bool} {st : St} {a : Act}
theorem run_append_stay {P : Program} (w : World) (t u ty e : TypeId) (i : TypeInfo) (ht : P.underlying t = some (.slice e)) (hu : P.underlying u = some (.slice e)) (hi : P.info? e = some i) (base xb : Option Addr) (sLen cap c : Nat) (h : sLen ≤ cap) :
    (Builtin.append_ #[t, u] ty #[.slice base sLen cap, .slice xb 0 c]).run P w = .ok (.slice base sLen cap) w := by
  cases xb <;> cases base <;> simp [Builtin.append_, run_underlying ht, run_underlying hu, sizeOf, typeInfo, hi, Builtin.lenOf, Builtin.firstCells, h, loadCells, loadCellsFrom, storeCells]
theorem run_append_room {P : Program} (w : World) (t u ty e : TypeId) (i : TypeInfo) (ht : P.underlying t = some (.slice e)) (hu : P.underlying u = some (.slice e)) (hi : P.info? e = some i) (g : Nat) (xa : Addr) (sLen cap n c : Nat) (cur : Array Value) (te : TypeId) (news : List Value)
    (hg : w.heap[g]? = some (.cells cur te (0, 0))) (hroom : sLen + n ≤ cap) (hn : news.length = n * i.size) (hfit : sLen * i.size + news.length ≤ cur.size) (hnews : ∀ j v, news[j]? = some v → w.cell? (xa.add j) = some v) (h1 : ∀ v ∈ news, v.oneCell' = true) :
    (Builtin.append_ #[t, u] ty #[.slice (some ⟨g, 0, none⟩) sLen cap, .slice (some xa) n c]).run P w =
      .ok (.slice (some ⟨g, 0, none⟩) (sLen + n) cap) (w.setRow g (cur.toList.take (sLen * i.size) ++ news ++ cur.toList.drop (sLen * i.size + news.length)).toArray) := by
  have hf := run_firstCells_some (P := P) w i.size n xa n c news hn hnews
  have hs := run_storeCells_at (P := P) g (sLen * i.size) te news 0 cur w hg (by simpa using hfit) h1
  rw [Nat.add_zero] at hs
  have ha : (⟨g, 0, none⟩ : Addr).add (sLen * i.size) = ⟨g, sLen * i.size, none⟩ := by rw [addr_add, Nat.zero_add]
  simp [Builtin.append_, run_underlying ht, run_underlying hu, sizeOf, typeInfo, hi, Builtin.lenOf, hroom, hf, ha, hs]
theorem run_append_new {P : Program} (w : World) (t u ty e : TypeId) (i : TypeInfo) (z : Value) (ht : P.underlying t = some (.slice e)) (hu : P.underlying u = some (.slice e)) (hi : P.info? e = some i) (hz : i.zero = some z) (base : Option Addr) (xa : Addr) (sLen cap n c : Nat) (olds news : List Value)
    (hold : (Builtin.firstCells i.size sLen (.slice base sLen cap)).run P w.drew = .ok olds.toArray w.drew) (hn : news.length = n * i.size) (hnews : ∀ j v, news[j]? = some v → w.cell? (xa.add j) = some v)
    (hgr : cap < sLen + n) (h63 : sLen + n ≤ 9223372036854775807) (hfit : (sLen + n) * i.bytes ≤ 140737488355328) :
    (Builtin.append_ #[t, u] ty #[.slice base sLen cap, .slice (some xa) n c]).run P w =
      .ok (.slice (some ⟨w.heap.size, 0, none⟩) (sLen + n) (grownCap w (sLen + n) cap e))
        (w.drew.alloc (.cells (olds.toArray ++ news.toArray ++ Builtin.zeroCells z.cells (grownCap w (sLen + n) cap e - (sLen + n))) e)) := by
  have hn' : ¬ (sLen + n ≤ cap) := by omega
  have h63' : ¬ (9223372036854775807 < ((sLen : Int) + (n : Int))) := by omega
  have h48 := growslice_fits hgr hfit
  have h48' : ¬ (281474976710656 < Builtin.nextslicecap (sLen + n) cap * i.bytes) := by omega
  have hf := run_firstCells_some (P := P) w.drew i.size n xa n c news hn (by simpa using hnews)
  simp [Builtin.append_, run_underlying ht, run_underlying hu, sizeOf, typeInfo, zeroValue, hi, hz, Builtin.lenOf, hn', h63', h48', Question.forced, hf, hold, newRow, grownCap]
  congr 2
  apply Array.ext'
  simp [List.append_assoc]
def flatF (f : Nat → Nat → Value) (n sz : Nat) : List Value := (List.range n).flatMap fun j => (List.range sz).map fun i => f j i
theorem flatF_length (f : Nat → Nat → Value) (n sz : Nat) : (flatF f n sz).length = n * sz := by
  unfold flatF
  rw [flatMap_length _ sz _ (fun _ _ => by simp), List.length_range]
theorem flatF_get (f : Nat → Nat → Value) (n sz j i : Nat) (hj : j < n) (hi : i < sz) : (flatF f n sz)[j * sz + i]? = some (f j i) := by
  unfold flatF
  rw [flatMap_get _ sz _ j i j (fun _ _ => by simp) (by simp [hj]) hi, List.getElem?_map, List.getElem?_range hi]
  try rfl
theorem flatF_inv (f : Nat → Nat → Value) (n sz k : Nat) (v : Value) (h : (flatF f n sz)[k]? = some v) : ∃ j i, k = j * sz + i ∧ j < n ∧ i < sz ∧ v = f j i := by
  have hk : k < n * sz := by rw [← flatF_length f n sz]; exact (List.getElem?_eq_some_iff.1 h).1
  have hsz : 0 < sz := by
    rcases Nat.eq_zero_or_pos sz with e | e
    · rw [e, Nat.mul_zero] at hk; omega
    · exact e
  have h1 : k / sz < n := (Nat.div_lt_iff_lt_mul hsz).2 hk
  have h2 : k % sz < sz := Nat.mod_lt _ hsz
  have h3 : k = k / sz * sz + k % sz := by rw [Nat.mul_comm]; exact (Nat.div_add_mod k sz).symm
  rw [h3, flatF_get f n sz _ _ h1 h2] at h
  exact ⟨_, _, h3, h1, h2, (Option.some.inj h).symm⟩
theorem slice_flat {w : World} {M : Map} {o : Own} {sz : Nat} {es : List (List Cell)} {v : Value} (h : RepV w M (.one (.slice o sz es)) v) (hne : es ≠ []) :
    ∃ b off cap, ∃ f : Nat → Nat → Value, v = .slice (some ⟨b, off, none⟩) es.length cap ∧ es.length ≤ cap ∧ (o = .full → cap = es.length) ∧ (∀ e ∈ es, e.length = sz) ∧ off + es.length * sz ≤ M.prot b ∧
      (∀ (k : Nat) (u : Value), (flatF f es.length sz)[k]? = some u → w.cell? ⟨b, off + k, none⟩ = some u) ∧ (∀ (j i : Nat) (e : List Cell) (c : Cell), es[j]? = some e → e[i]? = some c → RepC w M c (f j i)) ∧
      (∀ u ∈ flatF f es.length sz, u.oneCell' = true) := by
  obtain ⟨ad, cap, rfl, hcap, hf, h1⟩ := rep_slice h
  obtain ⟨b, off, f, rfl, hl, hp, hw, hr⟩ := h1 hne
  have key : ∀ (k : Nat) (u : Value), (flatF f es.length sz)[k]? = some u → ∃ j i e c, k = j * sz + i ∧ es[j]? = some e ∧ e[i]? = some c ∧ u = f j i := by
    intro k u hk
    obtain ⟨j, i, rfl, hj, hi, rfl⟩ := flatF_inv _ _ _ _ _ hk
    have he := List.getElem?_eq_getElem hj
    have hel := hl _ (List.getElem_mem hj)
    exact ⟨j, i, es[j], (es[j])[i]'(by omega), rfl, he, List.getElem?_eq_getElem (by omega), rfl⟩
  refine ⟨b, off, cap, f, rfl, hcap, hf, hl, hp, fun k u hk => ?_, hr, fun u hu => ?_⟩
  · obtain ⟨j, i, e, c, rfl, he, hc, rfl⟩ := key k u hk
    exact hw j i e c he hc
  · obtain ⟨k, hk⟩ := List.mem_iff_getElem?.1 hu
    obtain ⟨j, i, e, c, rfl, he, hc, rfl⟩ := key k u hk
    have hx := hr j i e c he hc
    generalize f j i = x at hx
    cases hx <;> rfl
theorem rep_append {w : World} {M : Map} {sz : Nat} {es ys : List (List Cell)} {b cap : Nat} {f1 f2 : Nat → Nat → Value} {k : Nat} (h1 : ∀ e ∈ es, e.length = sz) (h2 : ∀ e ∈ ys, e.length = sz)
    (hp : (es.length + ys.length) * sz ≤ M.prot b) (hc : es.length + ys.length ≤ cap)
    (hw1 : ∀ (j i : Nat) (e : List Cell) (c : Cell), es[j]? = some e → e[i]? = some c → w.cell? ⟨b, j * sz + i, none⟩ = some (f1 j i))
    (hr1 : ∀ (j i : Nat) (e : List Cell) (c : Cell), es[j]? = some e → e[i]? = some c → RepC w M c (f1 j i))
    (hw2 : ∀ (j i : Nat) (e : List Cell) (c : Cell), ys[j]? = some e → e[i]? = some c → w.cell? ⟨b, es.length * sz + (j * sz + i), none⟩ = some (f2 j i))
    (hr2 : ∀ (j i : Nat) (e : List Cell) (c : Cell), ys[j]? = some e → e[i]? = some c → RepC w M c (f2 j i)) :
    RepC w M (.slice (.tip k) sz (es ++ ys.map fun e => e.map erC)) (.slice (some ⟨b, 0, none⟩) (es.length + ys.length) cap) := by
  have hlen : (es ++ ys.map fun e => e.map erC).length = es.length + ys.length := by simp
  have hcase : ∀ (j i : Nat) (e : List Cell) (c : Cell), (es ++ ys.map fun e => e.map erC)[j]? = some e → e[i]? = some c → (es[j]? = some e ∧ j < es.length) ∨ (es.length ≤ j ∧ ∃ e' c', ys[j - es.length]? = some e' ∧ e'[i]? = some c' ∧ c = erC c') := by
    intro j i e c hj hi
    by_cases hlt : j < es.length
    · rw [List.getElem?_append_left hlt] at hj
      exact .inl ⟨hj, hlt⟩
    · rw [List.getElem?_append_right (by omega), List.getElem?_map] at hj
      obtain ⟨e', he', rfl⟩ := Option.map_eq_some_iff.1 hj
      rw [List.getElem?_map] at hi
      obtain ⟨c', hc', rfl⟩ := Option.map_eq_some_iff.1 hi
      exact .inr ⟨by omega, e', c', he', hc', rfl⟩
  have := RepC.slice (w := w) (M := M) (.tip k) sz (es ++ ys.map fun e => e.map erC) b 0 cap (fun j i => if j < es.length then f1 j i else f2 (j - es.length) i)
    (fun e he => by
      rcases List.mem_append.1 he with he | he
      · exact h1 e he
      · obtain ⟨e', he', rfl⟩ := List.mem_map.1 he
        rw [List.length_map]
        exact h2 e' he') (by rw [hlen]; omega) (fun e => by cases e) (by rw [hlen]; exact hc)
    (fun j i e c hj hi => by
      rcases hcase j i e c hj hi with ⟨hj', hlt⟩ | ⟨hge, e', c', he', hc', rfl⟩
      · rw [if_pos hlt, Nat.zero_add]
        exact hw1 j i e c hj' hi
      · rw [if_neg (by omega), Nat.zero_add]
        have := hw2 (j - es.length) i e' c' he' hc'
        rw [show es.length * sz + ((j - es.length) * sz + i) = j * sz + i by
          rw [← Nat.add_assoc, ← Nat.add_mul]; congr 2; omega] at this
        exact this)
    (fun j i e c hj hi => by
      rcases hcase j i e c hj hi with ⟨hj', hlt⟩ | ⟨hge, e', c', he', hc', rfl⟩
      · rw [if_pos hlt]
        exact hr1 j i e c hj' hi
      · rw [if_neg (by omega)]
        exact (hr2 _ i e' c' he' hc').er)
  rwa [hlen] at this
theorem upd_live {live : Live} {ow : Own} {k : Nat} (h : (grownLive live ow).on k = true) : k = live.nx ∨ (live.on k = true ∧ ow ≠ .tip k) := by
  simp only [grownLive, upd] at h
  split at h
  · exact .inl (by assumption)
  · right
    cases ow with
    | tip j =>
      simp only [killOwn, upd] at h
      split at h
      · cases h
      · rename_i hne
        exact ⟨h, fun e => by cases e; exact hne rfl⟩
    | no => exact ⟨h, fun e => by cases e⟩
    | full => exact ⟨h, fun e => by cases e⟩
theorem zeroCells_size (z : Array Value) (n : Nat) : (Builtin.zeroCells z n).size = n * z.size := by simp [Builtin.zeroCells]
end
end Go.Proofs.YtnpgbkldpdogjaaGreatDoor.V

namespace Go.Proofs.YtnpgbkldpdogjaaGreatDoor.V
open Go
section
variable {C : Cfg} {N : Nat} {w0 w : World} {M0 M : Map} {σ0 : List Frm} {Φ : Nat → Nat → Bool} {st : St} {a : Act}
theorem tip_on {w w1 : World} {M M1 : Map} {live : Live} {ow : Own} {x : Cell} {v : Value} (hx : TipC w M live x v)
    (hk : ∀ k, live.on k = true → ow ≠ .tip k → M1.own k = M.own k ∧ ∀ g cs e, M.own k = some g → w.heap[g]? = some (.cells cs e (0, 0)) → M1.prot g = M.prot g ∧ w1.heap[g]? = w.heap[g]?) : TipC w1 M1 (grownLive live ow) x v := by
  unfold TipC at *
  split
  · rename_i v k sz es
    obtain ⟨hb, h⟩ := hx
    refine ⟨Nat.lt_succ_of_lt hb, fun hl => ?_⟩
    rcases upd_live hl with e | ⟨h1, h2⟩
    · omega
    · obtain ⟨ad, cap, hv, h3⟩ := h h1
      refine ⟨ad, cap, hv, ?_⟩
      rcases h3 with h3 | ⟨g, cs, e, ha, ho, hp, hh, hc⟩
      · exact .inl h3
      · obtain ⟨e1, e2⟩ := hk k h1 h2
        obtain ⟨e3, e4⟩ := e2 g cs e ho hh
        exact .inr ⟨g, cs, e, ha, by rw [e1]; exact ho, by rw [e3]; exact hp, by rw [e4]; exact hh, hc⟩
  · trivial
theorem sim_live (h : Sim C N w0 M0 σ0 Φ st w M a) (ow : Own) (G : Option Nat) (hG : ∀ g, G = some g → w0.heap.size ≤ g ∧ g < w.heap.size ∧ (∀ d t v, M.box d t v ≠ some g) ∧ (∀ k, st.live.on k = true → M.own k = some g → ow = .tip k)) :
    Sim C N w0 M0 σ0 Φ { st with live := grownLive st.live ow } w { M with own := fun k => if k = st.live.nx then G else M.own k } a := by
  have hne : ∀ k, st.live.on k = true → (if k = st.live.nx then G else M.own k) = M.own k := fun k hk => if_neg (by have := h.live k hk; omega)
  have hm : Mono w M w { M with own := fun k => if k = st.live.nx then G else M.own k } := ⟨fun _ => Nat.le_refl _, fun _ _ _ => rfl, fun _ _ _ _ h => h⟩
  have htip : ∀ {x : Cell} {v : Value}, TipC w M st.live x v → TipC w { M with own := fun k => if k = st.live.nx then G else M.own k } (grownLive st.live ow) x v :=
    fun hx => tip_on hx fun k hk _ => ⟨hne k hk, fun _ _ _ _ _ => ⟨rfl, rfl⟩⟩
  refine ⟨⟨h.keeps.os, h.keeps.tape, h.keeps.output, h.keeps.size, h.keeps.prot, h.keeps.keep⟩, ⟨fun d t v b hb => ?_, h.base.inj, fun g cs hg => (h.base.globs g cs hg).mono hm, h.base.prot⟩, h.boxes0, h.box0, h.newbox, h.tipsO, h.phan, h.size, h.defers, fun t => (h.tmps t).mono hm,
    fun t => TipV.imp (fun _ _ hx => htip hx) (h.tipsT t), fun t v b c e hb hh i x cs hc hx => htip (h.tipsL t v b c e hb hh i x cs hc hx), ?_, ?_, ?_⟩
  · obtain ⟨cs, hf, hp, c, e, hh, hs, hr⟩ := h.base.outer d t v b hb
    exact ⟨cs, hf, hp, c, e, hh, hs, fun i x hx => (hr i x hx).mono hm⟩
  · intro k g hk
    replace hk : (if k = st.live.nx then G else M.own k) = some g := hk
    show _ ∧ _ ∧ k < st.live.nx + 1 ∧ _
    split at hk
    · rename_i e
      obtain ⟨h1, h2, h3, _⟩ := hG g hk
      exact ⟨h1, h2, by omega, h3⟩
    · obtain ⟨h1, h2, h3, h4⟩ := h.own k g hk
      exact ⟨h1, h2, by omega, h4⟩
  · intro k hk
    show k < st.live.nx + 1
    rcases upd_live hk with e | ⟨h1, _⟩
    · omega
    · have := h.live k h1; omega
  · intro k k' g hk hk' ho ho'
    replace ho : (if k = st.live.nx then G else M.own k) = some g := ho
    replace ho' : (if k' = st.live.nx then G else M.own k') = some g := ho'
    rcases upd_live hk with e | ⟨h1, h2⟩ <;> rcases upd_live hk' with e' | ⟨h1', h2'⟩
    · omega
    · rw [if_pos e] at ho
      rw [hne k' h1'] at ho'
      exact absurd ((hG g ho).2.2.2 k' h1' ho') h2'
    · rw [if_pos e'] at ho'
      rw [hne k h1] at ho
      exact absurd ((hG g ho').2.2.2 k h1 ho) h2
    · rw [hne k h1] at ho
      rw [hne k' h1'] at ho'
      exact h.uniq k k' g h1 h1' ho ho'
theorem sim_room (h : Sim C N w0 M0 σ0 Φ st w M a) {k g : Nat} {cur : Array Value} {e : TypeId} {m : Nat} {news : List Value} (hk : st.live.on k = true) (ho : M.own k = some g) (hh : w.heap[g]? = some (.cells cur e (0, 0))) (hp : M.prot g = m) (hl : m + news.length ≤ cur.size) :
    Sim C N w0 M0 σ0 Φ { st with live := grownLive st.live (.tip k) } (w.setRow g (cur.toList.take m ++ news ++ cur.toList.drop (m + news.length)).toArray)
      { M with own := fun j => if j = st.live.nx then some g else M.own j, prot := fun b => if b = g then m + news.length else M.prot b } a ∧
    Mono w M (w.setRow g (cur.toList.take m ++ news ++ cur.toList.drop (m + news.length)).toArray) { M with own := fun j => if j = st.live.nx then some g else M.own j, prot := fun b => if b = g then m + news.length else M.prot b } ∧
    (w.setRow g (cur.toList.take m ++ news ++ cur.toList.drop (m + news.length)).toArray).heap[g]? = some (.cells (cur.toList.take m ++ news ++ cur.toList.drop (m + news.length)).toArray e (0, 0)) := by
  generalize hw1 : w.setRow g (cur.toList.take m ++ news ++ cur.toList.drop (m + news.length)).toArray = w1
  have hother : ∀ b, b ≠ g → w1.heap[b]? = w.heap[b]? := fun b hb => by rw [← hw1]; exact setRow_other w g b _ hb
  have hsame : w1.heap[g]? = some (.cells (cur.toList.take m ++ news ++ cur.toList.drop (m + news.length)).toArray e (0, 0)) := by rw [← hw1]; exact setRow_heap w g cur _ e (0, 0) hh
  have hsize : w1.heap.size = w.heap.size := by rw [← hw1]; exact setRow_size _ _ _
  obtain ⟨hg0, hg1, hg2, hg3⟩ := h.own k g ho
  have hm : Mono w M w1 { M with own := fun j => if j = st.live.nx then some g else M.own j, prot := fun b => if b = g then m + news.length else M.prot b } := by
    refine ⟨fun b => ?_, fun b i hi => ?_, fun _ _ _ _ h => h⟩
    · show M.prot b ≤ if b = g then m + news.length else M.prot b
      split
      · rename_i e; rw [e, hp]; omega
      · exact Nat.le_refl _
    · by_cases hb : b = g
      · subst hb
        rw [hp] at hi
        have hi2 : i < cur.size := by omega
        rw [cell_of_cells hsame (by rw [List.size_toArray]; simp only [List.length_append, List.length_take, List.length_drop, Array.length_toList]; omega), cell_of_cells hh hi2, array_getD_list, List.getD_eq_getElem?_getD,
          splice_get cur.toList news m i (by rw [Array.length_toList]; exact hl), if_neg (by omega), ← List.getD_eq_getElem?_getD, array_getD_toList]
      · exact cell_of_heap (hother b hb)
  have hne : ∀ j, st.live.on j = true → (if j = st.live.nx then some g else M.own j) = M.own j := fun j hj => if_neg (by have := h.live j hj; omega)
  have htip : ∀ {x : Cell} {v : Value}, TipC w M st.live x v → TipC w1 { M with own := fun j => if j = st.live.nx then some g else M.own j, prot := fun b => if b = g then m + news.length else M.prot b } (grownLive st.live (.tip k)) x v := by
    intro x v hx
    refine tip_on hx fun j hj hjk => ⟨hne j hj, fun b cs e' hb hhb => ?_⟩
    have hbg : b ≠ g := by
      rintro rfl
      exact hjk (by rw [h.uniq k j b hk hj ho hb])
    exact ⟨if_neg hbg, hother b hbg⟩
  have hboxg : ∀ d t v b, M.box d t v = some b → b ≠ g := fun d t v b hb e => hg3 d t v (by rw [← e]; exact hb)
  refine ⟨⟨?_, ⟨fun d t v b hb => ?_, h.base.inj, fun x cs hx => (h.base.globs x cs hx).mono hm, fun b hb => ?_⟩, h.boxes0, h.box0, h.newbox, ?_, h.phan, h.size, h.defers, fun t => (h.tmps t).mono hm,
    fun t => TipV.imp (fun _ _ hx => htip hx) (h.tipsT t), fun t v b c e' hb hhb i x cs hc hx => ?_, ?_, ?_, ?_⟩, hm, hsame⟩
  · refine ⟨by rw [← hw1]; exact h.keeps.os, by rw [← hw1]; exact h.keeps.tape, by rw [← hw1]; exact h.keeps.output, by rw [hsize]; exact h.keeps.size, fun b hb => ?_, fun b hb hn => ?_⟩
    · show (if b = g then _ else M.prot b) = _
      rw [if_neg (by omega)]
      exact h.keeps.prot b hb
    · rw [hother b (by omega)]
      exact h.keeps.keep b hb hn
  · obtain ⟨cs, hf, hp', c, e', hh', hs, hr⟩ := h.base.outer d t v b hb
    have hbg := hboxg d t v b hb
    exact ⟨cs, hf, by show (if b = g then _ else M.prot b) = 0; rw [if_neg hbg]; exact hp', c, e', by rw [hother b hbg]; exact hh', hs, fun i x hx => (hr i x hx).mono hm⟩
  · show (if b = g then _ else M.prot b) = 0
    rw [hsize] at hb
    rw [if_neg (by omega)]
    exact h.base.prot b hb
  · intro d t v b hb i x hx
    have hd := (h.box0 d t v b hb).1
    rw [cell_of_heap (hother b (hboxg d t v b (by rw [h.boxes0 d t v hd]; exact hb)))]
    exact h.tipsO d t v b hb i x hx
  · rw [hother b (hboxg _ t v b hb)] at hhb
    exact htip (h.tipsL t v b c e' hb hhb i x cs hc hx)
  · intro j b hj
    replace hj : (if j = st.live.nx then some g else M.own j) = some b := hj
    rw [hsize]
    show _ ∧ _ ∧ j < st.live.nx + 1 ∧ _
    split at hj
    · cases hj
      exact ⟨hg0, hg1, by omega, hg3⟩
    · obtain ⟨h1, h2, h3, h4⟩ := h.own j b hj
      exact ⟨h1, h2, by omega, h4⟩
  · intro j hj
    show j < st.live.nx + 1
    rcases upd_live hj with e | ⟨h1, _⟩
    · omega
    · have := h.live j h1; omega
  · intro j j' b hj hj' h1 h1'
    replace h1 : (if j = st.live.nx then some g else M.own j) = some b := h1
    replace h1' : (if j' = st.live.nx then some g else M.own j') = some b := h1'
    rcases upd_live hj with e | ⟨h2, h3⟩ <;> rcases upd_live hj' with e' | ⟨h2', h3'⟩
    · omega
    · rw [if_pos e] at h1
      cases h1
      rw [hne j' h2'] at h1'
      exact absurd (by rw [h.uniq k j' g hk h2' ho h1']) h3'
    · rw [if_pos e'] at h1'
      cases h1'
      rw [hne j h2] at h1
      exact absurd (by rw [h.uniq k j g hk h2 ho h1]) h3
    · rw [hne j h2] at h1
      rw [hne j' h2'] at h1'
      exact h.uniq j j' b h2 h2' h1 h1'
theorem grow_drew {w : World} {M : Map} (h0 : ∀ b, w.heap.size ≤ b → M.prot b = 0) (cs : Array Value) (e : TypeId) (n : Nat) :
    Grow w M (w.drew.alloc (.cells cs e)) { M with prot := fun b => if b = w.heap.size then n else M.prot b } := by
  have := grow_row (w := w.drew) (M := M) h0 cs e n
  exact ⟨this.os, this.tape, this.output, this.size, this.heap, this.prot, this.prot0, rfl, rfl⟩
theorem sim_append (h : Sim C N w0 M0 σ0 Φ st w M a) (hT : ∀ t d, C.T t = some d → TyFits C.P t d) {o : Oper} {c : Call} (hN : ∀ d, o.dst = some d → d < N) {K : St → Prop} (ho : o.op = .call c) (hb : c.callee = .builtin .append) (hA : AppendV C c o K st) {next : Act → World → Prop} {Q : Exit → Act → World → Prop}
    (hK : ∀ st' w' M' a', K st' → Sim C N w0 M0 σ0 Φ st' w' M' a' → next a' w') : o.wp C.P a w next Q := by
  obtain ⟨s, x, t, u, d, e, de, ow, sz, es, oy, sy, ys, hargs, htys, hd, hk, hu, hde, hpos, hs, hszs, hx, hszy, hok, hbytes, h63, hKst⟩ := hA
  obtain ⟨i1, u1, hi1, hu1, _, _, _, _, _, _, hm1⟩ := hT t d hd
  obtain ⟨i1', u1', hi1', hu1', _, _, _, _, _, _, hm1'⟩ := hT u d hu
  rw [hk] at hm1 hm1'
  simp only at hm1 hm1'
  subst hm1
  subst hm1'
  obtain ⟨i2, u2, hi2, hu2, hs2, hby, hzl, _, hz, _, _⟩ := hT e de hde
  have hsv := (h.eval s).1
  have hst := (h.eval s).2
  rw [hs] at hsv hst
  have hxv := (h.eval x).1
  rw [hx] at hxv
  have h1 : c.args = #[s, x] := by cases hc : c.args; rw [hc] at hargs; simpa using hargs
  have h2 : c.argTypes = #[t, u] := by cases hc : c.argTypes; rw [hc] at htys; simpa using htys
  obtain ⟨ad, cap, evs, hcap, hfull, _⟩ := rep_slice hsv
  have hwp : ∀ {v : Value} {w' : World}, (Builtin.append_ #[t, u] o.type #[a.eval s, a.eval x]).run C.P w = .ok v w' → next (a.put o.dst v) w' → o.wp C.P a w next Q := by
    intro v w' hrun hn
    unfold Oper.wp execOp
    simp only [ho, resolve, hb, invoke, builtin, Sem.run_bind, Sem.run_pure, Result.andThen_ok, h1, h2, List.map_toArray, List.map_cons, List.map_nil, hrun]
    exact hn
  -- what it may be appended to
  have hcase : cap = es.length ∨ ∃ k g cs e', ow = .tip k ∧ st.live.on k = true ∧ ad = some ⟨g, 0, none⟩ ∧ M.own k = some g ∧ M.prot g = es.length * sz ∧ w.heap[g]? = some (.cells cs e' (0, 0)) ∧ cap * sz ≤ cs.size := by
    cases ow with
    | no => exact hok.elim
    | full => exact .inl (hfull rfl)
    | tip k =>
      obtain ⟨_, ht⟩ := hst
      obtain ⟨ad', cap', hv, h3⟩ := ht hok
      rw [evs] at hv
      cases hv
      rcases h3 with h3 | ⟨g, cs, e', ha, hown, hp, hh, hc, _⟩
      · exact .inl h3
      · exact .inr ⟨k, g, cs, e', rfl, hok, ha, hown, hp, hh, hc⟩
  by_cases hy : ys = []
  · -- nothing is appended
    subst hy
    obtain ⟨xb, xc, evx, _⟩ := rep_slice hxv
    rw [List.map_nil, List.append_nil] at hKst
    have hrun := run_append_stay (P := C.P) w t u o.type e i2 hu1 hu1' hi2 ad xb es.length cap xc hcap
    rw [evs, evx] at hwp
    refine hwp hrun ?_
    obtain ⟨G, hG1, hG2⟩ : ∃ G : Option Nat, (∀ g, G = some g → w0.heap.size ≤ g ∧ g < w.heap.size ∧ (∀ d t v, M.box d t v ≠ some g) ∧ (∀ k, st.live.on k = true → M.own k = some g → ow = .tip k)) ∧
        (cap = es.length ∨ (sz = de.size ∧ ∃ g cs e', G = some g ∧ ad = some ⟨g, 0, none⟩ ∧ M.prot g = es.length * sz ∧ w.heap[g]? = some (.cells cs e' (0, 0)) ∧ cap * sz ≤ cs.size)) := by
      rcases hcase with hcase | ⟨k, g, cs, e', rfl, hl, ha, hown, hp, hh, hc⟩
      · exact ⟨none, (fun g hg => by cases hg), .inl hcase⟩
      · obtain ⟨q1, q2, _, q4⟩ := h.own k g hown
        refine ⟨some g, fun g' hg => ?_, .inr ⟨?_, g, cs, e', rfl, ha, hp, hh, hc⟩⟩
        · cases hg
          exact ⟨q1, q2, q4, fun k' hl' ho' => by rw [h.uniq k k' g hl hl' hown ho']⟩
        · rcases hszs with q | ⟨_, q⟩
          · exact q
          · cases q
    have hsim := sim_live h ow G hG1
    refine hK _ _ _ _ hKst (hsim.put o.dst hN ?_ ?_)
    · rw [evs] at hsv
      have hc := hsv.one_inv
      have hm : Mono w M w { M with own := fun k => if k = st.live.nx then G else M.own k } := ⟨fun _ => Nat.le_refl _, fun _ _ _ => rfl, fun _ _ _ _ h => h⟩
      refine .one _ _ ?_
      by_cases hes : es = []
      · subst hes
        exact .nil _ _ _ _ (fun e => by cases e)
      · have hsz : sz = de.size := hszs.resolve_right (fun q => hes q.1)
        subst hsz
        have := rep_take (hc.mono hm) es.length (Nat.le_refl _) (.tip st.live.nx) cap hcap (fun e => by cases e)
        rw [List.take_length] at this
        exact this
    · refine ⟨Nat.lt_succ_self _, fun _ => ⟨ad, cap, rfl, ?_⟩⟩
      rcases hG2 with hcase | ⟨rfl, g, cs, e', rfl, ha, hp, hh, hc⟩
      · exact .inl hcase
      · refine .inr ⟨g, cs, e', ha, ?_, hp, hh, hc, hcap⟩
        show (if st.live.nx = st.live.nx then _ else _) = some g
        rw [if_pos rfl]
  · have hsy : sy = de.size := hszy.resolve_left hy
    subst hsy
    obtain ⟨xb, xoff, xc, fy, evx, hxc, _, hyl, hyp, hyw, hyr, hy1⟩ := slice_flat hxv hy
    have hn : (flatF fy ys.length de.size).length = ys.length * i2.size := by rw [flatF_length, hs2]
    have hyadd : ∀ j v, (flatF fy ys.length de.size)[j]? = some v → w.cell? ((⟨xb, xoff, none⟩ : Addr).add j) = some v := fun j v hj => by rw [addr_add]; exact hyw j v hj
    have hypos : 0 < ys.length := by cases ys with | nil => exact absurd rfl hy | cons _ _ => simp
    rw [evs, evx] at hwp
    by_cases hroom : es.length + ys.length ≤ cap
    · -- into the row's own room
      rcases hcase with hcase | ⟨k, g, cur, e', rfl, hl, rfl, hown, hp, hh, hc⟩
      · omega
      · have hsz : sz = de.size := by
          rcases hszs with q | ⟨_, q⟩
          · exact q
          · cases q
        subst hsz
        have hfit : es.length * de.size + (flatF fy ys.length de.size).length ≤ cur.size := by
          rw [flatF_length, ← Nat.add_mul]
          exact Nat.le_trans (Nat.mul_le_mul_right _ hroom) hc
        have hrun := run_append_room (P := C.P) w t u o.type e i2 hu1 hu1' hi2 g ⟨xb, xoff, none⟩ es.length cap ys.length xc cur e' (flatF fy ys.length de.size) hh hroom hn (by rw [hs2]; exact hfit) hyadd hy1
        rw [hs2] at hrun
        obtain ⟨hsim, hm, hheap⟩ := sim_room h (news := flatF fy ys.length de.size) hl hown hh hp hfit
        refine hwp hrun (hK _ _ _ _ hKst (hsim.put o.dst hN (.one _ _ ?_) ?_))
        · -- the elements of old, and the new ones
          have hcur : (cur.toList.take (es.length * de.size) ++ flatF fy ys.length de.size ++ cur.toList.drop (es.length * de.size + (flatF fy ys.length de.size).length)).length = cur.size := by
            simp only [List.length_append, List.length_take, List.length_drop, Array.length_toList]; omega
          have hold : ∃ f1 : Nat → Nat → Value, (∀ e ∈ es, e.length = de.size) ∧ (∀ (j i : Nat) (e : List Cell) (c : Cell), es[j]? = some e → e[i]? = some c → w.cell? ⟨g, j * de.size + i, none⟩ = some (f1 j i)) ∧
              (∀ (j i : Nat) (e : List Cell) (c : Cell), es[j]? = some e → e[i]? = some c → RepC w M c (f1 j i)) := by
            by_cases hes : es = []
            · subst hes
              exact ⟨fun _ _ => undef, fun e he => by simp at he, fun j i e c hj => by simp at hj, fun j i e c hj => by simp at hj⟩
            · obtain ⟨b', off', cap', f1, ev', _, _, q1, _, q2, q3, _⟩ := slice_flat hsv hes
              rw [evs] at ev'
              cases ev'
              refine ⟨f1, q1, fun j i e c hj hi => ?_, q3⟩
              have := q2 (j * de.size + i) (f1 j i) (flatF_get _ _ _ _ _ (List.getElem?_eq_some_iff.1 hj).1 (by rw [← q1 e (List.mem_of_getElem? hj)]; exact (List.getElem?_eq_some_iff.1 hi).1))
              rwa [Nat.zero_add] at this
          obtain ⟨f1, q1, q2, q3⟩ := hold
          refine rep_append (f1 := f1) (f2 := fy) q1 hyl ?_ hroom (fun j i e c hj hi => ?_) (fun j i e c hj hi => (q3 j i e c hj hi).mono hm) (fun j i e c hj hi => ?_) (fun j i e c hj hi => (hyr j i e c hj hi).mono hm)
          · show _ ≤ (if g = g then _ else _)
            rw [if_pos rfl, flatF_length, Nat.add_mul]
            exact Nat.le_refl _
          · have hlt := elem_lt q1 hj hi
            rw [hm.cell g _ (by rw [hp]; exact hlt)]
            exact q2 j i e c hj hi
          · have hlt := elem_lt hyl hj hi
            rw [cell_of_cells hheap (by rw [List.size_toArray, hcur]; rw [flatF_length] at hfit; omega), array_getD_list, List.getD_eq_getElem?_getD, splice_get cur.toList _ _ _ (by rw [Array.length_toList]; exact hfit),
              if_pos (by rw [flatF_length]; omega), Nat.add_sub_cancel_left, flatF_get _ _ _ _ _ (List.getElem?_eq_some_iff.1 hj).1 (by rw [← hyl e (List.mem_of_getElem? hj)]; exact (List.getElem?_eq_some_iff.1 hi).1)]
            rfl
        · refine ⟨Nat.lt_succ_self _, fun _ => ⟨some ⟨g, 0, none⟩, cap, by simp, .inr ⟨g, _, e', rfl, ?_, ?_, hheap, ?_, ?_⟩⟩⟩
          · show (if st.live.nx = st.live.nx then _ else _) = some g
            rw [if_pos rfl]
          · show (if g = g then _ else _) = _
            rw [if_pos rfl, flatF_length, ← Nat.add_mul]
            simp
          · rw [List.size_toArray]
            simp only [List.length_append, List.length_take, List.length_drop, Array.length_toList]
            omega
          · simp; omega
    · -- a new row
      have hgr : cap < es.length + ys.length := by omega
      have hold : ∃ f1 : Nat → Nat → Value, (∀ e ∈ es, e.length = de.size) ∧ (Builtin.firstCells i2.size es.length (.slice ad es.length cap)).run C.P w.drew = .ok (flatF f1 es.length de.size).toArray w.drew ∧
          (∀ (j i : Nat) (e : List Cell) (c : Cell), es[j]? = some e → e[i]? = some c → RepC w M c (f1 j i)) := by
        by_cases hes : es = []
        · subst hes
          refine ⟨fun _ _ => undef, fun e he => by simp at he, ?_, fun j i e c hj => by simp at hj⟩
          cases ad <;> simp [Builtin.firstCells, loadCells, loadCellsFrom, flatF]
        · have hsz : sz = de.size := hszs.resolve_right (fun q => hes q.1)
          subst hsz
          obtain ⟨b', off', cap', f1, ev', _, _, q1, _, q2, q3, _⟩ := slice_flat hsv hes
          rw [evs] at ev'
          cases ev'
          exact ⟨f1, q1, run_firstCells_some (P := C.P) w.drew i2.size es.length ⟨b', off', none⟩ es.length cap (flatF f1 es.length de.size) (by rw [flatF_length, hs2]) (fun j v hj => by rw [addr_add]; exact q2 j v hj), q3⟩
      obtain ⟨f1, q1, q2, q3⟩ := hold
      have hrun := run_append_new (P := C.P) w t u o.type e i2 _ hu1 hu1' hi2 hz ad ⟨xb, xoff, none⟩ es.length cap ys.length xc (flatF f1 es.length de.size) (flatF fy ys.length de.size) q2 hn hyadd hgr h63 (by rw [hby]; exact hbytes)
      have hge : es.length + ys.length ≤ grownCap w (es.length + ys.length) cap e := grownCap_ge w _ cap e
      generalize hgc : grownCap w (es.length + ys.length) cap e = nc at hrun hge
      generalize hZ : Builtin.zeroCells _ _ = Z at hrun
      have hZs : Z.size = (nc - (es.length + ys.length)) * de.size := by
        rw [← hZ, zeroCells_size]
        congr 1
        have : ∀ c : Cell, (zval c).cells.size = 1 := fun c => by cases c <;> rfl
        by_cases hag : de.isAgg = true
        · rw [if_pos hag]
          show (de.zero.map zval).toArray.size = _
          simpa using hzl
        · rw [if_neg hag, this]
          have : de.isAgg = false := by simpa using hag
          obtain ⟨_, _, _, _, _, _, _, _, _, h1s, _⟩ := hT e de hde
          rw [h1s this]
      have hg := grow_drew (M := M) h.base.prot ((flatF f1 es.length de.size).toArray ++ (flatF fy ys.length de.size).toArray ++ Z) e ((es.length + ys.length) * de.size)
      have hm := hg.mono h.base.prot
      have hsim := sim_live (h.grow hg) ow (some w.heap.size) (fun g hg' => by
        cases hg'
        exact ⟨h.keeps.size, by simp, fun d t v hb => by have := h.base.outer.lt (show M.box d t v = some w.heap.size from hb); omega, fun k _ hk => by have := (h.own k _ (show M.own k = some w.heap.size from hk)).2.1; omega⟩)
      refine hwp hrun (hK _ _ _ _ hKst (hsim.put o.dst hN (.one _ _ ?_) ?_))
      · have hheap : (w.drew.alloc (.cells ((flatF f1 es.length de.size).toArray ++ (flatF fy ys.length de.size).toArray ++ Z) e)).heap[w.heap.size]? = some (.cells ((flatF f1 es.length de.size).toArray ++ (flatF fy ys.length de.size).toArray ++ Z) e (0, 0)) := heap_new w.drew _
        have hcell : ∀ k v, ((flatF f1 es.length de.size) ++ (flatF fy ys.length de.size))[k]? = some v → (w.drew.alloc (.cells ((flatF f1 es.length de.size).toArray ++ (flatF fy ys.length de.size).toArray ++ Z) e)).cell? ⟨w.heap.size, k, none⟩ = some v := by
          intro k v hkv
          have := World.cell?_alloc_new w.drew ((flatF f1 es.length de.size).toArray ++ (flatF fy ys.length de.size).toArray ++ Z) e k
          rw [show w.drew.heap.size = w.heap.size from rfl] at this
          rw [this, ← Array.getElem?_toList]
          simp only [Array.toList_append]
          rw [List.getElem?_append_left (List.getElem?_eq_some_iff.1 hkv).1]
          exact hkv
        have hm2 : Mono w M (w.drew.alloc (.cells ((flatF f1 es.length de.size).toArray ++ (flatF fy ys.length de.size).toArray ++ Z) e)) { ({ M with prot := fun b => if b = w.heap.size then (es.length + ys.length) * de.size else M.prot b } : Map) with own := fun k => if k = st.live.nx then some w.heap.size else M.own k } := ⟨hm.prot, hm.cell, hm.box⟩
        refine rep_append (f1 := f1) (f2 := fy) q1 hyl ?_ hge (fun j i x c hj hi => ?_) (fun j i x c hj hi => (q3 j i x c hj hi).mono hm2) (fun j i x c hj hi => ?_) (fun j i x c hj hi => (hyr j i x c hj hi).mono hm2)
        · show _ ≤ (if w.heap.size = w.heap.size then _ else _)
          rw [if_pos rfl]
          exact Nat.le_refl _
        · refine hcell _ _ ?_
          have hlt := elem_lt q1 hj hi
          rw [List.getElem?_append_left (by rw [flatF_length]; exact hlt)]
          exact flatF_get _ _ _ _ _ (List.getElem?_eq_some_iff.1 hj).1 (by rw [← q1 x (List.mem_of_getElem? hj)]; exact (List.getElem?_eq_some_iff.1 hi).1)
        · refine hcell _ _ ?_
          rw [List.getElem?_append_right (by rw [flatF_length]; omega), flatF_length, Nat.add_sub_cancel_left]
          exact flatF_get _ _ _ _ _ (List.getElem?_eq_some_iff.1 hj).1 (by rw [← hyl x (List.mem_of_getElem? hj)]; exact (List.getElem?_eq_some_iff.1 hi).1)
      · refine ⟨Nat.lt_succ_self _, fun _ => ⟨some ⟨w.heap.size, 0, none⟩, nc, by simp, .inr ⟨w.heap.size, _, e, rfl, ?_, ?_, heap_new w.drew _, ?_, ?_⟩⟩⟩
        · show (if st.live.nx = st.live.nx then _ else _) = _
          rw [if_pos rfl]
        · show (if w.heap.size = w.heap.size then _ else _) = _
          rw [if_pos rfl]
          simp
        · simp only [Array.size_append, List.size_toArray, flatF_length, hZs, ← Nat.add_mul]
          refine Nat.mul_le_mul_right _ ?_
          omega
        · simp
          exact hge
end
end Go.Proofs.YtnpgbkldpdogjaaGreatDoor.V

namespace Go.Proofs.YtnpgbkldpdogjaaGreatDoor.V
open Go
section
variable {C : Cfg} {N : Nat} {w0 w : World} {M0 M : Map} {σ0 : List Frm} {Φ : Nat → Nat → Bool} {st : St} {a : Act}
theorem sim_back (h : Sim C N w0 M0 σ0 Φ st w M a) {w' : World} {M' : Map} {σ1 : List Frm} {l1 : Frm} (hσ : σ1.length = st.σ.length) (hkeep : Keeps w M w' M') (hbase : Base C w' M' (σ1 ++ [l1])) (hbox : M'.box = M.box)
    (htips : ∀ d t v b, M.box d t v = some b → ∀ (i : Nat) (x : Cell), (∃ f cs, (σ1 ++ [l1])[d]? = some f ∧ (f t)[v]? = some cs ∧ cs[i]? = some x) → ((∃ f cs, (st.σ ++ [st.loc])[d]? = some f ∧ (f t)[v]? = some cs ∧ cs[i]? = some x) ∧ w'.cell? ⟨b, i, none⟩ = w.cell? ⟨b, i, none⟩) ∨ (flatC x = true ∧ isTip x = false)) :
    Sim C N w0 M0 σ0 Φ { st with σ := σ1, loc := l1 } w' { M' with own := M.own } a ∧ Mono w' M' w' { M' with own := M.own } := by
  have hm0 : Mono w' M' w' { M' with own := M.own } := ⟨fun _ => Nat.le_refl _, fun _ _ _ => rfl, fun _ _ _ _ h => h⟩
  have hnotbox : ∀ b, 0 < M.prot b → ∀ d t v, M.box d t v ≠ some b := by
    intro b hp d t v hb
    obtain ⟨_, _, h0, _⟩ := h.base.outer d t v b hb
    omega
  have hm : Mono w M w' { M' with own := M.own } := by
    refine ⟨fun b => ?_, fun b i hi => ?_, fun d t v b hb => by show M'.box d t v = some b; rw [hbox]; exact hb⟩
    · by_cases hb : b < w.heap.size
      · show M.prot b ≤ M'.prot b
        rw [hkeep.prot b hb]
        exact Nat.le_refl _
      · rw [h.base.prot b (by omega)]
        exact Nat.zero_le _
    · have hb : b < w.heap.size := by
        rcases Nat.lt_or_ge b w.heap.size with h' | h'
        · exact h'
        · rw [h.base.prot b h'] at hi; omega
      exact cell_of_heap (hkeep.keep b hb (hnotbox b (by omega)))
  have htip : ∀ {x : Cell} {v : Value}, TipC w M st.live x v → TipC w' { M' with own := M.own } st.live x v := by
    intro x v hx
    unfold TipC at *
    split
    · obtain ⟨hbd, hx⟩ := hx
      refine ⟨hbd, fun hlv => ?_⟩
      obtain ⟨ad, cap, hv, h1⟩ := hx hlv
      refine ⟨ad, cap, hv, ?_⟩
      rcases h1 with h1 | ⟨g, cs', e', ha, ho, hpg, hhg, hcap⟩
      · exact .inl h1
      · obtain ⟨_, hg, _, hgb⟩ := h.own _ _ ho
        exact .inr ⟨g, cs', e', ha, ho, by show M'.prot g = _; rw [hkeep.prot g hg]; exact hpg, by rw [hkeep.keep g hg hgb]; exact hhg, hcap⟩
    · trivial
  have hold : ∀ b, b < w0.heap.size → (∀ d t v, M0.box d t v ≠ some b) → ∀ d t v, M.box d t v ≠ some b := by
    intro b hb hn d t v hbx
    rcases Nat.lt_trichotomy d st.σ.length with hd | hd | hd
    · rw [h.boxes0 d t v hd] at hbx
      exact hn d t v hbx
    · subst hd
      have := h.newbox t v b hbx
      omega
    · obtain ⟨_, ⟨f, hf, _⟩, _⟩ := h.base.outer d t v b hbx
      have := (List.getElem?_eq_some_iff.1 hf).1
      rw [List.length_append, List.length_singleton] at this
      omega
  have hget0 : ∀ d, d < st.σ.length → (st.σ ++ [st.loc])[d]? = st.σ[d]? := fun d hd => List.getElem?_append_left hd
  have hget1 : ∀ d, d < st.σ.length → (σ1 ++ [l1])[d]? = σ1[d]? := fun d hd => List.getElem?_append_left (by omega)
  refine ⟨⟨?_, ⟨fun d t v b hb => ?_, ?_, fun g cs hg => (hbase.globs g cs hg).mono hm0, hbase.prot⟩, ?_, ?_, ?_, ?_, fun t v hp => by show M'.box σ1.length t v = none; rw [hbox, hσ]; exact h.phan t v hp, h.size, h.defers, fun t => (h.tmps t).mono hm, fun t => TipV.imp (fun _ _ hx => htip hx) (h.tipsT t), ?_, ?_, h.live, h.uniq⟩, hm0⟩
  · refine ⟨hkeep.os.trans h.keeps.os, hkeep.tape.trans h.keeps.tape, hkeep.output.trans h.keeps.output, Nat.le_trans h.keeps.size hkeep.size, fun b hb => ?_, fun b hb hn => ?_⟩
    · exact (hkeep.prot b (Nat.lt_of_lt_of_le hb h.keeps.size)).trans (h.keeps.prot b hb)
    · exact (hkeep.keep b (Nat.lt_of_lt_of_le hb h.keeps.size) (hold b hb hn)).trans (h.keeps.keep b hb hn)
  · obtain ⟨cs, hf, hp, c, e, hh, hs, hr⟩ := hbase.outer d t v b hb
    exact ⟨cs, hf, hp, c, e, hh, hs, fun i x hx => (hr i x hx).mono hm0⟩
  · exact hbase.inj
  · intro d t v hd
    replace hd : d < σ1.length := hd
    show M'.box d t v = _
    rw [hbox]
    exact h.boxes0 d t v (by omega)
  · intro d t v b hb
    show d < σ1.length ∧ _
    rw [hσ]
    exact h.box0 d t v b hb
  · intro t v b hb
    replace hb : M'.box σ1.length t v = some b := hb
    rw [hbox, hσ] at hb
    exact h.newbox t v b hb
  · rintro d t v b hb i x ⟨f, cs, h1, h2, h3⟩
    have hd := (h.box0 d t v b hb).1
    rcases htips d t v b (by rw [h.boxes0 d t v hd]; exact hb) i x ⟨f, cs, by rw [hget1 d hd]; exact h1, h2, h3⟩ with ⟨⟨f', cs', q1, q2, q3⟩, q4⟩ | q
    · rw [hget0 d hd] at q1
      rcases h.tipsO d t v b hb i x ⟨f', cs', q1, q2, q3⟩ with ⟨r1, r2⟩ | r
      · exact .inl ⟨r1, q4.trans r2⟩
      · exact .inr r
    · exact .inr q
  · intro t v b c e hb hh i x cs hcs hx
    replace hb : M'.box σ1.length t v = some b := hb
    rw [hbox, hσ] at hb
    cases hti : isTip x with
    | false => exact TipC.of_not hti
    | true =>
      have hl1 : (σ1 ++ [l1])[st.σ.length]? = some l1 := by rw [List.getElem?_append_right (by omega), hσ, Nat.sub_self]; try rfl
      obtain ⟨⟨f', cs', q1, q2, q3⟩, q4⟩ := (htips st.σ.length t v b hb i x ⟨l1, cs, hl1, hcs, hx⟩).resolve_right (fun q => by rw [hti] at q; cases q.2)
      rw [List.getElem?_append_right (Nat.le_refl _), Nat.sub_self] at q1
      cases q1
      obtain ⟨cs2, ⟨f2, hf2, hv2⟩, _, c2, e2, hh2, hs2, _⟩ := h.base.outer st.σ.length t v b hb
      rw [List.getElem?_append_right (Nat.le_refl _), Nat.sub_self] at hf2
      cases hf2
      rw [q2] at hv2
      cases hv2
      have hi2 : i < c2.size := by rw [hs2]; exact (List.getElem?_eq_some_iff.1 q3).1
      have hT := h.tipsL t v b c2 e2 hb hh2 i x cs' q2 q3
      rw [cell_of_cells hh2 hi2] at q4
      obtain ⟨cs3, ⟨f3, hf3, hv3⟩, _, c3, e3, hh3, hs3, _⟩ := hbase.outer st.σ.length t v b (by rw [hbox]; exact hb)
      rw [hl1] at hf3
      cases hf3
      rw [hcs] at hv3
      cases hv3
      rw [hh] at hh3
      cases hh3
      rw [cell_of_cells hh (by rw [hs3]; exact (List.getElem?_eq_some_iff.1 hx).1)] at q4
      rw [Option.some.inj q4]
      exact htip hT
  · intro k g hk
    obtain ⟨h1, h2, h3, h4⟩ := h.own k g hk
    exact ⟨h1, Nat.lt_of_lt_of_le h2 hkeep.size, h3, fun d t v => by show M'.box d t v ≠ _; rw [hbox]; exact h4 d t v⟩
theorem sim_call (h : Sim C N w0 M0 σ0 Φ st w M a) {o : Oper} {c : Call} (hN : ∀ d, o.dst = some d → d < N) (hΦ : ∀ d, o.dst = some d → ∀ v, Φ d v = false) {K : St → Prop} (ho : o.op = .call c) (hA : CallV C c o K st) {next : Act → World → Prop} {Q : Exit → Act → World → Prop}
    (hK : ∀ st' w' M' a', K st' → Sim C N w0 M0 σ0 Φ st' w' M' a' → next a' w') : o.wp C.P a w next Q := by
  unfold CallV at hA
  split at hA
  · rename_i f hf
    obtain ⟨fid, caps, r, σ2, σ1, l1, hfv, ⟨⟨fn, hfn, hname, hbody⟩, hrp, hcall⟩, rfl, hσ, hK'⟩ := hA
    have hev := (h.eval f).1
    rw [hfv] at hev
    obtain ⟨vs, ev, hvs, hvr⟩ := rep_func hev
    have hargs := hcall w M (c.args.map a.eval ++ vs) h.base (by simp [hvs, argsT_length]) (fun i p hp => by
      by_cases hi : i < c.args.size
      · rw [List.getElem?_append_left (by simpa [argsT_length] using hi)] at hp
        obtain ⟨x, hx, hpx⟩ := argsT_get _ _ _ _ _ _ hp
        have hxe : c.args[i]? = some x := by simpa using hx
        rw [Array.getD_eq_getD_getElem?, Array.getElem?_append_left (by simpa using hi), Array.getElem?_map, hxe]
        rcases hpx with rfl | ⟨t, rfl⟩
        · exact (h.eval x).1.er
        · exact (h.evalT t x).1.er
      · rw [List.getElem?_append_right (by simpa [argsT_length] using hi), List.getElem?_map] at hp
        obtain ⟨x, hx, rfl⟩ := Option.map_eq_some_iff.1 hp
        simp only [argsT_length, Array.length_toList] at hx
        have := hvr _ x hx
        rw [Array.getD_eq_getD_getElem?] at this
        rw [Array.getD_eq_getD_getElem?, Array.getElem?_append_right (by simpa using hi), Array.size_map]
        exact .one _ _ this.er)
    have hrun : (execOp a.eval o).run C.P w = .ok (.enter fid (c.args.map a.eval ++ vs)) w := by
      have hname' : ¬ fn.name = "runtime.NumGoroutine" := by simpa using hname
      have hbody' : ¬ fn.body = none := fun e => by rw [e] at hbody; cases hbody
      simp [execOp, ho, resolve, hf, ev, Deferred.ofValue, invoke, callFunc, hfn, hname', hbody']
    unfold Oper.wp
    rw [hrun, Oper.upon_enter]
    refine hargs.mono fun e w' he => ?_
    obtain ⟨M', v, rfl, hkeep, hbase, htips, hret⟩ := he
    show next (a.put o.dst v) w'
    cases r with
    | val p =>
      obtain ⟨hbox, hrep⟩ := hret
      obtain ⟨hsim, hm0⟩ := sim_back h hσ hkeep hbase hbox htips
      refine hK _ _ _ _ hK' (hsim.put o.dst hN (hrep.mono hm0) ?_)
      rw [← hrp p rfl]
      exact TipV.er
    | new cs =>
      obtain ⟨hbox, b, cc, e, rfl, hb, hh, hs, hp, hr⟩ := hret
      obtain ⟨hsim, hm0⟩ := sim_back h hσ hkeep hbase hbox htips
      obtain ⟨d, hd, hK'⟩ := hK'
      have h2 := hsim.addBox d cs b cc e (Nat.le_trans h.keeps.size hb) hh hp (fun d t v hbx => by
        replace hbx : M'.box d t v = some b := hbx
        rw [hbox] at hbx
        have := h.base.outer.lt hbx
        omega) (fun k hk => by have := (h.own k b hk).2.1; omega) hs (fun i x hx => (hr i x hx).2.mono hm0) (fun i x hx => TipC.of_not (hr i x hx).1) (hΦ d hd _)
      have h3 := h2.put o.dst hN (r := .one (.box st.σ.length d (l1 d).length 0)) (v := .pointer (some ⟨b, 0, none⟩)) (.one _ _ (.box _ _ _ _ _ (by
        show (if _ then _ else _) = _
        rw [if_pos ⟨hσ.symm, rfl, rfl⟩]))) trivial
      exact hK _ _ _ _ hK' h3
  · exact hA.elim
theorem upon_gives {o : Oper} {r : PV} (h : Sim C N w0 M0 σ0 Φ st w M a) (hN : ∀ d, o.dst = some d → d < N) (hg : Gives C a st.live w M o r) {next : Act → World → Prop} {Q : Exit → Act → World → Prop}
    (hK : ∀ w' M' a', Sim C N w0 M0 σ0 Φ (put st o.dst r) w' M' a' → next a' w') : o.wp C.P a w next Q := by
  obtain ⟨v, w1, M1, hrun, hgrow, hr, ht⟩ := hg
  unfold Oper.wp
  rw [hrun, Oper.upon_value]
  exact hK _ _ _ ((h.grow hgrow).put o.dst hN hr ht)
theorem sim_op (h : Sim C N w0 M0 σ0 Φ st w M a) (hT : ∀ t d, C.T t = some d → TyFits C.P t d) {o : Oper} (hN : ∀ d, o.dst = some d → d < N) (hΦ : ∀ d, o.dst = some d → ∀ v, Φ d v = false) {K : St → Prop} (hA : opV C o K st) {next : Act → World → Prop} {Q : Exit → Act → World → Prop}
    (hK : ∀ st' w' M' a', K st' → Sim C N w0 M0 σ0 Φ st' w' M' a' → next a' w') : o.wp C.P a w next Q := by
  have plain : (∃ r, opR C st.env o.type o.op r ∧ K (put st o.dst r)) → o.wp C.P a w next Q := fun ⟨r, hr, hKr⟩ => upon_gives h hN (opR_gives h hT hr) fun w' M' a' hs => hK _ _ _ _ hKr hs
  cases ho : o.op with
  | alloc t =>
    simp only [opV, ho] at hA
    obtain ⟨d, dst, hd, hdst, hKr⟩ := hA
    obtain ⟨i, u, hi, hu, hs, _, hzl, hza, hz, h1, _⟩ := hT t d hd
    have hrun : (execOp a.eval o).run C.P w = .ok (.value (.pointer (some ⟨w.heap.size, 0, none⟩))) (w.alloc (.cells (if d.isAgg then .agg (d.zero.map zval).toArray else zval (d.zero.headD .nilp) : Value).cells t)) := by
      simp [execOp, ho, Instr.alloc, run_zeroValue' hi hz, newVar, newRow]
    have hcells : (if d.isAgg then .agg (d.zero.map zval).toArray else zval (d.zero.headD .nilp) : Value).cells = (d.zero.map zval).toArray := by
      by_cases hag : d.isAgg = true
      · rw [if_pos hag]; try rfl
      · rw [if_neg hag]
        have hz1 := h1 (by simpa using hag)
        match hd0 : d.zero, (show d.zero.length = 1 by omega) with
        | [c], _ => cases c <;> rfl
    rw [hcells] at hrun
    obtain ⟨M1, hsim⟩ := sim_newVar h (hN dst hdst) (hΦ dst hdst) (cs := d.zero) (us := (d.zero.map zval).toArray) t (by simp) (fun i x hx => (zeros_rep hza i x hx).1) (fun i x hx => TipC.of_not (zeros_rep (w := w) (M := M) hza i x hx).2)
    unfold Oper.wp
    rw [hrun, Oper.upon_value, hdst]
    exact hK _ _ _ _ hKr hsim
  | box t x =>
    simp only [opV, ho] at hA
    obtain ⟨d, dst, cs, hd, hdst, hc, hl, hKr⟩ := hA
    obtain ⟨hr, ht⟩ := h.eval x
    obtain ⟨r1, r2, _⟩ := rep_cells hr hc
    have hrun : (execOp a.eval o).run C.P w = .ok (.value (.pointer (some ⟨w.heap.size, 0, none⟩))) (w.alloc (.cells (a.eval x).cells t)) := by
      simp [execOp, ho, Instr.box, newVar, newRow]
    obtain ⟨M1, hsim⟩ := sim_newVar h (hN dst hdst) (hΦ dst hdst) (cs := cs) (us := (a.eval x).cells) t r1 r2 (tip_cells hr ht hc)
    unfold Oper.wp
    rw [hrun, Oper.upon_value, hdst]
    exact hK _ _ _ _ hKr hsim
  | load t x =>
    simp only [opV, ho] at hA
    obtain ⟨r, hr, hKr⟩ := hA
    exact upon_gives h hN (gives_load h hT ho hr) fun w' M' a' hs => hK _ _ _ _ hKr hs
  | store t x y =>
    simp only [opV, ho] at hA
    obtain ⟨d, fd, tt, v, off, cs, ns, hd, hx, hb, hc, hl, hfit, hlow, hKr⟩ := hA
    have hf := hT t d hd
    have hxv := (h.eval x).1
    rw [hx] at hxv
    obtain ⟨b, hbx, evx⟩ := rep_box hxv
    obtain ⟨hr, ht⟩ := h.evalT t y
    obtain ⟨r1, r2, r3⟩ := rep_cells hr hc
    obtain ⟨c, e, hh, hs, hp, hrep⟩ := h.boxCells hbx hb
    have hrun := run_storeVar' (C := C) hf (v := a.eval y) (off := off) hh (by rw [r1]; exact hl) (by rw [r1]; omega) r3
    have hsim := sim_store h hbx hb hh hs (us := (a.eval y).cells.toList) (by rw [Array.length_toList]; exact r1) hfit hlow (fun i x hx => by rw [array_getD_toList]; exact r2 i x hx) (fun i x hx => by rw [array_getD_toList]; exact tip_cells hr ht hc i x hx)
    have hrun2 : (execOp a.eval o).run C.P w = .ok .skip (w.setRow b (c.toList.take off ++ (a.eval y).cells.toList ++ c.toList.drop (off + (a.eval y).cells.toList.length)).toArray) := by
      simp only [execOp, ho, evx, Instr.storeAt, Sem.run_bind, run_sureAddr, Result.andThen_ok, hrun, Sem.run_pure]
    unfold Oper.wp
    rw [hrun2, Oper.upon_skip]
    exact hK _ _ _ _ hKr (hsim.put o.dst hN (.undef _) trivial)
  | call c =>
    simp only [opV, ho] at hA
    cases hc : c.callee with
    | value f =>
      simp only [hc] at hA
      exact sim_call h hN hΦ ho hA hK
    | invoke r m =>
      simp only [hc] at hA
      exact plain (by rw [ho]; exact hA)
    | builtin b =>
      cases b <;> simp only [hc] at hA <;> first
        | exact sim_append h hT hN ho hc hA hK
        | exact plain (by rw [ho]; exact hA)
  | _ =>
    simp only [opV, ho] at hA
    exact plain (by rw [ho]; exact hA)
theorem yielded_gB {ops : Array Oper} {w : World} {M : Map} {tmps : Array Value} {j t : Nat} {oj : Oper} {p : PV} {b : Option Bool} (h1 : ops[j]? = some oj) (h2 : oj.dst = some t) (hv : RepV w M p (tmps.getD t undef)) (h3 : gB p = some b) : yielded ops tmps j = b := by
  unfold gB at h3
  split at h3
  · rename_i b'
    cases h3
    have hb := rep_bool hv
    have ht : tmps[t]? = some (.bool b') := by
      rw [Array.getD_eq_getD_getElem?] at hb
      cases hx : tmps[t]? with
      | none => rw [hx] at hb; simp [undef] at hb
      | some v => rw [hx] at hb; simpa using hb
    simp [yielded, h1, h2, ht]
  · cases h3
    have hu : tmps.getD t undef = undef := by
      generalize tmps.getD t undef = v at hv
      cases hv
      rfl
    have ht : tmps[t]? = none ∨ tmps[t]? = some undef := by
      rw [Array.getD_eq_getD_getElem?] at hu
      cases hx : tmps[t]? with
      | none => exact .inl rfl
      | some v => rw [hx] at hu; right; simpa using hu
    rcases ht with ht | ht <;> simp [yielded, h1, h2, ht, undef]
  · cases h3
theorem sim_ops (hΦ : ∀ t v, Φ t v = false) (hT : ∀ t d, C.T t = some d → TyFits C.P t d) (ops : Array Oper) {K : St → Prop} {Q : Exit → Act → World → Prop} (hK : ∀ st' w' M' a', K st' → Sim C N w0 M0 σ0 Φ st' w' M' a' → Q .normal a' w') :
    ∀ (l : List Oper) (idx : List Nat) (st : St) (w : World) (M : Map) (a : Act), idx.map (fun i => ops[i]?) = l.map some → (∀ o ∈ l, ∀ d, o.dst = some d → d < N) → Sim C N w0 M0 σ0 Φ st w M a → opsV C ops K l st → wpOps C.P ops Q idx a w := by
  intro l
  induction l with
  | nil =>
    intro idx st w M a hi _ hs hV
    obtain rfl : idx = [] := by simpa using hi
    exact hK _ _ _ _ hV hs
  | cons o l ih =>
    intro idx st w M a hi hN hs hV
    cases idx with
    | nil => simp at hi
    | cons i idx =>
      simp only [List.map_cons, List.cons.injEq] at hi
      obtain ⟨ho, hi⟩ := hi
      have run : opV C o (opsV C ops K l) st → o.wp C.P a w (wpOps C.P ops Q idx) Q := fun hv => sim_op hs hT (hN o (by simp)) (fun d _ v => hΦ d v) hv fun st' w' M' a' hk hs' => ih idx st' w' M' a' hi (fun o ho => hN o (by simp [ho])) hs' hk
      have skip : opsV C ops K l (put st o.dst .gone) → wpOps C.P ops Q idx (a.put o.dst undef) w := fun hv => ih idx _ w M _ hi (fun o ho => hN o (by simp [ho])) (hs.put o.dst (hN o (by simp)) .gone trivial) hv
      simp only [wpOps, ho]
      simp only [opsV, guardV] at hV
      cases hg : o.guard with
      | none =>
        rw [hg] at hV
        simp only [Region.wanted, hg, if_true]
        exact .inl (run hV)
      | some g =>
        obtain ⟨j, want⟩ := g
        rw [hg] at hV
        simp only at hV
        obtain ⟨oj, t, b, h1, h2, h3, h4⟩ := hV
        have hy : yielded ops a.tmps j = b := yielded_gB h1 h2 (hs.tmps t) h3
        simp only [Region.wanted, hg, hy]
        by_cases hbw : b = some want
        · subst hbw
          rw [if_pos rfl] at h4
          simp only [beq_self_eq_true, if_true]
          exact .inl (run h4)
        · rw [if_neg hbw] at h4
          have : (b == some want) = false := by simpa using hbw
          simp only [this, Bool.false_eq_true, if_false]
          exact skip h4
end
end Go.Proofs.YtnpgbkldpdogjaaGreatDoor.V

namespace Go.Proofs.YtnpgbkldpdogjaaGreatDoor.V
open Go
abbrev DrawV := Array Oper → (St → Prop) → St → Prop
def opsDst (N : Nat) (ops : List Oper) : Bool := ops.all fun o => match o.dst with
  | some d => Nat.blt d N
  | none => true
def codeOk (N : Nat) : Code → Bool
  | .region _ ops _ => opsDst N ops.toList
  | .seq a b => codeOk N a && codeOk N b
  | .cond _ a b => codeOk N a && codeOk N b
  | .block _ c => codeOk N c
  | .loop c => codeOk N c
  | _ => true
def toExit : Ex → Exit
  | .normal => .normal
  | .exit id => .exit id
  | .ret => .ret
def DSound (C : Cfg) (D : DrawV) : Prop :=
  ∀ (N : Nat) (w0 : World) (M0 : Map) (σ0 : List Frm) (Φ : Nat → Nat → Bool) (ops : Array Oper) (K : St → Prop) (st : St) (w : World) (M : Map) (a : Act) (id : Nat) (Q : Exit → Act → World → Prop), (∀ t v, Φ t v = false) → D ops K st → opsDst N ops.toList = true → Sim C N w0 M0 σ0 Φ st w M a →
    (∀ st' w' M' a', K st' → Sim C N w0 M0 σ0 Φ st' w' M' a' → Q .normal a' w') → (Code.region id ops true).wp C.P Q a w
theorem opsDst_mem {N : Nat} {ops : List Oper} (h : opsDst N ops = true) : ∀ o ∈ ops, ∀ d, o.dst = some d → d < N := by
  intro o ho d hd
  have := List.all_eq_true.1 h o ho
  rw [hd] at this
  simpa [Nat.blt_eq] using this
section
variable {C : Cfg} {D : DrawV} {N : Nat} {w0 : World} {M0 : Map} {σ0 : List Frm} {Φ : Nat → Nat → Bool}
def Ends (C : Cfg) (N : Nat) (w0 : World) (M0 : Map) (σ0 : List Frm) (Φ : Nat → Nat → Bool) (Q : Ex → St → Prop) (e : Exit) (a' : Act) (w' : World) : Prop := ∃ ex st' M', e = toExit ex ∧ Q ex st' ∧ Sim C N w0 M0 σ0 Φ st' w' M' a'
theorem range_map (ops : Array Oper) : (List.range ops.size).map (fun i => ops[i]?) = ops.toList.map some := by
  apply List.ext_getElem?
  intro i
  simp only [List.getElem?_map]
  by_cases h : i < ops.size
  · rw [List.getElem?_range h, Array.getElem?_toList, Array.getElem?_eq_getElem h]
    simp [Array.getElem?_eq_getElem h]
  · rw [List.getElem?_eq_none (by simpa using h), List.getElem?_eq_none (by simpa using h)]
    try rfl
def resOne (C : Cfg) (st : St) : ResultVar → PV → Prop
  | .tmp t, p => p = st.env t
  | .cell x t, p => loadR C st t (st.env x) p
def resAll (C : Cfg) (st : St) : List ResultVar → List PV → Prop
  | [], ps => ps = []
  | r :: rs, ps => ∃ p ps', resOne C st r p ∧ resAll C st rs ps' ∧ ps = p :: ps'
def resPV : List PV → PV
  | [p] => p
  | ps => .tup ps
def initEnv (args : List PV) : Nat → PV := fun t => erV (args.getD t .undef)
theorem sim_resOne {st : St} {w : World} {M : Map} {a : Act} (hT : ∀ t d, C.T t = some d → TyFits C.P t d) (hs : Sim C N w0 M0 σ0 Φ st w M a) {r : ResultVar} {p : PV} (h : resOne C st r p) :
    ∃ v, (match r with
      | .tmp t => pure (a.tmps.getD t undef)
      | .cell x t => do loadVar t (← asAddr (a.tmps.getD x undef)) : Sem Value).run C.P w = .ok v w ∧ RepV w M p v := by
  cases r with
  | tmp t =>
    simp only [resOne] at h
    subst h
    exact ⟨_, rfl, hs.tmps t⟩
  | cell x t =>
    simp only [resOne] at h
    obtain ⟨ad, v, ev, h1, r1, _⟩ := load_plain hs hT (x := .tmp x) h
    refine ⟨v, ?_, r1⟩
    have e : a.tmps.getD x undef = .pointer (some ad) := ev
    have hx : (asAddr (.pointer (some ad))).run C.P w = .ok ad w := rfl
    simp only [Sem.run_bind, e, hx, Result.andThen_ok, h1]
theorem sim_results {st : St} {w : World} {M : Map} {a : Act} (hT : ∀ t d, C.T t = some d → TyFits C.P t d) (hs : Sim C N w0 M0 σ0 Φ st w M a) {fn : Func} {ps : List PV} (h : resAll C st fn.results.toList ps) :
    ∃ v, (results fn a.tmps).run C.P w = .ok v w ∧ RepV w M (resPV ps) v := by
  have key : ∀ (l : List ResultVar) (ps : List PV), resAll C st l ps → ∃ vs : List Value, (l.mapM fun
      | .tmp t => pure (a.tmps.getD t undef)
      | .cell x t => do loadVar t (← asAddr (a.tmps.getD x undef)) : Sem (List Value)).run C.P w = .ok vs w ∧ vs.length = ps.length ∧ ∀ (i : Nat) (p : PV), ps[i]? = some p → RepV w M p (vs.getD i undef) := by
    intro l
    induction l with
    | nil => intro ps h; simp only [resAll] at h; subst h; exact ⟨[], rfl, rfl, fun i p hp => by simp at hp⟩
    | cons r l ih =>
      intro ps h
      simp only [resAll] at h
      obtain ⟨p, ps', h1, h2, rfl⟩ := h
      obtain ⟨v, hv, hr⟩ := sim_resOne hT hs h1
      obtain ⟨vs, hvs, hl, hrs⟩ := ih ps' h2
      refine ⟨v :: vs, ?_, by simp [hl], fun i q hq => ?_⟩
      · rw [List.mapM_cons]
        simp only [Sem.run_bind, hv, Result.andThen_ok, hvs, Sem.run_pure]
      · cases i with
        | zero => simp at hq; subst hq; simpa using hr
        | succ i => simpa using hrs i q (by simpa using hq)
  obtain ⟨vs, hvs, hl, hrs⟩ := key _ _ h
  have hrun : (fn.results.mapM fun
      | .tmp t => pure (a.tmps.getD t undef)
      | .cell x t => do loadVar t (← asAddr (a.tmps.getD x undef)) : Sem (Array Value)).run C.P w = .ok vs.toArray w := by
    rw [← Array.toArray_toList (xs := fn.results), List.mapM_toArray]
    simp only [Sem.run_map]
    rw [hvs]
    try rfl
  refine ⟨if h : vs.toArray.size = 1 then vs.toArray[0] else .tuple vs.toArray, ?_, ?_⟩
  · unfold results
    rw [Sem.run_bind]
    exact (congrArg (fun r => Result.andThen r _) hrun).trans rfl
  · match ps, hl, hrs with
    | [], hl, _ =>
      obtain rfl : vs = [] := List.eq_nil_of_length_eq_zero hl
      exact .tup _ _ rfl fun i p hp => by simp at hp
    | [p], hl, hrs =>
      match vs, hl, hrs with
      | [v], _, hrs => exact (show RepV w M p v from hrs 0 p rfl)
    | p :: q :: ps, hl, hrs =>
      have hne : ¬ vs.toArray.size = 1 := by simp at hl ⊢; omega
      rw [dif_neg hne]
      exact .tup _ _ (by simpa using hl) fun i p hp => by rw [array_getD_list]; exact hrs i p hp
theorem codeOk_mono {n m : Nat} (h : n ≤ m) : ∀ c : Code, codeOk n c = true → codeOk m c = true := by
  intro c
  induction c with
  | region id ops draw =>
    intro hc
    simp only [codeOk, opsDst, List.all_eq_true] at *
    intro o ho
    have := hc o ho
    split
    · rename_i d hd
      rw [hd] at this
      simp only [Nat.blt_eq] at *
      omega
    · rfl
  | seq a b iha ihb => intro hc; simp only [codeOk, Bool.and_eq_true] at *; exact ⟨iha hc.1, ihb hc.2⟩
  | cond c a b iha ihb => intro hc; simp only [codeOk, Bool.and_eq_true] at *; exact ⟨iha hc.1, ihb hc.2⟩
  | block id c ih => intro hc; simp only [codeOk] at *; exact ih hc
  | loop c ih => intro hc; simp only [codeOk] at *; exact ih hc
  | _ => intro _; rfl
def endOk (st : St) (q : PV) : Ret → Prop
  | .val p => flatV q = true ∧ p = erV q
  | .new cs => ∃ t v, q = .one (.box st.σ.length t v 0) ∧ (st.loc t)[v]? = some cs ∧ flatL cs = true ∧ cs.all (fun x => !isTip x) = true
theorem callsV_of_sim (hT : ∀ t d, C.T t = some d → TyFits C.P t d) {f : FuncId} {fn : Func} {c : Code} {args : List PV} {σ σ' : List Frm} {r : Ret} (hf : C.P.funcs[f]? = some fn) (hb : fn.body = some c)
    (hname : (fn.name == "runtime.NumGoroutine") = false) (hok : codeOk fn.ntmps c = true) (hr : ∀ p, r = .val p → erV p = p)
    (h : ∀ (N : Nat) (w0 : World) (M0 : Map) (σ0 : List Frm) (w : World) (M : Map) (a : Act), codeOk N c = true → Sim C N w0 M0 σ0 (fun _ _ => false) ⟨initEnv args, fun _ => [], σ, ⟨fun _ => false, 0⟩⟩ w M a → c.wp C.P (Ends C N w0 M0 σ0 (fun _ _ => false) (fun ex st => match ex with
      | .exit _ => False
      | _ => ∃ ps, resAll C st fn.results.toList ps ∧ st.σ = σ' ∧ endOk st (resPV ps) r)) a w) : CallsV C f args σ r σ' := by
  refine ⟨⟨fn, hf, hname, by rw [hb]; try rfl⟩, hr, ?_⟩
  intro w M cargs hbase hsize hargs
  refine calls_of_wp hf hb ?_
  have hbox : ∀ {d t v b : Nat}, M.box d t v = some b → d < σ.length ∧ b < w.heap.size := by
    intro d t v b hbx
    obtain ⟨_, ⟨f, hf', _⟩, _, c', e', hh, _⟩ := hbase.outer d t v b hbx
    exact ⟨(List.getElem?_eq_some_iff.1 hf').1, lt_of_heap hh⟩
  have hm1 : Mono w M w { M with own := fun _ => none } := ⟨fun _ => Nat.le_refl _, fun _ _ _ => rfl, fun _ _ _ _ h => h⟩
  have hsim : Sim C (cargs ++ Array.replicate (fn.ntmps - cargs.size) undef).size w M σ (fun _ _ => false) ⟨initEnv args, fun _ => [], σ, ⟨fun _ => false, 0⟩⟩ w { M with own := fun _ => none } { tmps := cargs ++ Array.replicate (fn.ntmps - cargs.size) undef, defers := [] } := by
    have htm : ∀ t, RepV w M (args.getD t .undef) ((cargs ++ Array.replicate (fn.ntmps - cargs.size) undef).getD t undef) := by
      intro t
      by_cases ht : t < args.length
      · have := hargs t args[t] (List.getElem?_eq_getElem ht)
        rw [Array.getD_eq_getD_getElem?] at this
        rw [List.getD_eq_getElem?_getD, List.getElem?_eq_getElem ht, Array.getD_eq_getD_getElem?, Array.getElem?_append_left (by omega)]
        exact this
      · rw [List.getD_eq_getElem?_getD, List.getElem?_eq_none (by omega)]
        exact .undef _
    refine ⟨⟨rfl, rfl, rfl, Nat.le_refl _, fun _ _ => rfl, fun _ _ _ => rfl⟩, ⟨fun d t v b hbx => ?_, hbase.inj, fun g cs hg => (hbase.globs g cs hg).mono hm1, hbase.prot⟩, fun _ _ _ _ => rfl, fun d t v b hbx => hbox hbx, fun t v b hbx => ?_, fun d t v b hbx i x hx => .inl ⟨hx, rfl⟩,
      (fun _ _ hp => by cases hp), rfl, rfl, fun t => (htm t).er.mono hm1, fun t => TipV.er, fun t v b c' e' hbx => ?_, (fun k g hk => by cases hk), (fun k hk => by cases hk), (fun k k' g hk => by cases hk)⟩
    · obtain ⟨cs, ⟨f, hf1, hf2⟩, hp, c', e', hh, hs, hr'⟩ := hbase.outer d t v b hbx
      exact ⟨cs, ⟨f, by rw [List.getElem?_append_left (hbox hbx).1]; exact hf1, hf2⟩, hp, c', e', hh, hs, fun i x hx => (hr' i x hx).mono hm1⟩
    · have := (hbox (show M.box σ.length t v = some b from hbx)).1
      omega
    · have := (hbox (show M.box σ.length t v = some b from hbx)).1
      omega
  have hok' : codeOk (cargs ++ Array.replicate (fn.ntmps - cargs.size) undef).size c = true := codeOk_mono (by simp; omega) c hok
  refine wp_mono (h _ _ _ _ _ _ _ hok' hsim) ?_
  rintro e a' w' ⟨ex, st', M', rfl, hq, hs⟩
  have hend : (∃ ps, resAll C st' fn.results.toList ps ∧ st'.σ = σ' ∧ endOk st' (resPV ps) r) →
      a'.defers = [] ∧ ∃ v, (results fn a'.tmps).run C.P w' = .ok v w' ∧ ∃ M'' v', Ending.returned v = .returned v' ∧ Keeps w M w' M'' ∧ Base C w' M'' σ' ∧
      (∀ d t v b, M.box d t v = some b → ∀ (i : Nat) (x : Cell), (∃ f cs, σ'[d]? = some f ∧ (f t)[v]? = some cs ∧ cs[i]? = some x) → ((∃ f cs, σ[d]? = some f ∧ (f t)[v]? = some cs ∧ cs[i]? = some x) ∧ w'.cell? ⟨b, i, none⟩ = w.cell? ⟨b, i, none⟩) ∨ (flatC x = true ∧ isTip x = false)) ∧
      RetRep w M w' M'' r v' := by
    rintro ⟨ps, hps, rfl, hret⟩
    obtain ⟨v, hv, hrep⟩ := sim_results hT hs hps
    refine ⟨hs.defers, v, hv, ⟨M'.prot, M.box, M.own⟩, v, rfl, ⟨hs.keeps.os, hs.keeps.tape, hs.keeps.output, hs.keeps.size, hs.keeps.prot, hs.keeps.keep⟩, ?_, fun d t v b hbx i x hx => hs.tipsO d t v b hbx i x hx, ?_⟩
    · have hmono : Mono w M w' ⟨M'.prot, M.box, M.own⟩ := by
        refine ⟨fun b => ?_, fun b i hi => ?_, fun _ _ _ _ h => h⟩
        · by_cases hlt : b < w.heap.size
          · show M.prot b ≤ M'.prot b
            rw [hs.keeps.prot b hlt]
            exact Nat.le_refl _
          · rw [hbase.prot b (by omega)]
            exact Nat.zero_le _
        · have hlt : b < w.heap.size := by
            rcases Nat.lt_or_ge b w.heap.size with h' | h'
            · exact h'
            · rw [hbase.prot b h'] at hi; omega
          refine cell_of_heap (hs.keeps.keep b hlt fun d t v hbx => ?_)
          obtain ⟨_, _, h0, _⟩ := hbase.outer d t v b hbx
          omega
      refine ⟨fun d t v b hbx => ?_, hbase.inj, fun g cs hg => (hbase.globs g cs hg).mono hmono, hs.base.prot⟩
      replace hbx : M.box d t v = some b := hbx
      have hd := hbox hbx
      have hlt : d < st'.σ.length := (hs.box0 d t v b hbx).1
      obtain ⟨cs, ⟨f, hf1, hf2⟩, hp, c', e', hh, hsz, hr'⟩ := hs.base.outer d t v b (by rw [hs.boxes0 d t v hlt]; exact hbx)
      rw [List.getElem?_append_left hlt] at hf1
      refine ⟨cs, ⟨f, hf1, hf2⟩, hp, c', e', hh, hsz, fun i x hx => ?_⟩
      rcases hs.tipsO d t v b hbx i x ⟨f, cs, hf1, hf2, hx⟩ with ⟨⟨f0, cs0, g1, g2, g3⟩, hcell⟩ | ⟨hfl, _⟩
      · obtain ⟨cs1, ⟨f1, k1, k2⟩, _, c1, e1, hh1, hs1, hr1⟩ := hbase.outer d t v b hbx
        rw [g1] at k1
        cases k1
        rw [g2] at k2
        cases k2
        rw [cell_of_cells hh (by rw [hsz]; exact (List.getElem?_eq_some_iff.1 hx).1), cell_of_cells hh1 (by rw [hs1]; exact (List.getElem?_eq_some_iff.1 g3).1)] at hcell
        rw [Option.some.inj hcell]
        exact (hr1 i x g3).mono hmono
      · exact (hr' i x hx).flat _ _ hfl
    · cases r with
      | val p =>
        obtain ⟨hfl, rfl⟩ := hret
        exact ⟨rfl, (hrep.flat _ _ hfl).er⟩
      | new cs =>
        obtain ⟨t, vv, hbx, hcs, hfl, htip⟩ := hret
        rw [hbx] at hrep
        obtain ⟨b, hb', rfl⟩ := rep_box hrep
        obtain ⟨c', e', hh, hsz, hp, hr'⟩ := hs.boxCells hb' (cs := cs) (by simpa [readBox] using hcs)
        refine ⟨rfl, b, c', e', rfl, hs.newbox t vv b hb', hh, hsz, hp, fun i x hx => ⟨?_, (hr' i x hx).flat _ _ (flatL_mem hfl x (List.mem_of_getElem? hx))⟩⟩
        have := List.all_eq_true.1 htip x (List.mem_of_getElem? hx)
        simpa using this
  cases ex with
  | normal => exact hend hq
  | ret => exact hend hq
  | exit id => exact hq.elim
end
end Go.Proofs.YtnpgbkldpdogjaaGreatDoor.V

namespace Go.Proofs.YtnpgbkldpdogjaaGreatDoor.V
open Go
def isEff (o : Oper) : Bool := match o.op with
  | .store _ _ _ => true
  | .box _ _ => true
  | .call c => match c.callee with
    | .value _ => true
    | .builtin .append => true
    | _ => false
  | _ => false
def isRead (o : Oper) : Bool := match o.op with
  | .load _ _ => true
  | .alloc _ => true
  | _ => false
def isAlloc (o : Oper) : Bool := match o.op with
  | .alloc _ => true
  | _ => false
def stepD (C : Cfg) (W : Nat → Nat → Nat → Bool) (vs : Nat → Nat) (fr : Bool) (o : Oper) (K : St → Prop) (st : St) : Prop :=
  match o.op with
  | .alloc t => ∃ d dst, C.T t = some d ∧ o.dst = some dst ∧ readBox st st.σ.length dst (vs dst) = some d.zero ∧ (fr = true → W st.σ.length dst (vs dst) = false) ∧ K (put st o.dst (.one (.box st.σ.length dst (vs dst) 0)))
  | .load _ x => (fr = true → match oper C st.env x with
      | .one (.box d t v _) => W d t v = false
      | _ => True) ∧ opV C o K st
  | _ => opV C o (fun st' => ((isEff o && fr) = true → st'.σ.length = st.σ.length ∧ ∀ d t v, W d t v = false → readBox st' d t v = readBox st d t v) ∧ K st') st
def opsDV (C : Cfg) (W : Nat → Nat → Nat → Bool) (vs : Nat → Nat) (ops : Array Oper) (K : St → Prop) : List Bool → List Oper → St → Prop
  | _, [], st => K st
  | fr :: fs, o :: rest, st => guardV ops o st (stepD C W vs fr o (opsDV C W vs ops K fs rest) st) (opsDV C W vs ops K fs rest (put st o.dst .gone))
  | [], _ :: _, _ => False
def reserve (C : Cfg) : List Oper → Frm → Frm
  | [], l => l
  | o :: rest, l => match o.op, o.dst with
    | .alloc t, some d => match C.T t with
      | some td => reserve C rest (upd l d (l d ++ [td.zero]))
      | none => reserve C rest l
    | _, _ => reserve C rest l
def bef (B : List Nat) (i j : Nat) : Bool := (B.getD i 0).testBit j
def rowOk (B : List Nat) (i : Nat) (n : Nat) (o : Oper) : Bool :=
  (o.after.toList.all fun e => !Region.binds .any e || Nat.blt e.on i) &&
  (List.range n).all fun j => !bef B i j || o.after.toList.any fun e => Region.binds .any e && (e.on == j || bef B e.on j)
def dstNe (x y : Oper) : Bool := match x.dst with
  | some d => y.dst != some d
  | none => true
def meetOk (ops : Array Oper) (fi fj : Bool) (oi oj : Oper) : Bool :=
  oj.apart ops oi && !(isEff oi && isEff oj) && (!(isRead oi && isEff oj) || fi && fj) && (!(isRead oj && isEff oi) || fi && fj)
def drawOk (ops : Array Oper) (B : List Nat) (fl : List Bool) : Bool :=
  fl.length == ops.size &&
  (List.range ops.size).all fun i => match ops[i]? with
    | none => true
    | some oi => rowOk B i ops.size oi && (List.range i).all fun j => match ops[j]? with
      | none => true
      | some oj => dstNe oi oj && (bef B i j || meetOk ops (fl.getD i false) (fl.getD j false) oi oj)
def drawV (C : Cfg) (ops : Array Oper) (K : St → Prop) (st : St) : Prop :=
  ∃ (W : Nat → Nat → Nat → Bool) (B : List Nat) (fl : List Bool), drawOk ops B fl = true ∧
    opsDV C W (fun d => (st.loc d).length) ops K fl ops.toList { st with loc := reserve C ops.toList st.loc }
theorem operT_env {C : Cfg} {env e2 : Nat → PV} {t : TypeId} {x : Operand} (h : oper C e2 x = oper C env x) : operT C e2 t x = operT C env t x := by
  unfold operT
  split
  · rfl
  · exact h
theorem argsT_env {C : Cfg} {env e2 : Nat → PV} : ∀ {xs : List Operand} {ts : List TypeId}, (∀ x ∈ xs, oper C e2 x = oper C env x) → argsT C e2 ts xs = argsT C env ts xs
  | [], _, _ => by simp [argsT]
  | x :: xs, [], h => by simp only [argsT]; rw [h x (by simp), argsT_env fun y hy => h y (by simp [hy])]
  | x :: xs, t :: ts, h => by simp only [argsT]; rw [operT_env (h x (by simp)), argsT_env fun y hy => h y (by simp [hy])]
theorem opR_env {C : Cfg} {env e2 : Nat → PV} {ty : TypeId} {op : Op} {r : PV} (h : ∀ x ∈ op.operands, oper C e2 x = oper C env x) (hr : opR C env ty op r) : opR C e2 ty op r := by
  cases op <;> simp only [Op.operands] at h
  case move x => simp only [opR] at *; rw [operT_env (h x (by simp))]; exact hr
  case assign x => simp only [opR] at *; rw [operT_env (h x (by simp))]; exact hr
  case pick c a b => simp only [opR] at *; rw [h c (by simp), h a (by simp), h b (by simp)]; exact hr
  case binOp op xt x y yt => simp only [opR] at *; rw [h x (by simp), h y (by simp)]; exact hr
  case unOp op xt x =>
    cases op <;> simp only [opR] at * <;> first
      | exact hr.elim
      | (rw [h x (by simp)]; exact hr)
  case extract x i => simp only [opR] at *; rw [h x (by simp)]; exact hr
  case fieldAddr s x f => simp only [opR] at *; rw [h x (by simp)]; exact hr
  case indexAddr t x i => simp only [opR] at *; rw [h x (by simp), h i (by simp)]; exact hr
  case nilCheck x => simp only [opR] at *; rw [h x (by simp)]; exact hr
  case build t ps =>
    simp only [opR] at *
    rw [List.map_congr_left (g := fun p => (p.1, oper C env p.2)) fun p hp => by rw [h p.2 (by simp; exact ⟨p.1, by simpa using hp⟩)]]
    exact hr
  case buildSlice t n ps =>
    simp only [opR] at *
    rw [List.map_congr_left (g := fun p => (p.1, oper C env p.2)) fun p hp => by rw [h p.2 (by simp; exact ⟨p.1, by simpa using hp⟩)]]
    exact hr
  case makeFunc fn first captured =>
    cases fn <;> simp only [opR] at * <;> first
      | exact hr.elim
      | (rw [List.map_congr_left (l := captured.toList) (f := oper C e2) (g := oper C env) fun x hx => h x (by simp; exact .inr (by simpa using hx))]; exact hr)
  case slice t x lo hi mx =>
    simp only [opR] at *
    rw [h x (by simp)]
    have hl : lo.map (oper C e2) = lo.map (oper C env) := by cases lo <;> simp_all
    have hh : hi.map (oper C e2) = hi.map (oper C env) := by cases hi <;> simp_all
    have hm : mx.map (oper C e2) = mx.map (oper C env) := by cases mx <;> simp_all
    rw [hl, hh, hm]
    exact hr
  case call c =>
    simp only [opR] at *
    split at hr
    · obtain ⟨x, d, e, o, sz, es, h1, h2, h3, h4, h5⟩ := hr
      exact ⟨x, d, e, o, sz, es, h1, h2, h3, by rw [h x (by simp [Call.operands, ← Array.mem_toList_iff, h1])]; exact h4, h5⟩
    · obtain ⟨x, y, k, a, b, h1, h2, h3, h4⟩ := hr
      exact ⟨x, y, k, a, b, h1, by rw [h x (by simp [Call.operands, ← Array.mem_toList_iff, h1])]; exact h2, by rw [h y (by simp [Call.operands, ← Array.mem_toList_iff, h1])]; exact h3, h4⟩
    · obtain ⟨x, y, k, a, b, h1, h2, h3, h4⟩ := hr
      exact ⟨x, y, k, a, b, h1, by rw [h x (by simp [Call.operands, ← Array.mem_toList_iff, h1])]; exact h2, by rw [h y (by simp [Call.operands, ← Array.mem_toList_iff, h1])]; exact h3, h4⟩
    · exact hr.elim
  all_goals (simp only [opR] at hr)
def Other (e2 : Nat → PV) (dst : Option Tmp) (s0 : St) : St := { s0 with env := fun t => if dst = some t then s0.env t else e2 t }
theorem Other_put (e2 : Nat → PV) (dst : Option Tmp) (st : St) (r : PV) : Other e2 dst (put st dst r) = put { st with env := e2 } dst r := by
  cases dst with
  | none => simp [Other, put]
  | some d =>
    simp only [Other, put]
    congr 1
    funext t
    unfold upd
    by_cases e : t = d
    · subst e; simp
    · have : ¬ (some d = some t) := fun h => e (Option.some.inj h).symm
      rw [if_neg this, if_neg e]
theorem opV_env {C : Cfg} {o : Oper} {K : St → Prop} {st : St} {e2 : Nat → PV} (h : ∀ x ∈ o.op.operands, oper C e2 x = oper C st.env x) (hV : opV C o K st) :
    opV C o (fun s => ∃ s0, K s0 ∧ s = Other e2 o.dst s0) { st with env := e2 } := by
  have plain : (∃ r, opR C st.env o.type o.op r ∧ K (put st o.dst r)) → ∃ r, opR C e2 o.type o.op r ∧ ∃ s0, K s0 ∧ put { st with env := e2 } o.dst r = Other e2 o.dst s0 := fun ⟨r, h1, h2⟩ =>
    ⟨r, opR_env h h1, _, h2, (Other_put _ _ _ _).symm⟩
  cases ho : o.op with
  | alloc t =>
    simp only [opV, ho] at hV ⊢
    obtain ⟨d, dst, h1, h2, h3⟩ := hV
    refine ⟨d, dst, h1, h2, _, h3, ?_⟩
    have := Other_put e2 o.dst { st with loc := upd st.loc dst (st.loc dst ++ [d.zero]) } (.one (.box st.σ.length dst (st.loc dst).length 0))
    rw [h2] at this ⊢
    exact this.symm
  | box t x =>
    simp only [opV, ho, Op.operands] at hV h ⊢
    obtain ⟨d, dst, cs, h1, h2, h3, h4, h5⟩ := hV
    refine ⟨d, dst, cs, h1, h2, by rw [h x (by simp)]; exact h3, h4, _, h5, ?_⟩
    have := Other_put e2 o.dst { st with loc := upd st.loc dst (st.loc dst ++ [cs]) } (.one (.box st.σ.length dst (st.loc dst).length 0))
    rw [h2] at this ⊢
    exact this.symm
  | load t x =>
    simp only [opV, ho, Op.operands] at hV h ⊢
    obtain ⟨r, h1, h2⟩ := hV
    refine ⟨r, by rw [h x (by simp)]; exact h1, _, h2, (Other_put _ _ _ _).symm⟩
  | store t x y =>
    simp only [opV, ho, Op.operands] at hV h ⊢
    obtain ⟨d, fd, tt, v, off, cs, ns, h1, h2, h3, h4, h5, h6, h7, h8⟩ := hV
    refine ⟨d, fd, tt, v, off, cs, ns, h1, by rw [h x (by simp)]; exact h2, h3, by rw [operT_env (h y (by simp))]; exact h4, h5, h6, h7, _, h8, ?_⟩
    rw [Other_put]
    congr 1
    unfold writeBox
    split <;> rfl
  | call c =>
    simp only [opV, ho] at hV ⊢
    rw [ho] at h
    cases hc : c.callee with
    | value f =>
      simp only [hc, CallV] at hV ⊢
      obtain ⟨fid, caps, r, σ2, σ1, l1, h1, h2, h3, h4, h5⟩ := hV
      have hargs : argsT C e2 c.argTypes.toList c.args.toList = argsT C st.env c.argTypes.toList c.args.toList := argsT_env fun x hx => h x (by simp [Op.operands, Call.operands]; exact .inr (by simpa using hx))
      refine ⟨fid, caps, r, σ2, σ1, l1, by rw [h f (by simp [Op.operands, Call.operands, hc])]; exact h1, by rw [hargs]; exact h2, h3, h4, ?_⟩
      cases r with
      | val v => exact ⟨_, h5, by rw [Other_put]⟩
      | new cs =>
        obtain ⟨d, h6, h7⟩ := h5
        exact ⟨d, h6, _, h7, by rw [Other_put]⟩
    | invoke r m =>
      simp only [hc] at hV ⊢
      rw [ho] at plain
      exact plain hV
    | builtin b =>
      rw [ho] at plain
      cases b <;> simp only [hc] at hV ⊢ <;> first
        | exact plain hV
        | skip
      obtain ⟨s, x, t, u, d, e, de, ow, sz, es, oy, sy, ys, h1, h2, h3, h4, h5, h6, h7, h8, h9, h10, h11, h12, h13, h14, h15⟩ := hV
      refine ⟨s, x, t, u, d, e, de, ow, sz, es, oy, sy, ys, h1, h2, h3, h4, h5, h6, h7, by rw [h s (by simp [Op.operands, Call.operands, ← Array.mem_toList_iff, h1])]; exact h8, h9,
        by rw [h x (by simp [Op.operands, Call.operands, ← Array.mem_toList_iff, h1])]; exact h10, h11, h12, h13, h14, _, h15, by rw [Other_put]⟩
  | _ =>
    simp only [opV, ho] at hV ⊢
    rw [ho] at plain
    exact plain hV
end Go.Proofs.YtnpgbkldpdogjaaGreatDoor.V

namespace Go.Proofs.YtnpgbkldpdogjaaGreatDoor.V
open Go
theorem put_env (st : St) (dst : Option Tmp) (r : PV) (t : Nat) (h : dst ≠ some t) : (put st dst r).env t = st.env t := by
  cases dst with
  | none => rfl
  | some d => exact upd_ne _ _ _ _ fun e => h (by rw [e])
@[simp] theorem put_loc (st : St) (dst : Option Tmp) (r : PV) : (put st dst r).loc = st.loc := by cases dst <;> rfl
@[simp] theorem put_σ (st : St) (dst : Option Tmp) (r : PV) : (put st dst r).σ = st.σ := by cases dst <;> rfl
@[simp] theorem put_live (st : St) (dst : Option Tmp) (r : PV) : (put st dst r).live = st.live := by cases dst <;> rfl
theorem opV_val {C : Cfg} {o : Oper} {K : St → Prop} {st : St} (he : isEff o = false) (hr : isRead o = false) : opV C o K st ↔ ∃ r, opR C st.env o.type o.op r ∧ K (put st o.dst r) := by
  cases ho : o.op <;> simp only [opV, isEff, isRead, ho] at he hr ⊢ <;> first
    | (cases he; done)
    | (cases hr; done)
    | skip
  rename_i c
  cases hc : c.callee <;> simp only [hc] at he ⊢
  · cases he
  · rename_i b
    cases b <;> first
      | (cases he; done)
      | exact Iff.rfl
theorem opV_own {C : Cfg} {o : Oper} {K : St → Prop} {st : St} (h : opV C o K st) : opV C o (fun s => K s ∧ ∀ t, o.dst ≠ some t → s.env t = st.env t) st := by
  have plain : (∃ r, opR C st.env o.type o.op r ∧ K (put st o.dst r)) → ∃ r, opR C st.env o.type o.op r ∧ K (put st o.dst r) ∧ ∀ t, o.dst ≠ some t → (put st o.dst r).env t = st.env t := fun ⟨r, h1, h2⟩ => ⟨r, h1, h2, fun t ht => put_env _ _ _ _ ht⟩
  cases ho : o.op with
  | alloc t =>
    simp only [opV, ho] at h ⊢
    obtain ⟨d, dst, h1, h2, h3⟩ := h
    exact ⟨d, dst, h1, h2, h3, fun t ht => upd_ne _ _ _ _ fun e => ht (by rw [h2, e])⟩
  | box t x =>
    simp only [opV, ho] at h ⊢
    obtain ⟨d, dst, cs, h1, h2, h3, h4, h5⟩ := h
    exact ⟨d, dst, cs, h1, h2, h3, h4, h5, fun t ht => upd_ne _ _ _ _ fun e => ht (by rw [h2, e])⟩
  | load t x =>
    simp only [opV, ho] at h ⊢
    obtain ⟨r, h1, h2⟩ := h
    exact ⟨r, h1, h2, fun t ht => put_env _ _ _ _ ht⟩
  | store t x y =>
    simp only [opV, ho] at h ⊢
    obtain ⟨d, fd, tt, v, off, cs, ns, h1, h2, h3, h4, h5, h6, h7, h8⟩ := h
    refine ⟨d, fd, tt, v, off, cs, ns, h1, h2, h3, h4, h5, h6, h7, h8, fun t ht => ?_⟩
    rw [put_env _ _ _ _ ht]
    unfold writeBox
    split <;> rfl
  | call c =>
    simp only [opV, ho] at h ⊢
    rw [ho] at plain
    cases hc : c.callee with
    | value f =>
      simp only [hc, CallV] at h ⊢
      obtain ⟨fid, caps, r, σ2, σ1, l1, h1, h2, h3, h4, h5⟩ := h
      refine ⟨fid, caps, r, σ2, σ1, l1, h1, h2, h3, h4, ?_⟩
      cases r with
      | val v => exact ⟨h5, fun t ht => put_env _ _ _ _ ht⟩
      | new cs =>
        obtain ⟨d, h6, h7⟩ := h5
        exact ⟨d, h6, h7, fun t ht => put_env _ _ _ _ ht⟩
    | invoke r m =>
      simp only [hc] at h ⊢
      exact plain h
    | builtin b =>
      cases b <;> simp only [hc] at h ⊢ <;> first
        | exact plain h
        | skip
      obtain ⟨s, x, t, u, d, e, de, ow, sz, es, oy, sy, ys, h1, h2, h3, h4, h5, h6, h7, h8, h9, h10, h11, h12, h13, h14, h15⟩ := h
      exact ⟨s, x, t, u, d, e, de, ow, sz, es, oy, sy, ys, h1, h2, h3, h4, h5, h6, h7, h8, h9, h10, h11, h12, h13, h14, h15, fun t ht => put_env _ _ _ _ ht⟩
  | _ =>
    simp only [opV, ho] at h ⊢
    rw [ho] at plain
    exact plain h
theorem opV_some {C : Cfg} {o : Oper} {K : St → Prop} {st : St} (h : opV C o K st) : ∃ s, K s ∧ opV C o (fun s' => s' = s) st := by
  have plain : (∃ r, opR C st.env o.type o.op r ∧ K (put st o.dst r)) → ∃ s, K s ∧ ∃ r, opR C st.env o.type o.op r ∧ put st o.dst r = s := fun ⟨r, h1, h2⟩ => ⟨_, h2, r, h1, rfl⟩
  cases ho : o.op with
  | alloc t =>
    simp only [opV, ho] at h ⊢
    obtain ⟨d, dst, h1, h2, h3⟩ := h
    exact ⟨_, h3, d, dst, h1, h2, rfl⟩
  | box t x =>
    simp only [opV, ho] at h ⊢
    obtain ⟨d, dst, cs, h1, h2, h3, h4, h5⟩ := h
    exact ⟨_, h5, d, dst, cs, h1, h2, h3, h4, rfl⟩
  | load t x =>
    simp only [opV, ho] at h ⊢
    obtain ⟨r, h1, h2⟩ := h
    exact ⟨_, h2, r, h1, rfl⟩
  | store t x y =>
    simp only [opV, ho] at h ⊢
    obtain ⟨d, fd, tt, v, off, cs, ns, h1, h2, h3, h4, h5, h6, h7, h8⟩ := h
    exact ⟨_, h8, d, fd, tt, v, off, cs, ns, h1, h2, h3, h4, h5, h6, h7, rfl⟩
  | call c =>
    simp only [opV, ho] at h ⊢
    rw [ho] at plain
    cases hc : c.callee with
    | value f =>
      simp only [hc, CallV] at h ⊢
      obtain ⟨fid, caps, r, σ2, σ1, l1, h1, h2, h3, h4, h5⟩ := h
      cases r with
      | val v => exact ⟨_, h5, fid, caps, .val v, σ2, σ1, l1, h1, h2, h3, h4, rfl⟩
      | new cs =>
        obtain ⟨d, h6, h7⟩ := h5
        exact ⟨_, h7, fid, caps, .new cs, σ2, σ1, l1, h1, h2, h3, h4, d, h6, rfl⟩
    | invoke r m =>
      simp only [hc] at h ⊢
      exact plain h
    | builtin b =>
      cases b <;> simp only [hc] at h ⊢ <;> first
        | exact plain h
        | skip
      obtain ⟨s, x, t, u, d, e, de, ow, sz, es, oy, sy, ys, h1, h2, h3, h4, h5, h6, h7, h8, h9, h10, h11, h12, h13, h14, h15⟩ := h
      exact ⟨_, h15, s, x, t, u, d, e, de, ow, sz, es, oy, sy, ys, h1, h2, h3, h4, h5, h6, h7, h8, h9, h10, h11, h12, h13, h14, rfl⟩
  | _ =>
    simp only [opV, ho] at h ⊢
    rw [ho] at plain
    exact plain h
theorem opV_mono {C : Cfg} {o : Oper} {K K' : St → Prop} {st : St} (hi : ∀ x, K x → K' x) (h : opV C o K st) : opV C o K' st := by
  have plain : (∃ r, opR C st.env o.type o.op r ∧ K (put st o.dst r)) → ∃ r, opR C st.env o.type o.op r ∧ K' (put st o.dst r) := fun ⟨r, h1, h2⟩ => ⟨r, h1, hi _ h2⟩
  cases ho : o.op with
  | alloc t =>
    simp only [opV, ho] at h ⊢
    obtain ⟨d, dst, h1, h2, h3⟩ := h
    exact ⟨d, dst, h1, h2, hi _ h3⟩
  | box t x =>
    simp only [opV, ho] at h ⊢
    obtain ⟨d, dst, cs, h1, h2, h3, h4, h5⟩ := h
    exact ⟨d, dst, cs, h1, h2, h3, h4, hi _ h5⟩
  | load t x =>
    simp only [opV, ho] at h ⊢
    obtain ⟨r, h1, h2⟩ := h
    exact ⟨r, h1, hi _ h2⟩
  | store t x y =>
    simp only [opV, ho] at h ⊢
    obtain ⟨d, fd, tt, v, off, cs, ns, h1, h2, h3, h4, h5, h6, h7, h8⟩ := h
    exact ⟨d, fd, tt, v, off, cs, ns, h1, h2, h3, h4, h5, h6, h7, hi _ h8⟩
  | call c =>
    simp only [opV, ho] at h ⊢
    rw [ho] at plain
    cases hc : c.callee with
    | value f =>
      simp only [hc, CallV] at h ⊢
      obtain ⟨fid, caps, r, σ2, σ1, l1, h1, h2, h3, h4, h5⟩ := h
      refine ⟨fid, caps, r, σ2, σ1, l1, h1, h2, h3, h4, ?_⟩
      cases r with
      | val v => exact hi _ h5
      | new cs =>
        obtain ⟨d, h6, h7⟩ := h5
        exact ⟨d, h6, hi _ h7⟩
    | invoke r m =>
      simp only [hc] at h ⊢
      exact plain h
    | builtin b =>
      cases b <;> simp only [hc] at h ⊢ <;> first
        | exact plain h
        | skip
      obtain ⟨s, x, t, u, d, e, de, ow, sz, es, oy, sy, ys, h1, h2, h3, h4, h5, h6, h7, h8, h9, h10, h11, h12, h13, h14, h15⟩ := h
      exact ⟨s, x, t, u, d, e, de, ow, sz, es, oy, sy, ys, h1, h2, h3, h4, h5, h6, h7, h8, h9, h10, h11, h12, h13, h14, hi _ h15⟩
  | _ =>
    simp only [opV, ho] at h ⊢
    rw [ho] at plain
    exact plain h
section
variable {C : Cfg} {W : Nat → Nat → Nat → Bool} {vs : Nat → Nat} {fl : List Bool} {ops : Array Oper} {K : St → Prop}
def Off (W : Nat → Nat → Nat → Bool) (s s' : St) : Prop := s'.σ.length = s.σ.length ∧ ∀ d t v, W d t v = false → readBox s' d t v = readBox s d t v
theorem Off.refl (s : St) : Off W s s := ⟨rfl, fun _ _ _ _ => rfl⟩
theorem Off.trans {s s1 s2 : St} (h : Off W s s1) (k : Off W s1 s2) : Off W s s2 := ⟨k.1.trans h.1, fun d t v hw => (k.2 d t v hw).trans (h.2 d t v hw)⟩
theorem Off.symm {s s1 : St} (h : Off W s s1) : Off W s1 s := ⟨h.1.symm, fun d t v hw => (h.2 d t v hw).symm⟩
def SameM (s s' : St) : Prop := s'.loc = s.loc ∧ s'.σ = s.σ ∧ s'.live = s.live
theorem SameM.trans {s s1 s2 : St} (h : SameM s s1) (k : SameM s1 s2) : SameM s s2 := ⟨k.1.trans h.1, k.2.1.trans h.2.1, k.2.2.trans h.2.2⟩
theorem SameM.symm {s s1 : St} (h : SameM s s1) : SameM s1 s := ⟨h.1.symm, h.2.1.symm, h.2.2.symm⟩
theorem SameM.put {s : St} {dst : Option Tmp} {r : PV} : SameM s (put s dst r) := ⟨put_loc _ _ _, put_σ _ _ _, put_live _ _ _⟩
theorem SameM.off {s s' : St} (h : SameM s s') : Off W s s' := ⟨by rw [h.2.1], fun d t v _ => by simp only [readBox, h.1, h.2.1]⟩
theorem SameM.read {s s' : St} (h : SameM s s') (d t v : Nat) : readBox s' d t v = readBox s d t v := by simp only [readBox, h.1, h.2.1]
def Step (C : Cfg) (W : Nat → Nat → Nat → Bool) (vs : Nat → Nat) (ops : Array Oper) (fr : Bool) (o : Oper) (s s' : St) : Prop := guardV ops o s (stepD C W vs fr o (fun x => x = s') s) (s' = put s o.dst .gone)
theorem stepD_some {fr : Bool} {o : Oper} {st : St} (h : stepD C W vs fr o K st) : ∃ s, K s ∧ stepD C W vs fr o (fun x => x = s) st := by
  unfold stepD at h ⊢
  split at h
  · obtain ⟨d, dst, h1, h2, h3, h4, h5⟩ := h
    exact ⟨_, h5, d, dst, h1, h2, h3, h4, rfl⟩
  · obtain ⟨h1, h2⟩ := h
    obtain ⟨s, hs, hv⟩ := opV_some h2
    exact ⟨s, hs, h1, hv⟩
  · obtain ⟨s, hs, hv⟩ := opV_some h
    refine ⟨s, hs.2, ?_⟩
    exact opV_mono (fun x hx => ⟨by rw [hx]; exact hs.1, hx⟩) hv
theorem opsDV_trace : ∀ (l : List Oper) (fs : List Bool) (st : St), opsDV C W vs ops K fs l st → ∃ S : Nat → St, S 0 = st ∧ (∀ i o, l[i]? = some o → Step C W vs ops (fs.getD i false) o (S i) (S (i + 1))) ∧ K (S l.length) := by
  intro l
  induction l with
  | nil => intro fs st h; exact ⟨fun _ => st, rfl, fun i o h => by simp at h, by simpa [opsDV] using h⟩
  | cons o l ih =>
    intro fs st h
    cases fs with
    | nil => simp only [opsDV] at h
    | cons fr fs =>
      simp only [opsDV] at h
      have key : ∃ s, Step C W vs ops fr o st s ∧ opsDV C W vs ops K fs l s := by
        unfold guardV at h
        unfold Step guardV
        split at h
        · obtain ⟨s, hs, hv⟩ := stepD_some h
          exact ⟨s, hv, hs⟩
        · obtain ⟨oj, t, b, h1, h2, h3, h4⟩ := h
          split at h4
          · rename_i hb
            obtain ⟨s, hs, hv⟩ := stepD_some h4
            exact ⟨s, ⟨oj, t, b, h1, h2, h3, by rw [if_pos hb]; exact hv⟩, hs⟩
          · rename_i hb
            exact ⟨_, ⟨oj, t, b, h1, h2, h3, by rw [if_neg hb]⟩, h4⟩
      obtain ⟨s, hs, hr⟩ := key
      obtain ⟨S, h0, h1, h2⟩ := ih fs s hr
      refine ⟨fun i => match i with | 0 => st | i + 1 => S i, rfl, fun i o' hi => ?_, h2⟩
      cases i with
      | zero =>
        simp only [List.getElem?_cons_zero, Option.some.injEq] at hi
        subst hi
        simpa [h0] using hs
      | succ i => exact h1 i o' (by simpa using hi)
theorem Step.own {fr : Bool} {o : Oper} {s s' : St} (h : Step C W vs ops fr o s s') : (∀ t, o.dst ≠ some t → s'.env t = s.env t) ∧ (isEff o = false → SameM s s') ∧ (fr = true → Off W s s') := by
  have hp : s' = put s o.dst .gone → (∀ t, o.dst ≠ some t → s'.env t = s.env t) ∧ (isEff o = false → SameM s s') ∧ (fr = true → Off W s s') := by
    rintro rfl
    exact ⟨fun t ht => put_env _ _ _ _ ht, fun _ => SameM.put, fun _ => SameM.put.off⟩
  have hs : stepD C W vs fr o (fun x => x = s') s → (∀ t, o.dst ≠ some t → s'.env t = s.env t) ∧ (isEff o = false → SameM s s') ∧ (fr = true → Off W s s') := by
    intro h
    cases ho : o.op with
    | alloc t =>
      simp only [stepD, ho] at h
      obtain ⟨d, dst, h1, h2, h3, h4, h5⟩ := h
      rw [← h5]
      exact ⟨fun t ht => put_env _ _ _ _ ht, fun _ => SameM.put, fun _ => SameM.put.off⟩
    | load t x =>
      simp only [stepD, ho] at h
      obtain ⟨_, h⟩ := h
      simp only [opV, ho] at h
      obtain ⟨r, h1, h2⟩ := h
      rw [← h2]
      exact ⟨fun t ht => put_env _ _ _ _ ht, fun _ => SameM.put, fun _ => SameM.put.off⟩
    | _ =>
      simp only [stepD, ho] at h
      obtain ⟨x, ⟨⟨h1, rfl⟩, h2⟩, _⟩ := opV_some (opV_own h)
      cases he : isEff o with
      | true =>
        refine ⟨h2, (fun h => by cases h), fun hf => ?_⟩
        exact h1 (by rw [he, hf]; try rfl)
      | false =>
        obtain ⟨r, _, _, h3⟩ := (opV_val he (by simp [isRead, ho])).1 h
        rw [← h3]
        exact ⟨fun t ht => put_env _ _ _ _ ht, fun _ => SameM.put, fun _ => SameM.put.off⟩
  unfold Step guardV at h
  split at h
  · exact hs h
  · obtain ⟨_, _, _, _, _, _, h⟩ := h
    split at h
    · exact hs h
    · exact hp h
def After (o : Oper) (s1 st2 : St) : St := if isEff o then Other st2.env o.dst s1 else Other st2.env o.dst { st2 with env := s1.env }
theorem After_env (o : Oper) (s1 st2 : St) (t : Nat) : (After o s1 st2).env t = if o.dst = some t then s1.env t else st2.env t := by
  unfold After Other
  split <;> rfl
theorem After_mem (o : Oper) (s1 st2 : St) (h : isEff o = false) : SameM st2 (After o s1 st2) := by
  unfold After Other
  rw [h]
  exact ⟨rfl, rfl, rfl⟩
theorem After_eff (o : Oper) (s1 st2 : St) (h : isEff o = true) : SameM s1 (After o s1 st2) := by
  unfold After Other
  rw [if_pos h]
  exact ⟨rfl, rfl, rfl⟩
theorem St.eta (s : St) (s' : St) (h : SameM s s') : { s with env := s'.env } = s' := by
  obtain ⟨a, b, c, d⟩ := s
  obtain ⟨a', b', c', d'⟩ := s'
  obtain ⟨h1, h2, h3⟩ := h
  simp only at h1 h2 h3
  subst h1 h2 h3
  rfl
theorem opV_after {o : Oper} {s s1 st2 : St} (hna : isAlloc o = false) (hop : ∀ x ∈ o.op.operands, oper C st2.env x = oper C s.env x) (hm : isEff o = true → SameM s st2)
    (hl : ∀ t x d tt v off, o.op = .load t x → oper C s.env x = .one (.box d tt v off) → readBox st2 d tt v = readBox s d tt v) (hn : isRead o = true → st2.σ.length = s.σ.length) (h : opV C o (fun x => x = s1) s) : opV C o (fun x => x = After o s1 st2) st2 := by
  cases he : isEff o with
  | true =>
    have h2 := opV_env hop h
    rw [St.eta s st2 (hm he)] at h2
    refine opV_mono ?_ h2
    rintro x ⟨s0, rfl, rfl⟩
    simp [After, he]
  | false =>
    have same : ∀ r, s1 = put s o.dst r → put st2 o.dst r = After o s1 st2 := by
      rintro r rfl
      unfold After
      rw [he, if_neg (by simp)]
      cases o.dst with
      | none => rfl
      | some d =>
        simp only [put, Other]
        congr 1
        funext t
        unfold upd
        by_cases e : t = d
        · subst e; simp
        · have : ¬ (some d = some t) := fun h => e (Option.some.inj h).symm
          rw [if_neg this, if_neg e]
    cases hr : isRead o with
    | false =>
      rw [opV_val he hr] at h ⊢
      obtain ⟨r, h1, h2⟩ := h
      exact ⟨r, opR_env hop h1, same r h2.symm⟩
    | true =>
      cases ho : o.op <;> simp only [isRead, isAlloc, ho] at hr hna <;> first
        | (cases hr; done)
        | (cases hna; done)
        | skip
      rename_i t x
      simp only [opV, ho] at h ⊢
      obtain ⟨r, h1, h2⟩ := h
      refine ⟨r, ?_, same r h2.symm⟩
      rw [hop x (by simp [ho, Op.operands])]
      unfold loadR at h1 ⊢
      obtain ⟨d, hd, h1⟩ := h1
      refine ⟨d, hd, ?_⟩
      have hl' := fun d tt v off => hl t x d tt v off ho
      have hn' := hn (by simp [isRead, ho])
      split at h1
      · rename_i fd tt v off hx
        rw [hl' _ _ _ _ hx, hn']
        exact h1
      · exact h1
      · exact h1.elim
end
end Go.Proofs.YtnpgbkldpdogjaaGreatDoor.V

namespace Go.Proofs.YtnpgbkldpdogjaaGreatDoor.V
open Go
theorem Sim.showBox {C : Cfg} {N : Nat} {w0 w : World} {M0 M : Map} {σ0 : List Frm} {Φ Φ' : Nat → Nat → Bool} {st : St} {a : Act} (h : Sim C N w0 M0 σ0 Φ st w M a) (t vv : Nat) (cs : List Cell) (b : Nat) (c : Array Value) (e : TypeId)
    (hw : w0.heap.size ≤ b) (hb : w.heap[b]? = some (.cells c e (0, 0))) (hp : M.prot b = 0) (hfree : ∀ d t v, M.box d t v ≠ some b) (hown : ∀ k, M.own k ≠ some b)
    (hs : c.size = cs.length) (hr : ∀ (i : Nat) (x : Cell), cs[i]? = some x → RepC w M x (c.getD i undef)) (ht : ∀ (i : Nat) (x : Cell), cs[i]? = some x → TipC w M st.live x (c.getD i undef))
    (hv : (st.loc t)[vv]? = some cs) (hnone : M.box st.σ.length t vv = none) (hΦ : ∀ t' v, Φ' t' v = true → Φ t' v = true) (hΦ' : Φ' t vv = false) :
    Sim C N w0 M0 σ0 Φ' st w { M with box := fun d t' v => if d = st.σ.length ∧ t' = t ∧ v = vv then some b else M.box d t' v } a := by
  have hm : Mono w M w { M with box := fun d t' v => if d = st.σ.length ∧ t' = t ∧ v = vv then some b else M.box d t' v } := by
    refine ⟨fun _ => Nat.le_refl _, fun _ _ _ => rfl, fun d t' v b' hb' => ?_⟩
    show (if d = st.σ.length ∧ t' = t ∧ v = vv then some b else M.box d t' v) = some b'
    rw [if_neg]
    · exact hb'
    · rintro ⟨rfl, rfl, rfl⟩
      rw [hnone] at hb'
      cases hb'
  have tipm : ∀ {x : Cell} {v : Value}, TipC w M st.live x v → TipC w { M with box := fun d t' v => if d = st.σ.length ∧ t' = t ∧ v = vv then some b else M.box d t' v } st.live x v := by
    intro x v hx
    unfold TipC at *
    split at hx
    · exact hx
    · trivial
  refine ⟨⟨h.keeps.os, h.keeps.tape, h.keeps.output, h.keeps.size, h.keeps.prot, h.keeps.keep⟩, ⟨?_, ?_, fun x cs hx => (h.base.globs x cs hx).mono hm, h.base.prot⟩, ?_, h.box0, ?_, h.tipsO, ?_, h.size, h.defers, fun t => (h.tmps t).mono hm, ?_, ?_, ?_, h.live, h.uniq⟩
  · intro d t' v b' hb'
    replace hb' : (if d = st.σ.length ∧ t' = t ∧ v = vv then some b else M.box d t' v) = some b' := hb'
    by_cases e' : d = st.σ.length ∧ t' = t ∧ v = vv
    · rw [if_pos e'] at hb'
      obtain ⟨rfl, rfl, rfl⟩ := e'
      cases hb'
      exact ⟨cs, ⟨st.loc, by rw [List.getElem?_append_right (Nat.le_refl _), Nat.sub_self]; try rfl, hv⟩, hp, c, e, hb, hs, fun i x hx => (hr i x hx).mono hm⟩
    · rw [if_neg e'] at hb'
      obtain ⟨cs', hf, hp', c', e1, hh, hs', hr'⟩ := h.base.outer d t' v b' hb'
      exact ⟨cs', hf, hp', c', e1, hh, hs', fun i x hx => (hr' i x hx).mono hm⟩
  · intro d t1 v d' t' v' b' hb1 hb2
    replace hb1 : (if d = st.σ.length ∧ t1 = t ∧ v = vv then some b else M.box d t1 v) = some b' := hb1
    replace hb2 : (if d' = st.σ.length ∧ t' = t ∧ v' = vv then some b else M.box d' t' v') = some b' := hb2
    by_cases e1 : d = st.σ.length ∧ t1 = t ∧ v = vv <;> by_cases e2 : d' = st.σ.length ∧ t' = t ∧ v' = vv
    · obtain ⟨rfl, rfl, rfl⟩ := e1; obtain ⟨rfl, rfl, rfl⟩ := e2; exact ⟨rfl, rfl, rfl⟩
    · rw [if_pos e1] at hb1; rw [if_neg e2] at hb2; cases hb1; exact absurd hb2 (hfree _ _ _)
    · rw [if_neg e1] at hb1; rw [if_pos e2] at hb2; cases hb2; exact absurd hb1 (hfree _ _ _)
    · rw [if_neg e1] at hb1; rw [if_neg e2] at hb2; exact h.base.inj _ _ _ _ _ _ _ hb1 hb2
  · intro d t' v hd
    show (if d = st.σ.length ∧ t' = t ∧ v = vv then some b else M.box d t' v) = _
    rw [if_neg (by rintro ⟨rfl, _⟩; exact absurd hd (Nat.lt_irrefl _))]
    exact h.boxes0 d t' v hd
  · intro t' v b' hb'
    replace hb' : (if st.σ.length = st.σ.length ∧ t' = t ∧ v = vv then some b else M.box st.σ.length t' v) = some b' := hb'
    split at hb'
    · cases hb'; exact hw
    · exact h.newbox t' v b' hb'
  · intro t' v hp
    show (if st.σ.length = st.σ.length ∧ t' = t ∧ v = vv then some b else M.box st.σ.length t' v) = none
    rw [if_neg (by rintro ⟨_, rfl, rfl⟩; rw [hΦ'] at hp; cases hp)]
    exact h.phan t' v (hΦ _ _ hp)
  · exact fun t' => TipV.imp (fun _ _ hx => tipm hx) (h.tipsT t')
  · intro t' v b' c' e' hb' hh i x cs' hl hx
    replace hb' : (if st.σ.length = st.σ.length ∧ t' = t ∧ v = vv then some b else M.box st.σ.length t' v) = some b' := hb'
    by_cases e1 : st.σ.length = st.σ.length ∧ t' = t ∧ v = vv
    · rw [if_pos e1] at hb'
      obtain ⟨_, rfl, rfl⟩ := e1
      cases hb'
      rw [hb] at hh
      cases hh
      rw [hv] at hl
      cases hl
      exact tipm (ht i x hx)
    · rw [if_neg e1] at hb'
      exact tipm (h.tipsL t' v b' c' e' hb' hh i x cs' hl hx)
  · intro k g hk
    obtain ⟨h1, h2, h3, h4⟩ := h.own k g hk
    refine ⟨h1, h2, h3, fun d t' v hb' => ?_⟩
    replace hb' : (if d = st.σ.length ∧ t' = t ∧ v = vv then some b else M.box d t' v) = some g := hb'
    split at hb'
    · cases hb'; exact hown k hk
    · exact h4 _ _ _ hb'
theorem Sim.phi {C : Cfg} {N : Nat} {w0 w : World} {M0 M : Map} {σ0 : List Frm} {Φ Φ' : Nat → Nat → Bool} {st : St} {a : Act} (h : Sim C N w0 M0 σ0 Φ st w M a) (hΦ : ∀ t' v, Φ' t' v = true → Φ t' v = true) : Sim C N w0 M0 σ0 Φ' st w M a :=
  ⟨h.keeps, h.base, h.boxes0, h.box0, h.newbox, h.tipsO, fun t v hp => h.phan t v (hΦ t v hp), h.size, h.defers, h.tmps, h.tipsT, h.tipsL, h.own, h.live, h.uniq⟩
theorem Sim.junk {C : Cfg} {N : Nat} {w0 w : World} {M0 M : Map} {σ0 : List Frm} {Φ Φ' : Nat → Nat → Bool} {st : St} {a : Act} (h : Sim C N w0 M0 σ0 Φ st w M a) (l : Frm) (hl : ∀ (t v : Nat) (cs : List Cell), (st.loc t)[v]? = some cs → (l t)[v]? = some cs) (hΦ : ∀ t v, Φ' t v = true → (st.loc t).length ≤ v) :
    Sim C N w0 M0 σ0 Φ' { st with loc := l } w M a := by
  have hin : ∀ {t v b}, M.box st.σ.length t v = some b → v < (st.loc t).length := by
    intro t v b hb
    obtain ⟨cs', ⟨f, hf, hv⟩, _⟩ := h.base.outer _ _ _ _ hb
    rw [List.getElem?_append_right (Nat.le_refl _), Nat.sub_self] at hf
    simp only [List.getElem?_cons_zero, Option.some.injEq] at hf
    subst hf
    exact (List.getElem?_eq_some_iff.1 hv).1
  refine ⟨h.keeps, ⟨fun d t v b hb => ?_, h.base.inj, h.base.globs, h.base.prot⟩, h.boxes0, h.box0, h.newbox, h.tipsO, fun t v hp => ?_, h.size, h.defers, h.tmps, h.tipsT, fun t v b c e hb hh i x cs hc hx => ?_, h.own, h.live, h.uniq⟩
  · obtain ⟨cs', ⟨f, hf, hv⟩, hr⟩ := h.base.outer d t v b hb
    refine ⟨cs', ?_, hr⟩
    by_cases hd : d < st.σ.length
    · rw [List.getElem?_append_left hd] at hf
      exact ⟨f, by show (st.σ ++ [l])[d]? = _; rw [List.getElem?_append_left hd]; exact hf, hv⟩
    · have : d = st.σ.length := by
        have := (List.getElem?_eq_some_iff.1 hf).1
        rw [List.length_append, List.length_singleton] at this
        omega
      subst this
      rw [List.getElem?_append_right (Nat.le_refl _), Nat.sub_self] at hf
      simp only [List.getElem?_cons_zero, Option.some.injEq] at hf
      subst hf
      exact ⟨l, by show (st.σ ++ [l])[st.σ.length]? = _; rw [List.getElem?_append_right (Nat.le_refl _), Nat.sub_self]; try rfl, hl _ _ _ hv⟩
  · cases hb : M.box st.σ.length t v with
    | none => rfl
    | some b =>
      have := hin hb
      have := hΦ t v hp
      omega
  · have hlt := hin (show M.box st.σ.length t v = some b from hb)
    have := hl t v _ (List.getElem?_eq_getElem hlt)
    rw [show (l t)[v]? = some cs from hc] at this
    cases this
    exact h.tipsL t v b c e hb hh i x _ (List.getElem?_eq_getElem hlt) hx
theorem reserve_mono {C : Cfg} : ∀ (ops : List Oper) (l : Frm) (t v : Nat) (cs : List Cell), (l t)[v]? = some cs → (reserve C ops l t)[v]? = some cs := by
  intro ops
  induction ops with
  | nil => intro l t v cs h; exact h
  | cons o ops ih =>
    intro l t v cs h
    have key : reserve C (o :: ops) l = reserve C ops l ∨ ∃ d z, reserve C (o :: ops) l = reserve C ops (upd l d (l d ++ [z])) := by
      simp only [reserve]
      split
      · split
        · exact .inr ⟨_, _, rfl⟩
        · exact .inl rfl
      · exact .inl rfl
    rcases key with e | ⟨d, z, e⟩
    · rw [e]; exact ih l t v cs h
    · rw [e]
      refine ih _ t v cs ?_
      unfold upd
      split
      · rename_i e; subst e
        rw [List.getElem?_append_left (List.getElem?_eq_some_iff.1 h).1]; exact h
      · exact h
section
variable {C : Cfg} {W : Nat → Nat → Nat → Bool} {vs : Nat → Nat} {fl : List Bool} {B : List Nat} {ops : Array Oper} {K : St → Prop} {S : Nat → St}
theorem drawOk_row (h : drawOk ops B fl = true) {i : Nat} {o : Oper} (hi : ops[i]? = some o) : (∀ e ∈ o.after, Region.binds .any e = true → e.on < i) ∧
    ∀ j, j < ops.size → bef B i j = true → ∃ e ∈ o.after, Region.binds .any e = true ∧ (e.on = j ∨ bef B e.on j = true) := by
  simp only [drawOk, Bool.and_eq_true, List.all_eq_true, List.mem_range] at h
  have h1 := h.2 i (Array.getElem?_eq_some_iff.1 hi).1
  rw [hi] at h1
  simp only [Bool.and_eq_true, rowOk, List.all_eq_true, List.mem_range, Bool.or_eq_true, Bool.not_eq_true', List.any_eq_true, Nat.blt_eq, beq_iff_eq, Array.mem_toList_iff] at h1
  obtain ⟨⟨h1, h2⟩, _⟩ := h1
  refine ⟨fun e he hb => (h1 e he).resolve_left (by simp [hb]), fun j hj hb => ?_⟩
  obtain ⟨e, he, h3, h4⟩ := (h2 j hj).resolve_left (by simp [hb])
  exact ⟨e, he, h3, h4⟩
theorem drawOk_pair (h : drawOk ops B fl = true) {i j : Nat} {oi oj : Oper} (hi : ops[i]? = some oi) (hj : ops[j]? = some oj) (hlt : j < i) : dstNe oi oj = true ∧ (bef B i j = true ∨ meetOk ops (fl.getD i false) (fl.getD j false) oi oj = true) := by
  simp only [drawOk, Bool.and_eq_true, List.all_eq_true, List.mem_range] at h
  have h1 := h.2 i (Array.getElem?_eq_some_iff.1 hi).1
  rw [hi] at h1
  simp only [Bool.and_eq_true, List.all_eq_true, List.mem_range] at h1
  have h2 := h1.2 j hlt
  rw [hj] at h2
  simpa only [Bool.and_eq_true, Bool.or_eq_true] using h2
theorem bef_listed (h : drawOk ops B fl = true) {L : Nat → Bool} (hdc : ∀ i o, ops[i]? = some o → L i = true → ∀ e ∈ o.after, Region.binds .any e = true → L e.on = true) :
    ∀ (i : Nat) (o : Oper), ops[i]? = some o → (∀ e ∈ o.after, Region.binds .any e = true → L e.on = true) → ∀ j, j < ops.size → bef B i j = true → L j = true := by
  intro i
  induction i using Nat.strongRecOn with
  | ind i ih =>
    intro o hi hall j hj hb
    obtain ⟨h1, h2⟩ := drawOk_row h hi
    obtain ⟨e, he, h3, h4⟩ := h2 j hj hb
    rcases h4 with rfl | h4
    · exact hall e he h3
    · have hlt := h1 e he h3
      have hlt' : e.on < ops.size := Nat.lt_trans hlt (Array.getElem?_eq_some_iff.1 hi).1
      exact ih e.on hlt _ (Array.getElem?_eq_getElem hlt') (hdc _ _ (Array.getElem?_eq_getElem hlt') (hall e he h3)) j hj h4
variable (hS : ∀ i o, ops[i]? = some o → Step C W vs ops (fl.getD i false) o (S i) (S (i + 1)))
include hS
theorem chain_env {a b t : Nat} (hab : a ≤ b) (hb : b ≤ ops.size) (h : ∀ j o, a ≤ j → j < b → ops[j]? = some o → o.dst ≠ some t) : (S b).env t = (S a).env t := by
  induction b with
  | zero => obtain rfl : a = 0 := (by omega); rfl
  | succ b ih =>
    by_cases e : a = b + 1
    · subst e; rfl
    · have hlt : b < ops.size := by omega
      rw [(hS b _ (Array.getElem?_eq_getElem hlt)).own.1 t (h b _ (by omega) (by omega) (Array.getElem?_eq_getElem hlt))]
      exact ih (by omega) (by omega) fun j o h1 h2 => h j o h1 (by omega)
theorem chain_mem {a b : Nat} (hab : a ≤ b) (hb : b ≤ ops.size) (h : ∀ j o, a ≤ j → j < b → ops[j]? = some o → isEff o = false) : SameM (S a) (S b) := by
  induction b with
  | zero => obtain rfl : a = 0 := (by omega); exact ⟨rfl, rfl, rfl⟩
  | succ b ih =>
    by_cases e : a = b + 1
    · subst e; exact ⟨rfl, rfl, rfl⟩
    · have hlt : b < ops.size := by omega
      exact (ih (by omega) (by omega) fun j o h1 h2 => h j o h1 (by omega)).trans ((hS b _ (Array.getElem?_eq_getElem hlt)).own.2.1 (h b _ (by omega) (by omega) (Array.getElem?_eq_getElem hlt)))
theorem chain_off {a b : Nat} (hab : a ≤ b) (hb : b ≤ ops.size) (h : ∀ j o, a ≤ j → j < b → ops[j]? = some o → isEff o = true → fl.getD j false = true) : Off W (S a) (S b) := by
  induction b with
  | zero => obtain rfl : a = 0 := (by omega); exact Off.refl _
  | succ b ih =>
    by_cases e : a = b + 1
    · subst e; exact Off.refl _
    · have hlt : b < ops.size := by omega
      have hst := (hS b _ (Array.getElem?_eq_getElem hlt)).own
      refine (ih (by omega) (by omega) fun j o h1 h2 => h j o h1 (by omega)).trans ?_
      cases he : isEff ops[b] with
      | true => exact hst.2.2 (h b _ (by omega) (by omega) (Array.getElem?_eq_getElem hlt) he)
      | false => exact (hst.2.1 he).off
omit hS in
theorem meet_or (hd : drawOk ops B fl = true) {i j : Nat} {oi oj : Oper} (hi : ops[i]? = some oi) (hj : ops[j]? = some oj) (hne : j ≠ i) (h1 : bef B i j ≠ true) (h2 : bef B j i ≠ true) :
    (∀ t, oj.dst = some t → t ∉ oi.looksAt ops) ∧ ¬ (isEff oi = true ∧ isEff oj = true) ∧ (isRead oi = true → isEff oj = true → fl.getD i false = true ∧ fl.getD j false = true) := by
  have key : ∀ {i j : Nat} {oi oj : Oper}, meetOk ops (fl.getD i false) (fl.getD j false) oi oj = true → (∀ t, oj.dst = some t → t ∉ oi.looksAt ops) ∧ (∀ t, oi.dst = some t → t ∉ oj.looksAt ops) ∧ ¬ (isEff oi = true ∧ isEff oj = true) ∧ (isRead oi = true → isEff oj = true → fl.getD i false = true ∧ fl.getD j false = true) ∧ (isRead oj = true → isEff oi = true → fl.getD i false = true ∧ fl.getD j false = true) := by
    intro i j oi oj hm
    simp only [meetOk, Bool.and_eq_true, Bool.or_eq_true, Bool.not_eq_true'] at hm
    obtain ⟨⟨⟨ha, hb⟩, hc⟩, he⟩ := hm
    obtain ⟨a1, _, a3⟩ := Oper.apart_spec ha
    refine ⟨a1, a3, fun ⟨x, y⟩ => by simp [x, y] at hb, fun x y => ?_, fun x y => ?_⟩
    · rw [x, y] at hc
      exact hc.resolve_left (by simp)
    · rw [x, y] at he
      exact he.resolve_left (by simp)
  rcases Nat.lt_or_gt_of_ne hne with hlt | hlt
  · obtain ⟨k1, _, k3, k4, _⟩ := key ((drawOk_pair hd hi hj hlt).2.resolve_left h1)
    exact ⟨k1, k3, k4⟩
  · obtain ⟨_, k2, k3, _, k5⟩ := key ((drawOk_pair hd hj hi hlt).2.resolve_left h2)
    exact ⟨k2, fun h => k3 h.symm, fun x y => (k5 x y).symm⟩
omit hS in
theorem dst_ne (hd : drawOk ops B fl = true) {i j : Nat} {oi oj : Oper} {t : Nat} (hi : ops[i]? = some oi) (hj : ops[j]? = some oj) (h1 : oi.dst = some t) (h2 : oj.dst = some t) : i = j := by
  have key : ∀ {i j : Nat} {oi oj : Oper}, ops[i]? = some oi → ops[j]? = some oj → oi.dst = some t → oj.dst = some t → j < i → False := by
    intro i j oi oj hi hj h1 h2 hlt
    have := (drawOk_pair hd hi hj hlt).1
    simp [dstNe, h1, h2] at this
  rcases Nat.lt_trichotomy i j with h | h | h
  · exact (key hj hi h2 h1 h).elim
  · exact h
  · exact (key hi hj h1 h2 h).elim
structure Come (ops : Array Oper) (S : Nat → St) (L : Nat → Bool) (st : St) : Prop where
  env1 : ∀ t j o, ops[j]? = some o → o.dst = some t → L j = true → st.env t = (S (j + 1)).env t
  env0 : ∀ t, (∀ j o, ops[j]? = some o → o.dst = some t → L j = false) → st.env t = (S 0).env t
  mem : ∃ k, k ≤ ops.size ∧ SameM (S k) st ∧ ∀ j o, ops[j]? = some o → isEff o = true → (L j = true ↔ j < k)
theorem Come.same (hd : drawOk ops B fl = true) {L : Nat → Bool} {st : St} (hc : Come ops S L st) (hdc : ∀ i o, ops[i]? = some o → L i = true → ∀ e ∈ o.after, Region.binds .any e = true → L e.on = true)
    {i : Nat} {o : Oper} (hi : ops[i]? = some o) (hL : L i = false) (hready : ∀ e ∈ o.after, Region.binds .any e = true → L e.on = true) :
    (∀ t ∈ o.looksAt ops, st.env t = (S i).env t) ∧ (isEff o = true → SameM (S i) st) ∧ (isRead o = true → fl.getD i false = false → SameM (S i) st) ∧ (isRead o = true → Off W (S i) st) := by
  have hin := (Array.getElem?_eq_some_iff.1 hi).1
  have hbef : ∀ j, j < ops.size → bef B i j = true → L j = true := bef_listed hd hdc i o hi hready
  have hfeb : ∀ j oj, ops[j]? = some oj → L j = true → bef B j i ≠ true := fun j oj hj hLj hb => by
    have := bef_listed hd hdc j oj hj (hdc j oj hj hLj) i hin hb
    rw [hL] at this; cases this
  have hun : ∀ j oj, ops[j]? = some oj → j < i → L j = false → (∀ t, oj.dst = some t → t ∉ o.looksAt ops) ∧ ¬ (isEff o = true ∧ isEff oj = true) ∧ (isRead o = true → isEff oj = true → fl.getD i false = true ∧ fl.getD j false = true) := by
    intro j oj hj hlt hLj
    refine meet_or hd hi hj (by omega) (fun hb => ?_) (fun hb => ?_)
    · rw [hbef j (by omega) hb] at hLj; cases hLj
    · have key : ∀ (j : Nat) (oj : Oper), ops[j]? = some oj → ∀ i, i < ops.size → bef B j i = true → i < j := by
        intro j
        induction j using Nat.strongRecOn with
        | ind j ih =>
          intro oj hj i hin hb
          obtain ⟨h1, h2⟩ := drawOk_row hd hj
          obtain ⟨e, he, h3, h4⟩ := h2 i hin hb
          have := h1 e he h3
          rcases h4 with rfl | h4
          · exact this
          · have hlt' : e.on < ops.size := by have := (Array.getElem?_eq_some_iff.1 hj).1; omega
            have := ih e.on this _ (Array.getElem?_eq_getElem hlt') i hin h4
            omega
      have := key j oj hj i hin hb
      omega
  have hun' : ∀ j oj, ops[j]? = some oj → i < j → L j = true → (∀ t, oj.dst = some t → t ∉ o.looksAt ops) ∧ ¬ (isEff o = true ∧ isEff oj = true) ∧ (isRead o = true → isEff oj = true → fl.getD i false = true ∧ fl.getD j false = true) := by
    intro j oj hj hlt hLj
    refine meet_or hd hi hj (by omega) (fun hb => ?_) (hfeb j oj hj hLj)
    have key : ∀ (j : Nat) (oj : Oper), ops[j]? = some oj → ∀ i, i < ops.size → bef B j i = true → i < j := by
      intro j
      induction j using Nat.strongRecOn with
      | ind j ih =>
        intro oj hj i hin hb
        obtain ⟨h1, h2⟩ := drawOk_row hd hj
        obtain ⟨e, he, h3, h4⟩ := h2 i hin hb
        have := h1 e he h3
        rcases h4 with rfl | h4
        · exact this
        · have hlt' : e.on < ops.size := by have := (Array.getElem?_eq_some_iff.1 hj).1; omega
          have := ih e.on this _ (Array.getElem?_eq_getElem hlt') i hin h4
          omega
    have := key i o hi j (Array.getElem?_eq_some_iff.1 hj).1 hb
    omega
  obtain ⟨k, hk, hm, hke⟩ := hc.mem
  -- effects between
  have hbetween : ∀ j oj, ops[j]? = some oj → isEff oj = true → (k ≤ j ∧ j < i ∨ i ≤ j ∧ j < k) → (j = i ∧ isEff o = true ∧ False) ∨ (¬ (isEff o = true ∧ isEff oj = true) ∧ (isRead o = true → fl.getD i false = true ∧ fl.getD j false = true)) := by
    intro j oj hj hej hcase
    rcases hcase with ⟨h1, h2⟩ | ⟨h1, h2⟩
    · have hLj : L j = false := by
        cases hx : L j with
        | false => rfl
        | true => have := (hke j oj hj hej).1 hx; omega
      obtain ⟨_, u2, u3⟩ := hun j oj hj h2 hLj
      exact .inr ⟨u2, fun hr => u3 hr hej⟩
    · have hLj : L j = true := (hke j oj hj hej).2 h2
      have hne : j ≠ i := fun e => by subst e; rw [hL] at hLj; cases hLj
      obtain ⟨_, u2, u3⟩ := hun' j oj hj (by omega) hLj
      exact .inr ⟨u2, fun hr => u3 hr hej⟩
  have hsame : (∀ j oj, ops[j]? = some oj → (k ≤ j ∧ j < i ∨ i ≤ j ∧ j < k) → isEff oj = false) → SameM (S i) st := by
    intro hno
    rcases Nat.le_total k i with hki | hki
    · exact (chain_mem hS hki (by omega) fun j oj h1 h2 hj => hno j oj hj (.inl ⟨h1, h2⟩)).symm.trans hm
    · exact (chain_mem hS hki hk fun j oj h1 h2 hj => hno j oj hj (.inr ⟨h1, h2⟩)).trans hm
  refine ⟨fun t ht => ?_, fun he => hsame fun j oj hj hcase => ?_, fun hr hf => hsame fun j oj hj hcase => ?_, fun hr => ?_⟩
  · by_cases hw : ∃ (j : Nat) (oj : Oper), ops[j]? = some oj ∧ oj.dst = some t
    · obtain ⟨j, oj, hj, hdst⟩ := hw
      have uniq : ∀ j' o', ops[j']? = some o' → o'.dst = some t → j' = j := fun j' o' hj' hd' => dst_ne hd hj' hj hd' hdst
      cases hLj : L j with
      | true =>
        rw [hc.env1 t j oj hj hdst hLj]
        have hlt : j < i := by
          rcases Nat.lt_trichotomy j i with h | h | h
          · exact h
          · subst h; rw [hL] at hLj; cases hLj
          · exact absurd ht ((hun' j oj hj h hLj).1 t hdst)
        exact (chain_env hS hlt (by omega) fun j' o' h1 h2 hj' hd' => by have := uniq j' o' hj' hd'; omega).symm
      | false =>
        rw [hc.env0 t fun j' o' hj' hd' => by rw [uniq j' o' hj' hd']; exact hLj]
        have hge : i ≤ j := by
          rcases Nat.lt_or_ge j i with h | h
          · exact absurd ht ((hun j oj hj h hLj).1 t hdst)
          · exact h
        exact (chain_env hS (Nat.zero_le i) (by omega) fun j' o' h1 h2 hj' hd' => by have := uniq j' o' hj' hd'; omega).symm
    · rw [hc.env0 t fun j' o' hj' hd' => absurd ⟨j', o', hj', hd'⟩ hw]
      exact (chain_env hS (Nat.zero_le i) (by omega) fun j' o' h1 h2 hj' hd' => hw ⟨j', o', hj', hd'⟩).symm
  · cases hej : isEff oj with
    | false => rfl
    | true =>
      rcases hbetween j oj hj hej hcase with ⟨_, _, h⟩ | ⟨h, _⟩
      · exact h.elim
      · exact absurd ⟨he, hej⟩ h
  · cases hej : isEff oj with
    | false => rfl
    | true =>
      rcases hbetween j oj hj hej hcase with ⟨_, _, h⟩ | ⟨_, h⟩
      · exact h.elim
      · have := (h hr).1
        rw [hf] at this; cases this
  · have hflag : ∀ j oj, ops[j]? = some oj → isEff oj = true → (k ≤ j ∧ j < i ∨ i ≤ j ∧ j < k) → fl.getD j false = true := by
      intro j oj hj hej hcase
      rcases hbetween j oj hj hej hcase with ⟨_, _, h⟩ | ⟨_, h⟩
      · exact h.elim
      · exact (h hr).2
    rcases Nat.le_total k i with hki | hki
    · exact (chain_off hS hki (by omega) fun j oj h1 h2 hj hej => hflag j oj hj hej (.inl ⟨h1, h2⟩)).symm.trans hm.off
    · exact (chain_off hS hki hk fun j oj h1 h2 hj hej => hflag j oj hj hej (.inr ⟨h1, h2⟩)).trans hm.off
end
end Go.Proofs.YtnpgbkldpdogjaaGreatDoor.V

namespace Go.Proofs.YtnpgbkldpdogjaaGreatDoor.V
open Go
section
variable {C : Cfg} {W : Nat → Nat → Nat → Bool} {vs : Nat → Nat} {fl : List Bool} {B : List Nat} {ops : Array Oper} {K : St → Prop} {S : Nat → St}
def Todo (ops : Array Oper) (vs : Nat → Nat) (L : Nat → Bool) (t v : Nat) : Bool := v == vs t && (List.range ops.size).any fun i => !L i && match ops[i]? with
  | some o => isAlloc o && o.dst == some t
  | none => false
theorem Todo_iff {L : Nat → Bool} {t v : Nat} : Todo ops vs L t v = true ↔ v = vs t ∧ ∃ i o, ops[i]? = some o ∧ L i = false ∧ isAlloc o = true ∧ o.dst = some t := by
  simp only [Todo, Bool.and_eq_true, beq_iff_eq, List.any_eq_true, List.mem_range, Bool.not_eq_true']
  refine and_congr Iff.rfl ⟨?_, ?_⟩
  · rintro ⟨i, hi, h1, h2⟩
    rw [Array.getElem?_eq_getElem hi] at h2
    exact ⟨i, _, Array.getElem?_eq_getElem hi, h1, by simpa using h2⟩
  · rintro ⟨i, o, hi, h1, h2, h3⟩
    refine ⟨i, (Array.getElem?_eq_some_iff.1 hi).1, h1, ?_⟩
    rw [hi]
    simp [h2, h3]
def setL (L : Nat → Bool) (i : Nat) : Nat → Bool := fun j => if j = i then true else L j
theorem operand_looks {o : Oper} {env e2 : Nat → PV} (h : ∀ t ∈ o.looksAt ops, e2 t = env t) : ∀ x ∈ o.op.operands, oper C e2 x = oper C env x := by
  intro x hx
  cases x with
  | tmp t => exact h t (List.mem_append_left _ (List.mem_filterMap.2 ⟨.tmp t, by simpa using hx, rfl⟩))
  | _ => rfl
theorem Come.next (hd : drawOk ops B fl = true) (_hS : ∀ i o, ops[i]? = some o → Step C W vs ops (fl.getD i false) o (S i) (S (i + 1))) {L : Nat → Bool} {st st' : St} (hc : Come ops S L st)
    (hdc : ∀ i o, ops[i]? = some o → L i = true → ∀ e ∈ o.after, Region.binds .any e = true → L e.on = true) {i : Nat} {o : Oper} (hi : ops[i]? = some o) (hL : L i = false) (hready : ∀ e ∈ o.after, Region.binds .any e = true → L e.on = true)
    (henv : ∀ t, st'.env t = if o.dst = some t then (S (i + 1)).env t else st.env t) (hmem : isEff o = false → SameM st st') (heff : isEff o = true → SameM (S (i + 1)) st') : Come ops S (setL L i) st' := by
  have hin := (Array.getElem?_eq_some_iff.1 hi).1
  refine ⟨fun t j oj hj hdst hLj => ?_, fun t hno => ?_, ?_⟩
  · rw [henv t]
    by_cases e : o.dst = some t
    · rw [if_pos e, dst_ne hd hj hi hdst e]
    · rw [if_neg e]
      have hne : j ≠ i := fun e' => by
        subst e'
        rw [hi] at hj
        cases hj
        exact e hdst
      exact hc.env1 t j oj hj hdst (by simpa [setL, hne] using hLj)
  · rw [henv t, if_neg]
    · refine hc.env0 t fun j oj hj hdst => ?_
      have := hno j oj hj hdst
      unfold setL at this
      split at this
      · cases this
      · exact this
    · intro e
      have := hno i o hi e
      simp [setL] at this
  · obtain ⟨k, hk, hm, hke⟩ := hc.mem
    cases he : isEff o with
    | false =>
      refine ⟨k, hk, hm.trans (hmem he), fun j oj hj hej => ?_⟩
      have hne : j ≠ i := fun e' => by
        subst e'
        rw [hi] at hj
        cases hj
        rw [he] at hej; cases hej
      simpa [setL, hne] using hke j oj hj hej
    | true =>
      refine ⟨i + 1, hin, heff he, fun j oj hj hej => ?_⟩
      have hbef : ∀ j, j < ops.size → bef B i j = true → L j = true := bef_listed hd hdc i o hi hready
      by_cases hne : j = i
      · subst hne; simp [setL]
      · have hne' : i ≠ j := fun e => hne e.symm
        simp only [setL, if_neg hne]
        by_cases hb1 : bef B i j = true
        · have hLj := hbef j (Array.getElem?_eq_some_iff.1 hj).1 hb1
          have : j < i := by
            have key : ∀ (j : Nat) (oj : Oper), ops[j]? = some oj → ∀ i, i < ops.size → bef B j i = true → i < j := by
              intro j
              induction j using Nat.strongRecOn with
              | ind j ih =>
                intro oj hj i hin hb
                obtain ⟨h1, h2⟩ := drawOk_row hd hj
                obtain ⟨e, he, h3, h4⟩ := h2 i hin hb
                have := h1 e he h3
                rcases h4 with rfl | h4
                · exact this
                · have hlt' : e.on < ops.size := by have := (Array.getElem?_eq_some_iff.1 hj).1; omega
                  have := ih e.on this _ (Array.getElem?_eq_getElem hlt') i hin h4
                  omega
            exact key i o hi j (Array.getElem?_eq_some_iff.1 hj).1 hb1
          simp [hLj]; omega
        · by_cases hb2 : bef B j i = true
          · have hLj : L j = false := by
              cases hx : L j with
              | false => rfl
              | true =>
                have := bef_listed hd hdc j oj hj (hdc j oj hj hx) i hin hb2
                rw [hL] at this; cases this
            have : i < j := by
              have key : ∀ (j : Nat) (oj : Oper), ops[j]? = some oj → ∀ i, i < ops.size → bef B j i = true → i < j := by
                intro j
                induction j using Nat.strongRecOn with
                | ind j ih =>
                  intro oj hj i hin hb
                  obtain ⟨h1, h2⟩ := drawOk_row hd hj
                  obtain ⟨e, he, h3, h4⟩ := h2 i hin hb
                  have := h1 e he h3
                  rcases h4 with rfl | h4
                  · exact this
                  · have hlt' : e.on < ops.size := by have := (Array.getElem?_eq_some_iff.1 hj).1; omega
                    have := ih e.on this _ (Array.getElem?_eq_getElem hlt') i hin h4
                    omega
              exact key j oj hj i hin hb2
            simp [hLj]; omega
          · exact absurd ⟨he, hej⟩ (meet_or hd hi hj hne hb1 hb2).2.1
theorem draw_step (hT : ∀ t d, C.T t = some d → TyFits C.P t d) (hd : drawOk ops B fl = true) (hS : ∀ i o, ops[i]? = some o → Step C W vs ops (fl.getD i false) o (S i) (S (i + 1))) {N : Nat} {w0 w : World} {M0 M : Map} {σ0 : List Frm} {L : Nat → Bool} {st : St} {a : Act}
    (hN : opsDst N ops.toList = true) (hs : Sim C N w0 M0 σ0 (Todo ops vs L) st w M a) (hc : Come ops S L st) (hdc : ∀ i o, ops[i]? = some o → L i = true → ∀ e ∈ o.after, Region.binds .any e = true → L e.on = true)
    {i : Nat} {o : Oper} (hi : ops[i]? = some o) (hL : L i = false) (hready : ∀ e ∈ o.after, Region.binds .any e = true → L e.on = true) {next : Act → World → Prop} {Q : Exit → Act → World → Prop}
    (hK : ∀ st' w' M' a', Come ops S (setL L i) st' → Sim C N w0 M0 σ0 (Todo ops vs (setL L i)) st' w' M' a' → next a' w') : wpOp C.P ops Q i next a w := by
  obtain ⟨henv, heff, hrd, hoff⟩ := hc.same hS hd hdc hi hL hready
  have hdN : ∀ d, o.dst = some d → d < N := opsDst_mem hN o (by
    rw [Array.mem_toList_iff]
    exact Array.mem_of_getElem? hi)
  have hmono : ∀ t v, Todo ops vs (setL L i) t v = true → Todo ops vs L t v = true := by
    intro t v h
    rw [Todo_iff] at h ⊢
    obtain ⟨h1, j, oj, hj, h2, h3⟩ := h
    refine ⟨h1, j, oj, hj, ?_, h3⟩
    unfold setL at h2
    split at h2
    · cases h2
    · exact h2
  have hstep := hS i o hi
  have hops := operand_looks (C := C) henv
  have skip : S (i + 1) = put (S i) o.dst .gone → next (a.put o.dst undef) w := by
    intro he
    refine hK _ _ _ _ ?_ ((hs.put o.dst hdN .gone trivial).phi hmono)
    refine hc.next hd hS hdc hi hL hready (fun t => ?_) (fun _ => SameM.put) (fun h => ?_)
    · by_cases e : o.dst = some t
      · rw [if_pos e, he, e]; simp [put]
      · rw [if_neg e]; exact put_env _ _ _ _ e
    · rw [he]
      exact (SameM.put.symm.trans (heff h)).trans SameM.put
  have run : stepD C W vs (fl.getD i false) o (fun x => x = S (i + 1)) (S i) → o.wp C.P a w next Q := by
    intro hrun
    have opv : isAlloc o = false → (∀ t x d tt v off, o.op = .load t x → oper C (S i).env x = .one (.box d tt v off) → readBox st d tt v = readBox (S i) d tt v) → opV C o (fun x => x = S (i + 1)) (S i) → o.wp C.P a w next Q := by
      intro hna hl hv
      have h2 := opV_after (st2 := st) hna hops heff hl (fun hr => (hoff hr).1) hv
      refine sim_op hs hT hdN (fun d hdst v => ?_) h2 fun st' w' M' a' he hs' => ?_
      · cases hx : Todo ops vs L d v with
        | false => rfl
        | true =>
          obtain ⟨_, j, oj, hj, _, h3, h4⟩ := Todo_iff.1 hx
          have := dst_ne hd hi hj hdst h4
          subst this
          rw [hi] at hj
          cases hj
          rw [hna] at h3; cases h3
      · subst he
        exact hK _ _ _ _ (hc.next hd hS hdc hi hL hready (After_env _ _ _) (After_mem _ _ _) (After_eff _ _ _)) (hs'.phi hmono)
    cases ho : o.op with
    | alloc t =>
      simp only [stepD, ho] at hrun
      obtain ⟨d, dst, hd', hdst, hread, hfr, hKr⟩ := hrun
      have hisR : isRead o = true := by simp [isRead, ho]
      have hrd2 : readBox st st.σ.length dst (vs dst) = some d.zero := by
        rw [(hoff hisR).1]
        cases hf : fl.getD i false with
        | false => rw [(hrd hisR hf).read]; exact hread
        | true => rw [(hoff hisR).2 _ _ _ (hfr hf)]; exact hread
      have hloc : (st.loc dst)[vs dst]? = some d.zero := by simpa [readBox] using hrd2
      obtain ⟨ii, u, hii, hu, hsz, _, hzl, hza, hz, h1, _⟩ := hT t d hd'
      have hrun2 : (execOp a.eval o).run C.P w = .ok (.value (.pointer (some ⟨w.heap.size, 0, none⟩))) (w.alloc (.cells (if d.isAgg then .agg (d.zero.map zval).toArray else zval (d.zero.headD .nilp) : Value).cells t)) := by
        simp [execOp, ho, Instr.alloc, run_zeroValue' hii hz, newVar, newRow]
      have hcells : (if d.isAgg then .agg (d.zero.map zval).toArray else zval (d.zero.headD .nilp) : Value).cells = (d.zero.map zval).toArray := by
        by_cases hag : d.isAgg = true
        · rw [if_pos hag]; try rfl
        · rw [if_neg hag]
          have hz1 := h1 (by simpa using hag)
          match hd0 : d.zero, (show d.zero.length = 1 by omega) with
          | [c], _ => cases c <;> rfl
      rw [hcells] at hrun2
      have hgrow := grow_row (M := M) hs.base.prot (d.zero.map zval).toArray t 0
      have hs1 := hs.grow hgrow
      have htodo : Todo ops vs L dst (vs dst) = true := Todo_iff.2 ⟨rfl, i, o, hi, hL, by simp [isAlloc, ho], hdst⟩
      have hfree : ∀ d t v, M.box d t v ≠ some w.heap.size := fun d t v hb => by
        have := hs.base.outer.lt hb
        omega
      have hs2 := hs1.showBox (Φ' := Todo ops vs (setL L i)) dst (vs dst) d.zero w.heap.size (d.zero.map zval).toArray t hs.keeps.size (heap_new w _) (by show (if w.heap.size = w.heap.size then 0 else _) = 0; rw [if_pos rfl]) (fun d t v hb => hfree d t v hb) (fun k hk => by have := (hs.own k _ (show M.own k = some w.heap.size from hk)).2.1; omega) (by simp)
        (fun j x hx => (zeros_rep hza j x hx).1) (fun j x hx => TipC.of_not (zeros_rep (w := w) (M := M) hza j x hx).2) hloc (hs1.phan _ _ htodo) hmono (by
          cases hx : Todo ops vs (setL L i) dst (vs dst) with
          | false => rfl
          | true =>
            obtain ⟨_, j, oj, hj, h2, h3, h4⟩ := Todo_iff.1 hx
            have := dst_ne hd hi hj hdst h4
            subst this
            simp [setL] at h2)
      have hs3 := hs2.put o.dst hdN (r := .one (.box st.σ.length dst (vs dst) 0)) (v := .pointer (some ⟨w.heap.size, 0, none⟩)) (.one _ _ (.box _ _ _ _ _ (by
        show (if _ then _ else _) = _
        rw [if_pos ⟨rfl, rfl, rfl⟩]))) trivial
      unfold Oper.wp
      rw [hrun2, Oper.upon_value]
      refine hK _ _ _ _ ?_ hs3
      have hne : isEff o = false := by simp [isEff, ho]
      refine hc.next hd hS hdc hi hL hready (fun t => ?_) (fun _ => SameM.put) (fun h => by rw [hne] at h; cases h)
      by_cases e : o.dst = some t
      · rw [if_pos e, ← hKr, e, (hoff hisR).1]; simp [put]
      · rw [if_neg e]; exact put_env _ _ _ _ e
    | load t x =>
      simp only [stepD, ho] at hrun
      obtain ⟨hfr, hv⟩ := hrun
      have hisR : isRead o = true := by simp [isRead, ho]
      refine opv (by simp [isAlloc, ho]) (fun t' x' d tt v off e hx => ?_) hv
      rw [ho] at e
      cases e
      cases hf : fl.getD i false with
      | false => exact (hrd hisR hf).read _ _ _
      | true =>
        have := hfr hf
        rw [hx] at this
        exact (hoff hisR).2 _ _ _ this
    | _ =>
      simp only [stepD, ho] at hrun
      exact opv (by simp [isAlloc, ho]) (fun t' x' d tt v off e hx => by rw [ho] at e; cases e) (opV_mono (fun x hx => hx.2) hrun)
  unfold wpOp
  rw [hi]
  simp only
  unfold Step guardV at hstep
  cases hg : o.guard with
  | none =>
    rw [hg] at hstep
    simp only [Region.wanted, hg, if_true]
    exact .inl (run hstep)
  | some g =>
    obtain ⟨j, want⟩ := g
    rw [hg] at hstep
    obtain ⟨oj, t, b, h1, h2, h3, h4⟩ := hstep
    have hlook : t ∈ o.looksAt ops := List.mem_append_right _ (by simp [hg, h1, h2])
    have hv := hs.tmps t
    rw [henv t hlook] at hv
    have hy : yielded ops a.tmps j = b := yielded_gB h1 h2 hv h3
    simp only [Region.wanted, hg, hy]
    by_cases hbw : b = some want
    · subst hbw
      rw [if_pos rfl] at h4
      simp only [beq_self_eq_true, if_true]
      exact .inl (run h4)
    · rw [if_neg hbw] at h4
      have : (b == some want) = false := by simpa using hbw
      simp only [this, Bool.false_eq_true, if_false]
      exact skip h4
theorem getD_listed {listed : Array Bool} {i : Nat} (hi : i < listed.size) (d d' : Bool) : listed.getD i d = listed.getD i d' := by
  simp [Array.getD_eq_getD_getElem?, Array.getElem?_eq_getElem hi]
theorem draw_any (hT : ∀ t d, C.T t = some d → TyFits C.P t d) (hd : drawOk ops B fl = true) (hS : ∀ i o, ops[i]? = some o → Step C W vs ops (fl.getD i false) o (S i) (S (i + 1))) {N : Nat} {w0 : World} {M0 : Map} {σ0 : List Frm}
    (hN : opsDst N ops.toList = true) {Q : Exit → Act → World → Prop} (hK : ∀ st' w' M' a', Come ops S (fun i => decide (i < ops.size)) st' → Sim C N w0 M0 σ0 (fun _ _ => false) st' w' M' a' → Q .normal a' w') :
    ∀ (fuel : Nat) (listed : Array Bool) (st : St) (w : World) (M : Map) (a : Act), listed.size = ops.size → listed.toList.count false ≤ fuel → (∀ i o, ops[i]? = some o → listed.getD i false = true → ∀ e ∈ o.after, Region.binds .any e = true → listed.getD e.on false = true) →
      Sim C N w0 M0 σ0 (Todo ops vs fun i => listed.getD i false) st w M a → Come ops S (fun i => listed.getD i false) st → wpAny C.P .any ops Q fuel listed a w := by
  have fin : ∀ (listed : Array Bool) (st : St) (w : World) (M : Map) (a : Act), listed.size = ops.size → (∀ i, i < ops.size → listed.getD i false = true) → Sim C N w0 M0 σ0 (Todo ops vs fun i => listed.getD i false) st w M a → Come ops S (fun i => listed.getD i false) st → Q .normal a w := by
    intro listed st w M a hsz hall hs hc
    have e : (fun i => listed.getD i false) = fun i => decide (i < ops.size) := by
      funext i
      by_cases h : i < ops.size
      · rw [hall i h]; exact (decide_eq_true h).symm
      · have h1 : listed.getD i false = false := by simp [Array.getD_eq_getD_getElem?, Array.getElem?_eq_none (by omega : listed.size ≤ i)]
        rw [h1]
        exact (decide_eq_false h).symm
    rw [e] at hc
    refine hK st w M a hc (hs.phi fun t v h => by cases h)
  have noready : ∀ (listed : Array Bool), listed.size = ops.size → Region.ready .any ops listed = [] → ∀ i, i < ops.size → listed.getD i false = true := by
    intro listed hsz hr i
    induction i using Nat.strongRecOn with
    | ind i ih =>
      intro hi
      cases hx : listed.getD i false with
      | true => rfl
      | false =>
        exfalso
        have : i ∈ Region.ready .any ops listed := mem_ready.2 ⟨by rw [getD_listed (by omega) true false]; exact hx, ops[i], Array.getElem?_eq_getElem hi, fun e he hb => by
          have hlt := (drawOk_row hd (Array.getElem?_eq_getElem hi)).1 e he hb
          exact ih e.on hlt (by omega)⟩
        rw [hr] at this
        cases this
  intro fuel
  induction fuel with
  | zero =>
    intro listed st w M a hsz hcnt hdc hs hc
    have hall : ∀ i, i < ops.size → listed.getD i false = true := by
      intro i hi
      cases hx : listed.getD i false with
      | true => rfl
      | false =>
        exfalso
        have : false ∈ listed.toList := by
          rw [Array.getD_eq_getD_getElem?, Array.getElem?_eq_getElem (by omega : i < listed.size)] at hx
          simp only [Option.getD_some] at hx
          exact hx ▸ Array.mem_toList_iff.2 (Array.getElem_mem _)
        have := List.count_pos_iff.2 this
        omega
    refine ⟨?_, fin listed st w M a hsz hall hs hc⟩
    cases hr : Region.ready .any ops listed with
    | nil => rfl
    | cons i is =>
      have hm : i ∈ Region.ready .any ops listed := by rw [hr]; simp
      obtain ⟨h0, o, ho, _⟩ := mem_ready.1 hm
      have hi := (Array.getElem?_eq_some_iff.1 ho).1
      rw [getD_listed (by omega) true false, hall i hi] at h0
      cases h0
  | succ fuel ih =>
    intro listed st w M a hsz hcnt hdc hs hc
    refine ⟨fun hr => fin listed st w M a hsz (noready listed hsz hr) hs hc, fun i hi => ?_⟩
    obtain ⟨h0, o, ho, hall⟩ := mem_ready.1 hi
    have hlt := (Array.getElem?_eq_some_iff.1 ho).1
    rw [getD_listed (by omega) true false] at h0
    have e : (fun j => (listed.setIfInBounds i true).getD j false) = setL (fun j => listed.getD j false) i := by
      funext j
      unfold setL
      by_cases hji : j = i
      · subst hji; simp [hsz, hlt]
      · rw [if_neg hji, getD_set_ne false (fun h => hji h.symm)]
    refine draw_step hT hd hS hN hs hc hdc ho h0 hall fun st' w' M' a' hc' hs' => ?_
    refine ih (listed.setIfInBounds i true) st' w' M' a' (by simp [hsz]) ?_ ?_ (by rw [e]; exact hs') (by rw [e]; exact hc')
    · have h1 : listed.toList[i]? = some false := by
        rw [Array.getD_eq_getD_getElem?, Array.getElem?_eq_getElem (by omega : i < listed.size)] at h0
        simp only [Option.getD_some] at h0
        rw [Array.getElem?_toList, Array.getElem?_eq_getElem (by omega : i < listed.size), h0]
      rw [Array.toList_setIfInBounds]
      have hl : i < listed.toList.length := by simp; omega
      have h2 : listed.toList[i] = false := (List.getElem?_eq_some_iff.1 h1).2
      have h3 : 0 < listed.toList.count false := List.count_pos_iff.2 (h2 ▸ List.getElem_mem hl)
      rw [List.count_set hl, h2]
      simp
      have h4 : Array.count false listed = listed.toList.count false := by simp
      omega
    · intro j oj hj hL e' he' hb
      by_cases hji : j = i
      · subst hji
        rw [ho] at hj
        cases hj
        exact getD_set_true (hall e' he' hb)
      · rw [getD_set_ne false (fun h => hji h.symm)] at hL
        exact getD_set_true (hdc j oj hj hL e' he' hb)
end
theorem dsound (C : Cfg) (hm : C.P.follows .mixedOrders = true) (hT : ∀ t d, C.T t = some d → TyFits C.P t d) : DSound C (drawV C) := by
  intro N w0 M0 σ0 Φ ops K st w M a id Q hΦ hV hN hs hK
  obtain ⟨W, B, fl, hd, hV⟩ := hV
  obtain ⟨S, h0, hS, hKS⟩ := opsDV_trace _ _ _ hV
  replace hS : ∀ i o, ops[i]? = some o → Step C W (fun d => (st.loc d).length) ops (fl.getD i false) o (S i) (S (i + 1)) := fun i o hi => hS i o (by simpa using hi)
  replace hKS : K (S ops.size) := by simpa using hKS
  refine wp_region_any hm ?_
  have hgrow : Grow w M { w with drawn := w.drawn + 1 } M := ⟨rfl, rfl, rfl, Nat.le_refl _, fun _ _ => rfl, fun _ _ => rfl, hs.base.prot, rfl, rfl⟩
  have hlist : ∀ i, (Array.replicate ops.size false).getD i false = false := by
    intro i
    rw [Array.getD_eq_getD_getElem?, Array.getElem?_replicate]
    split <;> rfl
  have hs1 := (hs.grow hgrow).junk (Φ' := Todo ops (fun d => (st.loc d).length) fun i => (Array.replicate ops.size false).getD i false) (reserve C ops.toList st.loc) (fun t v cs h => reserve_mono _ _ _ _ _ h) (fun t v h => by
    obtain ⟨h1, _⟩ := Todo_iff.1 h
    omega)
  refine draw_any hT hd hS hN ?_ ops.size _ _ _ M a (by simp) (by
    have := List.count_le_length (a := false) (l := (Array.replicate ops.size false).toList)
    simp) (fun i o _ h => by rw [hlist] at h; cases h) hs1 ?_
  · intro st' w' M' a' hc hs'
    have e : st' = S ops.size := by
      obtain ⟨k, hk, hmm, hke⟩ := hc.mem
      have hmem : SameM (S ops.size) st' := by
        refine (chain_mem hS hk (Nat.le_refl _) fun j o h1 h2 hj => ?_).symm.trans hmm
        cases he : isEff o with
        | false => rfl
        | true =>
          have := (hke j o hj he).1 (decide_eq_true h2)
          omega
      have henv : st'.env = (S ops.size).env := by
        funext t
        by_cases hw : ∃ (j : Nat) (oj : Oper), ops[j]? = some oj ∧ oj.dst = some t
        · obtain ⟨j, oj, hj, hdst⟩ := hw
          have hlt := (Array.getElem?_eq_some_iff.1 hj).1
          rw [hc.env1 t j oj hj hdst (decide_eq_true hlt)]
          exact (chain_env hS hlt (Nat.le_refl _) fun j' o' h1 h2 hj' hd' => by have := dst_ne hd hj' hj hd' hdst; omega).symm
        · rw [hc.env0 t fun j o hj hdst => absurd ⟨j, o, hj, hdst⟩ hw]
          exact (chain_env hS (Nat.zero_le _) (Nat.le_refl _) fun j' o' h1 h2 hj' hd' => hw ⟨j', o', hj', hd'⟩).symm
      have := St.eta (S ops.size) st' hmem
      rw [henv] at this
      exact this.symm
    rw [e] at hs'
    exact hK _ _ M' _ hKS (hs'.phi fun t v h => by rw [hΦ] at h; cases h)
  · refine ⟨fun t j o hj hdst hL => (by rw [hlist] at hL; cases hL), fun t _ => (by rw [h0]), 0, Nat.zero_le _, (by rw [h0]; exact ⟨rfl, rfl, rfl⟩), fun j o hj he => ?_⟩
    rw [hlist]
    simp
end Go.Proofs.YtnpgbkldpdogjaaGreatDoor.V

namespace Go.Proofs.YtnpgbkldpdogjaaGreatDoor.V
open Go
def valB : Value → Value → Bool
  | .int k a, .int k' b => k == k' && a == b
  | .bool a, .bool b => a == b
  | .string a, .string b => a.data == b.data
  | .slice none 0 0, .slice none 0 0 => true
  | .pointer none, .pointer none => true
  | .nilFunc, .nilFunc => true
  | _, _ => false
theorem valB_eq {a b : Value} (h : valB a b = true) : a = b := by
  unfold valB at h
  split at h
  · simp_all
  · simp_all
  · rename_i x y
    cases x; cases y
    simp at h
    rw [h]
  all_goals simp_all
def valsB : List Value → List Value → Bool
  | [], [] => true
  | a :: as, b :: bs => valB a b && valsB as bs
  | _, _ => false
theorem valsB_eq : ∀ {as bs : List Value}, valsB as bs = true → as = bs
  | [], [], _ => rfl
  | a :: as, b :: bs, h => by
    simp only [valsB, Bool.and_eq_true] at h
    rw [valB_eq h.1, valsB_eq h.2]
  | [], _ :: _, h => by simp [valsB] at h
  | _ :: _, [], h => by simp [valsB] at h
def fieldsB (P : Program) : List Field → List (Nat × Nat) → Bool
  | [], [] => true
  | f :: fa, p :: fs => (f.offset == p.1 && match P.info? f.type with
    | some g => g.size == p.2
    | none => false) && fieldsB P fa fs
  | _, _ => false
theorem fieldsB_spec {P : Program} : ∀ {fa : List Field} {fs : List (Nat × Nat)}, fieldsB P fa fs = true → fa.length = fs.length ∧ ∀ (j : Nat) (p : Nat × Nat), fs[j]? = some p → ∃ (f : Field) (g : TypeInfo), fa[j]? = some f ∧ f.offset = p.1 ∧ P.info? f.type = some g ∧ g.size = p.2
  | [], [], _ => ⟨rfl, fun j p h => by simp at h⟩
  | f :: fa, p :: fs, h => by
    simp only [fieldsB, Bool.and_eq_true] at h
    obtain ⟨⟨h1, h2⟩, h3⟩ := h
    obtain ⟨e1, e2⟩ := fieldsB_spec h3
    refine ⟨by simp [e1], fun j q hq => ?_⟩
    cases j with
    | zero =>
      simp at hq
      subst hq
      split at h2
      · rename_i g hg
        exact ⟨f, g, rfl, by simpa using h1, hg, by simpa using h2⟩
      · cases h2
    | succ j => exact e2 j q (by simpa using hq)
  | [], _ :: _, h => by simp [fieldsB] at h
  | _ :: _, [], h => by simp [fieldsB] at h
def kindB (P : Program) : TyK → TypeDesc → Bool
  | .bool, .bool => true
  | .struct fs, .struct fa => fieldsB P fa.toList fs
  | .slice e, .slice e' => e == e'
  | .array n e, .array n' e' => n == n' && e == e'
  | .other, .struct _ => false
  | .other, .array _ _ => false
  | .other, _ => true
  | _, _ => false
def zeroB (d : TyD) : Value → Bool
  | .agg vs => d.isAgg && valsB vs.toList (d.zero.map zval)
  | v => !d.isAgg && valB v (zval (d.zero.headD .nilp))
def fitB (P : Program) (t : TypeId) (d : TyD) : Bool :=
  match P.info? t, P.underlying t with
  | some i, some u => i.size == d.size && (i.bytes == d.bytes && (d.zero.length == d.size && (d.zero.all zeroOk && ((match i.zero with
    | some z => zeroB d z
    | none => false) && ((d.isAgg || d.size == 1) && kindB P d.k u)))))
  | _, _ => false
theorem fitB_fits {P : Program} {t : TypeId} {d : TyD} (h : fitB P t d = true) : TyFits P t d := by
  unfold fitB at h
  split at h
  · rename_i i u hi hu
    simp only [Bool.and_eq_true] at h
    obtain ⟨h1, h2, h3, h4, h5, h6, h7⟩ := h
    refine ⟨i, u, hi, hu, by simpa using h1, by simpa using h2, by simpa using h3, h4, ?_, fun e => by rw [e] at h6; simpa using h6, ?_⟩
    · split at h5
      · rename_i z hz
        rw [hz]
        unfold zeroB at h5
        split at h5
        · rename_i vs
          simp only [Bool.and_eq_true] at h5
          rw [if_pos h5.1, ← valsB_eq h5.2]
        · simp only [Bool.and_eq_true, Bool.not_eq_true'] at h5
          rw [if_neg (by rw [h5.1]; simp), valB_eq h5.2]
      · cases h5
    · unfold kindB at h7
      split at h7 <;> rename_i hk
      · rw [hk]
      · rw [hk]
        obtain ⟨e1, e2⟩ := fieldsB_spec h7
        exact ⟨_, rfl, by simpa using e1, fun j p hj => by simpa using e2 j p hj⟩
      · rw [hk]
        have e := eq_of_beq h7
        subst e; rfl
      · rw [hk]
        simp only [Bool.and_eq_true] at h7
        have e := eq_of_beq h7.1
        have e' := eq_of_beq h7.2
        subst e; subst e'; rfl
      · cases h7
      · cases h7
      · rename_i heq hs
        rw [heq]
        exact ⟨fun fs e => hs fs e, fun n e' e => hk n e' e⟩
      · cases h7
  · cases h
end Go.Proofs.YtnpgbkldpdogjaaGreatDoor.V

namespace Go.Proofs.YtnpgbkldpdogjaaGreatDoor.V
open Go
inductive SG where
  | always
  | tmp (t : Nat) (want : Bool)
  | bad
structure SOp where
  dst : Option Nat
  op : Op
  ty : TypeId
  guard : SG
inductive SC where
  | skip
  | ops (l : List SOp) (keep : List Nat)
  | draw (l : List SOp) (fl : List Bool) (keep : List Nat)
  | seq (a b : SC)
  | cond (c : Operand) (a b : SC)
  | block (id : Nat) (c : SC)
  | loop (c : SC)
  | exit (id : Nat)
  | ret
  | bad
structure Ann where
  keep : List Nat
  bef : List Nat
  free : List Bool
def strip1 (ops : Array Oper) (o : Oper) : SOp := ⟨o.dst, o.op, o.type, match o.guard with
  | none => .always
  | some (j, want) => match ops[j]? with
    | some oj => match oj.dst with
      | some t => .tmp t want
      | none => .bad
    | none => .bad⟩
def strip (ann : List Ann) : Code → SC
  | .skip => .skip
  | .region id ops draw => match ann[id]? with
    | some a => if draw then .draw (ops.toList.map (strip1 ops)) a.free a.keep else .ops (ops.toList.map (strip1 ops)) a.keep
    | none => .bad
  | .seq a b => .seq (strip ann a) (strip ann b)
  | .cond c a b => .cond c (strip ann a) (strip ann b)
  | .block id c => .block id (strip ann c)
  | .loop c => .loop (strip ann c)
  | .exit id => .exit id
  | .ret => .ret
  | _ => .bad
def drawsOk (ann : List Ann) : Code → Bool
  | .region id ops draw => match ann[id]? with
    | some a => !draw || drawOk ops a.bef a.free
    | none => true
  | .seq a b => drawsOk ann a && drawsOk ann b
  | .cond _ a b => drawsOk ann a && drawsOk ann b
  | .block _ c => drawsOk ann c
  | .loop c => drawsOk ann c
  | _ => true
def SOp.oper (s : SOp) : Oper := ⟨s.dst, s.op, s.ty, "", #[], none⟩
def mkE (l : List (Nat × PV)) : Nat → PV := fun t => match l with
  | [] => .undef
  | (k, v) :: rest => if t = k then v else mkE rest t
def keepE (st : St) (ks : List Nat) : St := { st with env := mkE (ks.map fun k => (k, st.env k)) }
def guardS (s : SOp) (st : St) (run skip : Prop) : Prop := match s.guard with
  | .always => run
  | .tmp t want => ∃ b, gB (st.env t) = some b ∧ if b = some want then run else skip
  | .bad => False
def opsS (C : Cfg) (K : St → Prop) : List SOp → St → Prop
  | [], st => K st
  | s :: rest, st => guardS s st (opV C s.oper (opsS C K rest) st) (opsS C K rest (put st s.dst .gone))
def opsSD (C : Cfg) (W : Nat → Nat → Nat → Bool) (vs : Nat → Nat) (K : St → Prop) : List Bool → List SOp → St → Prop
  | _, [], st => K st
  | fr :: fs, s :: rest, st => guardS s st (stepD C W vs fr s.oper (opsSD C W vs K fs rest) st) (opsSD C W vs K fs rest (put st s.dst .gone))
  | [], _ :: _, _ => False
def wpS (C : Cfg) : SC → (Ex → St → Prop) → St → Prop
  | .skip, Q, st => Q .normal st
  | .ops l keep, Q, st => opsS C (fun s => Q .normal (keepE s keep)) l st
  | .draw l fl keep, Q, st => ∃ W, opsSD C W (fun d => (st.loc d).length) (fun s => Q .normal (keepE s keep)) fl l { st with loc := reserve C (l.map SOp.oper) st.loc }
  | .seq a b, Q, st => wpS C a (fun e s => match e with
    | .normal => wpS C b Q s
    | e => Q e s) st
  | .cond c a b, Q, st => ∃ t, oper C st.env c = .one (.bool t) ∧ (if t then wpS C a Q st else wpS C b Q st)
  | .block id c, Q, st => wpS C c (blockEx id Q) st
  | .exit id, Q, st => Q (.exit id) st
  | .ret, Q, st => Q .ret st
  | .loop b, Q, st => ∀ I : St → Prop, (∀ s, wpS C b (fun e s' => match e with
      | .normal => I s'
      | e => Q e s') s → I s) → I st
  | .bad, _, _ => False
theorem guard_strip {ops : Array Oper} {o : Oper} {st : St} {run skip : Prop} (h : guardS (strip1 ops o) st run skip) : guardV ops o st run skip := by
  unfold guardS strip1 at h
  unfold guardV
  cases hg : o.guard with
  | none => rw [hg] at h; exact h
  | some g =>
    obtain ⟨j, want⟩ := g
    rw [hg] at h
    simp only at h ⊢
    cases hj : ops[j]? with
    | none => rw [hj] at h; exact h.elim
    | some oj =>
      rw [hj] at h
      simp only at h
      cases hd : oj.dst with
      | none => rw [hd] at h; exact h.elim
      | some t =>
        rw [hd] at h
        obtain ⟨b, h1, h2⟩ := h
        exact ⟨oj, t, b, rfl, hd, h1, h2⟩
theorem guardV_imp {ops : Array Oper} {o : Oper} {st : St} {run skip run' skip' : Prop} (h1 : run → run') (h2 : skip → skip') (h : guardV ops o st run skip) : guardV ops o st run' skip' := by
  unfold guardV at *
  split
  · rename_i hg; rw [hg] at h; exact h1 h
  · rename_i j want hg
    rw [hg] at h
    obtain ⟨oj, t, b, k1, k2, k3, k4⟩ := h
    refine ⟨oj, t, b, k1, k2, k3, ?_⟩
    split at k4
    · rename_i hb; rw [if_pos hb]; exact h1 k4
    · rename_i hb; rw [if_neg hb]; exact h2 k4
theorem guardS_imp {s : SOp} {st : St} {run skip run' skip' : Prop} (h1 : run → run') (h2 : skip → skip') (h : guardS s st run skip) : guardS s st run' skip' := by
  unfold guardS at *
  split
  · rename_i hg; rw [hg] at h; exact h1 h
  · rename_i t want hg
    rw [hg] at h
    obtain ⟨b, k3, k4⟩ := h
    refine ⟨b, k3, ?_⟩
    split at k4
    · rename_i hb; rw [if_pos hb]; exact h1 k4
    · rename_i hb; rw [if_neg hb]; exact h2 k4
  · rename_i hg; rw [hg] at h; exact h
theorem stepD_mono {C : Cfg} {W : Nat → Nat → Nat → Bool} {vs : Nat → Nat} {fr : Bool} {o : Oper} {K K' : St → Prop} {st : St} (hi : ∀ x, K x → K' x) (h : stepD C W vs fr o K st) : stepD C W vs fr o K' st := by
  unfold stepD at *
  split
  · rename_i t ho
    rw [ho] at h
    obtain ⟨d, dst, h1, h2, h3, h4, h5⟩ := h
    exact ⟨d, dst, h1, h2, h3, h4, hi _ h5⟩
  · rename_i t x ho
    rw [ho] at h
    exact ⟨h.1, opV_mono hi h.2⟩
  · rename_i h1 h2
    split at h
    · rename_i ho; exact absurd ho (h1 _)
    · rename_i ho; exact absurd ho (h2 _ _)
    · exact opV_mono (fun x hx => ⟨hx.1, hi _ hx.2⟩) h
theorem opsS_strip {C : Cfg} {ops : Array Oper} {K : St → Prop} : ∀ (l : List Oper) (st : St), opsS C K (l.map (strip1 ops)) st → opsV C ops K l st
  | [], _, h => h
  | _ :: l, _, h => guardV_imp (opV_mono fun s hs => opsS_strip l s hs) (fun hs => opsS_strip l _ hs) (guard_strip h)
theorem opsSD_strip {C : Cfg} {W : Nat → Nat → Nat → Bool} {vs : Nat → Nat} {ops : Array Oper} {K : St → Prop} : ∀ (l : List Oper) (fl : List Bool) (st : St), opsSD C W vs K fl (l.map (strip1 ops)) st → opsDV C W vs ops K fl l st
  | [], _, _, h => by simpa [opsSD, opsDV] using h
  | _ :: _, [], _, h => by simp [opsSD] at h
  | o :: l, _ :: fl, st, h => by
    simp only [List.map_cons, opsSD] at h
    simp only [opsDV]
    exact guardV_imp (stepD_mono fun s hs => opsSD_strip l fl s hs) (fun hs => opsSD_strip l fl _ hs) (guard_strip h)
theorem reserve_strip {C : Cfg} {ops : Array Oper} : ∀ (l : List Oper) (f : Frm), reserve C ((l.map (strip1 ops)).map SOp.oper) f = reserve C l f
  | [], _ => rfl
  | o :: l, f => by
    simp only [List.map_cons, reserve]
    simp only [reserve_strip l]
    try rfl
theorem Sim.keep {C : Cfg} {N : Nat} {w0 w : World} {M0 M : Map} {σ0 : List Frm} {Φ : Nat → Nat → Bool} {st : St} {a : Act} (h : Sim C N w0 M0 σ0 Φ st w M a) (ks : List Nat) : Sim C N w0 M0 σ0 Φ (keepE st ks) w M a := by
  have key : ∀ (ks : List Nat) (t : Nat), (mkE (ks.map fun k => (k, st.env k)) t = st.env t) ∨ (mkE (ks.map fun k => (k, st.env k)) t = .undef) := by
    intro ks t
    induction ks with
    | nil => exact .inr rfl
    | cons k ks ih =>
      simp only [List.map_cons, mkE]
      split
      · rename_i e; exact .inl (by rw [e])
      · exact ih
  refine ⟨h.keeps, h.base, h.boxes0, h.box0, h.newbox, h.tipsO, h.phan, h.size, h.defers, fun t => ?_, fun t => ?_, h.tipsL, h.own, h.live, h.uniq⟩
  · rcases key ks t with e | e
    · show RepV w M (mkE _ t) _; rw [e]; exact h.tmps t
    · show RepV w M (mkE _ t) _; rw [e]; exact .undef _
  · rcases key ks t with e | e
    · show TipV w M st.live (mkE _ t) _; rw [e]; exact h.tipsT t
    · show TipV w M st.live (mkE _ t) _; rw [e]; trivial
section
variable {C : Cfg} {N : Nat} {w0 : World} {M0 : Map} {σ0 : List Frm} {Φ : Nat → Nat → Bool}
theorem sim_sc (hΦ : ∀ t v, Φ t v = false) (hm : C.P.follows .mixedOrders = true) (hT : ∀ t d, C.T t = some d → TyFits C.P t d) (ann : List Ann) : ∀ (c : Code) (Q : Ex → St → Prop) (st : St) (w : World) (M : Map) (a : Act), codeOk N c = true → drawsOk ann c = true → Sim C N w0 M0 σ0 Φ st w M a → wpS C (strip ann c) Q st → c.wp C.P (Ends C N w0 M0 σ0 Φ Q) a w := by
  intro c
  induction c with
  | skip => exact fun Q st w M a _ _ hs hV => wp_skip ⟨.normal, st, M, rfl, hV, hs⟩
  | region id ops draw =>
    intro Q st w M a hok hdok hs hV
    simp only [strip] at hV
    simp only [drawsOk] at hdok
    cases ha : ann[id]? with
    | none => rw [ha] at hV; exact hV.elim
    | some an =>
      rw [ha] at hV hdok
      cases draw with
      | true =>
        simp only [if_true, wpS] at hV
        obtain ⟨W, hV⟩ := hV
        rw [reserve_strip] at hV
        exact dsound C hm hT N w0 M0 σ0 Φ ops _ st w M a id _ hΦ ⟨W, an.bef, an.free, by simpa using hdok, opsSD_strip _ _ _ hV⟩ hok hs fun st' w' M' a' hk hs' => ⟨.normal, _, M', rfl, hk, hs'.keep _⟩
      | false =>
        simp only [Bool.false_eq_true, if_false, wpS] at hV
        exact wp_region (sim_ops hΦ hT ops (fun st' w' M' a' hk hs' => ⟨.normal, _, M', rfl, hk, hs'.keep _⟩) ops.toList (List.range ops.size) st w M a (range_map ops) (opsDst_mem hok) hs (opsS_strip _ _ hV))
  | seq x y ihx ihy =>
    intro Q st w M a hok hdok hs hV
    simp only [codeOk, drawsOk, Bool.and_eq_true] at hok hdok
    simp only [strip, wpS] at hV
    refine wp_seq (wp_mono (ihx _ st w M a hok.1 hdok.1 hs hV) ?_)
    rintro e a' w' ⟨ex, st', M', rfl, hq, hs'⟩
    cases ex with
    | normal => exact ihy Q st' w' M' a' hok.2 hdok.2 hs' hq
    | exit id => exact ⟨.exit id, st', M', rfl, hq, hs'⟩
    | ret => exact ⟨.ret, st', M', rfl, hq, hs'⟩
  | cond c x y ihx ihy =>
    intro Q st w M a hok hdok hs hV
    simp only [codeOk, drawsOk, Bool.and_eq_true] at hok hdok
    simp only [strip, wpS] at hV
    obtain ⟨t, hc, hV⟩ := hV
    have hv := (hs.eval c).1
    rw [hc] at hv
    refine wp_cond (t := t) (rep_bool hv) ?_
    cases t with
    | true => exact ihx Q st w M a hok.1 hdok.1 hs (by simpa using hV)
    | false => exact ihy Q st w M a hok.2 hdok.2 hs (by simpa using hV)
  | block id c ih =>
    intro Q st w M a hok hdok hs hV
    simp only [codeOk, drawsOk] at hok hdok
    simp only [strip, wpS] at hV
    refine wp_block (wp_mono (ih _ st w M a hok hdok hs hV) ?_)
    rintro e a' w' ⟨ex, st', M', rfl, hq, hs'⟩
    cases ex with
    | normal => exact ⟨.normal, st', M', rfl, hq, hs'⟩
    | exit i =>
      simp only [blockEx] at hq
      simp only [toExit, Exit.inBlock]
      split
      · rename_i h
        rw [if_pos h] at hq
        exact ⟨.normal, st', M', rfl, hq, hs'⟩
      · rename_i h
        rw [if_neg h] at hq
        exact ⟨.exit i, st', M', rfl, hq, hs'⟩
    | ret => exact ⟨.ret, st', M', rfl, hq, hs'⟩
  | loop c ih =>
    intro Q st w M a hok hdok hs hV
    simp only [codeOk, drawsOk] at hok hdok
    simp only [strip, wpS] at hV
    have key := hV (fun s => ∀ w M a, Sim C N w0 M0 σ0 Φ s w M a → ∀ (b : Frame) (k : List Item) (cs : List Frame),
      ∃ e a' w', Ends C N w0 M0 σ0 Φ Q e a' w' ∧ Arrives C.P (lone (b.at a (.code c :: .inLoop c :: k)) cs w) b k cs e a' w') ?_
    · intro b k cs
      obtain ⟨e, a', w', hq, harr⟩ := key w M a hs b k cs
      exact ⟨e, a', w', hq, .of_steps (.one step_loop) harr⟩
    · intro s hbody w M a hs b k cs
      obtain ⟨e, a₁, w₁, ⟨ex, st', M', rfl, hq, hs'⟩, harr⟩ := ih _ s w M a hok hdok hs hbody b (.inLoop c :: k) cs
      cases ex with
      | normal =>
        obtain ⟨e₂, a₂, w₂, hq₂, harr₂⟩ := hq w₁ M' a₁ hs' b k cs
        exact ⟨e₂, a₂, w₂, hq₂, .of_steps (Steps.trans harr (.one step_inLoop)) harr₂⟩
      | exit id => exact ⟨.exit id, a₁, w₁, ⟨.exit id, st', M', rfl, hq, hs'⟩, .pass (x := .inLoop c) rfl (fun _ _ => .inl (by simp)) harr⟩
      | ret => exact ⟨.ret, a₁, w₁, ⟨.ret, st', M', rfl, hq, hs'⟩, .pass (x := .inLoop c) rfl (fun _ _ => .inl (by simp)) harr⟩
  | exit id => exact fun Q st w M a _ _ hs hV => wp_exit ⟨.exit id, st, M, rfl, hV, hs⟩
  | ret => exact fun Q st w M a _ _ hs hV => wp_ret ⟨.ret, st, M, rfl, hV, hs⟩
  | rangeFunc => intro Q st w M a _ _ _ hV; exact hV.elim
  | scope => intro Q st w M a _ _ _ hV; exact hV.elim
  | label => intro Q st w M a _ _ _ hV; exact hV.elim
  | goto => intro Q st w M a _ _ _ hV; exact hV.elim
  | refuse => intro Q st w M a _ _ _ hV; exact hV.elim
def QEnd (C : Cfg) (rs : List ResultVar) (σ' : List Frm) (r : Ret) (ex : Ex) (st : St) : Prop := match ex with
  | .exit _ => False
  | _ => ∃ ps, resAll C st rs ps ∧ st.σ = σ' ∧ endOk st (resPV ps) r
theorem callsV_of_sc (hm : C.P.follows .mixedOrders = true) (hT : ∀ t d, C.T t = some d → TyFits C.P t d) (ann : List Ann) {f : FuncId} {fn : Func} {c : Code} {sc : SC} {args : List PV} {σ σ' : List Frm} {r : Ret} (hf : C.P.funcs[f]? = some fn) (hb : fn.body = some c)
    (hname : (fn.name == "runtime.NumGoroutine") = false) (hok : codeOk fn.ntmps c = true) (hd : drawsOk ann c = true) (hsc : strip ann c = sc) (rs : List ResultVar) (hrs : fn.results.toList = rs) (hr : ∀ p, r = .val p → erV p = p)
    (h : wpS C sc (QEnd C rs σ' r) ⟨initEnv args, fun _ => [], σ, ⟨fun _ => false, 0⟩⟩) : CallsV C f args σ r σ' := by
  subst hsc hrs
  exact callsV_of_sim hT hf hb hname hok hr fun N w0 M0 σ0 w M a hok' hs => sim_sc (fun _ _ => rfl) hm hT ann c _ _ w M a hok' hd hs h
theorem opsS_mono {K K' : St → Prop} (hi : ∀ s, K s → K' s) : ∀ (l : List SOp) (st : St), opsS C K l st → opsS C K' l st
  | [], _, h => hi _ h
  | _ :: l, _, h => guardS_imp (opV_mono fun s hs => opsS_mono hi l s hs) (fun hs => opsS_mono hi l _ hs) h
theorem opsSD_mono {W : Nat → Nat → Nat → Bool} {vs : Nat → Nat} {K K' : St → Prop} (hi : ∀ s, K s → K' s) : ∀ (l : List SOp) (fl : List Bool) (st : St), opsSD C W vs K fl l st → opsSD C W vs K' fl l st
  | [], _, _, h => by simp only [opsSD] at h ⊢; exact hi _ h
  | _ :: _, [], _, h => by simp [opsSD] at h
  | _ :: l, _ :: fl, _, h => by
    simp only [opsSD] at h ⊢
    exact guardS_imp (stepD_mono fun s hs => opsSD_mono hi l fl s hs) (fun hs => opsSD_mono hi l fl _ hs) h
theorem wpS_mono : ∀ (c : SC) {Q Q' : Ex → St → Prop} {st : St}, (∀ e s, Q e s → Q' e s) → wpS C c Q st → wpS C c Q' st := by
  intro c
  induction c with
  | skip => exact fun hi h => hi _ _ h
  | ops l keep => exact fun hi h => opsS_mono (fun s hs => hi _ _ hs) l _ h
  | draw l fl keep => exact fun hi ⟨W, h⟩ => ⟨W, opsSD_mono (fun s hs => hi _ _ hs) l fl _ h⟩
  | seq a b iha ihb =>
    intro Q Q' st hi h
    refine iha (fun e s hs => ?_) h
    cases e with
    | normal => exact ihb hi hs
    | exit id => exact hi _ _ hs
    | ret => exact hi _ _ hs
  | cond c a b iha ihb =>
    intro Q Q' st hi h
    obtain ⟨t, h1, h2⟩ := h
    refine ⟨t, h1, ?_⟩
    cases t with
    | true => exact iha hi h2
    | false => exact ihb hi h2
  | block id c ih =>
    intro Q Q' st hi h
    refine ih (fun e s hs => ?_) h
    cases e with
    | normal => exact hi _ _ hs
    | ret => exact hi _ _ hs
    | exit i =>
      simp only [blockEx] at hs ⊢
      split at hs
      · rename_i e; rw [if_pos e]; exact hi _ _ hs
      · rename_i e; rw [if_neg e]; exact hi _ _ hs
  | loop c ih =>
    intro Q Q' st hi h I hI
    refine h I fun s hs => hI s (ih (fun e s' hs' => ?_) hs)
    cases e with
    | normal => exact hs'
    | exit id => exact hi _ _ hs'
    | ret => exact hi _ _ hs'
  | exit id => exact fun hi h => hi _ _ h
  | ret => exact fun hi h => hi _ _ h
  | bad => exact fun _ h => h
theorem wpS_loop (I : Nat → St → Prop) (n : Nat) {c : SC} {Q : Ex → St → Prop} {st : St} (h0 : I n st) (hI : ∀ m s, I m s → wpS C c (fun e s' => match e with
      | .normal => ∃ k, k < m ∧ I k s'
      | e => Q e s') s) : wpS C (.loop c) Q st := by
  intro J hJ
  have key : ∀ m s, I m s → J s := by
    intro m
    induction m using Nat.strongRecOn with
    | ind m ih =>
      intro s hs
      refine hJ s (wpS_mono c (fun e s' he => ?_) (hI m s hs))
      cases e with
      | normal =>
        obtain ⟨k, hk, h⟩ := he
        exact ih k hk s' h
      | exit id => exact he
      | ret => exact he
  exact key n st h0
end
end Go.Proofs.YtnpgbkldpdogjaaGreatDoor.V

namespace Go.Proofs.YtnpgbkldpdogjaaGreatDoor.V
open Go
def zeroC (P : Program) : Nat → TypeId → List Cell
  | 0, _ => []
  | n + 1, t => match P.underlying t with
    | some (.struct fa) => fa.toList.flatMap fun f => zeroC P n f.type
    | some (.array len e) => (List.replicate len (zeroC P n e)).flatten
    | some (.slice e) => [.slice .full (match P.info? e with
      | some i => i.size
      | none => 0) []]
    | _ => match P.info? t with
      | some i => match i.zero with
        | some v => [constC v]
        | none => []
      | none => []
def tyD (P : Program) (t : TypeId) : TyD :=
  ⟨match P.underlying t with
    | some .bool => .bool
    | some (.struct fa) => .struct (fa.toList.map fun f => (f.offset, match P.info? f.type with
      | some i => i.size
      | none => 0))
    | some (.slice e) => .slice e
    | some (.array n e) => .array n e
    | _ => .other,
   match P.info? t with
    | some i => i.size
    | none => 0,
   match P.info? t with
    | some i => i.bytes
    | none => 0,
   zeroC P 8 t⟩
def tyOf (P : Program) (t : TypeId) : Option TyD := if fitB P t (tyD P t) then some (tyD P t) else none
theorem tyOf_fits {P : Program} {t : TypeId} {d : TyD} (h : tyOf P t = some d) : TyFits P t d := by
  unfold tyOf at h
  split at h
  · rename_i hf
    cases h
    exact fitB_fits hf
  · cases h
end Go.Proofs.YtnpgbkldpdogjaaGreatDoor.V
