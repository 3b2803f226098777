/-
Parts of the proof of one law, put together by program: part 3.
-/
import Derived.Test.YtbcejphjmghkbaaDoorKB2
set_option linter.unusedSimpArgs false
set_option linter.unusedVariables false

set_option maxRecDepth 100000
namespace Go.Proofs.YtbcejphjmghkbaaDoor.V
open Go Go.Proofs
noncomputable section
def a192 : List Ann := [⟨[1], [], []⟩,
 ⟨[1, 4], [], []⟩,
 ⟨[1, 4, 11], [], []⟩,
 ⟨[2, 3], [], []⟩,
 ⟨[1, 4, 11, 12], [], []⟩,
 ⟨[1, 4, 11, 12], [], []⟩,
 ⟨[1, 4, 11, 12], [], []⟩,
 ⟨[1, 11, 16], [], []⟩,
 ⟨[1, 16], [], []⟩,
 ⟨[1, 4], [], []⟩,
 ⟨[1, 23], [], []⟩,
 ⟨[2, 3], [], []⟩,
 ⟨[1, 5], [], []⟩,
 ⟨[5, 25, 26, 27], [], []⟩,
 ⟨[5, 25, 26, 27, 28], [], []⟩,
 ⟨[5, 7, 25, 26, 27], [], []⟩,
 ⟨[5, 8, 9, 25, 26, 27], [], []⟩,
 ⟨[5, 8, 25, 26, 27, 37], [], []⟩,
 ⟨[2, 3], [], []⟩,
 ⟨[5, 25, 26, 27], [], []⟩,
 ⟨[5, 25, 26, 27], [], []⟩,
 ⟨[2, 3], [], []⟩]
def s192 : SC := .seq (.ops [⟨some 1, .box 25 (.tmp 0), 0, .always⟩,
 ⟨some 2, .assign (.const (.int .i64 0)), 3, .always⟩,
 ⟨some 3, .assign (.const (.bool false)), 4, .always⟩] [1])
 (.seq (.ops [⟨some 4, .assign (.const (.int .i64 0)), 3, .always⟩] [1, 4])
 (.seq (.seq (.ops [⟨some 10, .fieldAddr 25 (.tmp 1) 0, 0, .always⟩,
 ⟨some 11, .load 3 (.tmp 10), 3, .always⟩] [1, 4, 11])
 (.block 0
 (.seq (.seq (.ops [⟨some 13, .binOp .eql 3 (.tmp 11) (.const (.int .i64 1)) 3, 4, .always⟩,
 ⟨some 12, .assign (.tmp 13), 4, .always⟩] [1, 4, 11, 12])
 (.cond (.tmp 12)
 (.skip)
 (.seq (.ops [⟨some 14, .binOp .eql 3 (.tmp 11) (.const (.int .i64 2)) 3, 4, .always⟩,
 ⟨some 12, .assign (.tmp 14), 4, .always⟩] [1, 4, 11, 12])
 (.cond (.tmp 12)
 (.skip)
 (.ops [⟨some 15, .binOp .eql 3 (.tmp 11) (.const (.int .i64 5)) 3, 4, .always⟩,
 ⟨some 12, .assign (.tmp 15), 4, .always⟩] [1, 4, 11, 12])))))
 (.cond (.tmp 12)
 (.skip)
 (.seq (.seq (.ops [⟨some 17, .binOp .eql 3 (.tmp 11) (.const (.int .i64 3)) 3, 4, .always⟩,
 ⟨some 16, .assign (.tmp 17), 4, .always⟩] [1, 11, 16])
 (.cond (.tmp 16)
 (.skip)
 (.ops [⟨some 18, .binOp .eql 3 (.tmp 11) (.const (.int .i64 4)) 3, 4, .always⟩,
 ⟨some 16, .assign (.tmp 18), 4, .always⟩] [1, 16])))
 (.cond (.tmp 16)
 (.ops [⟨some 4, .assign (.const (.int .i64 2)), 3, .always⟩] [1, 4])
 (.seq (.ops [⟨some 2, .assign (.const (.int .i64 0)), 3, .always⟩,
 ⟨some 3, .assign (.const (.bool false)), 4, .always⟩] [2, 3])
 (.ret))))))))
 (.seq (.seq (.ops [⟨some 19, .fieldAddr 25 (.tmp 1) 1, 0, .always⟩,
 ⟨some 20, .load 23 (.tmp 19), 23, .always⟩,
 ⟨some 21, .call { callee := .builtin .len, args := #[.tmp 20], argTypes := #[23] }, 3, .always⟩,
 ⟨some 22, .move (.tmp 4), 3, .always⟩,
 ⟨some 23, .binOp .neq 3 (.tmp 21) (.tmp 22) 3, 4, .always⟩] [1, 23])
 (.cond (.tmp 23)
 (.seq (.ops [⟨some 2, .assign (.const (.int .i64 0)), 3, .always⟩,
 ⟨some 3, .assign (.const (.bool false)), 4, .always⟩] [2, 3])
 (.ret))
 (.skip)))
 (.seq (.ops [⟨some 5, .assign (.const (.int .i64 1)), 3, .always⟩] [1, 5])
 (.seq (.seq (.ops [⟨some 24, .fieldAddr 25 (.tmp 1) 1, 0, .always⟩,
 ⟨some 25, .load 23 (.tmp 24), 23, .always⟩,
 ⟨some 26, .call { callee := .builtin .len, args := #[.tmp 25], argTypes := #[23] }, 3, .always⟩,
 ⟨some 27, .move (.const (.int .i64 0)), 3, .always⟩] [5, 25, 26, 27])
 (.block 1
 (.loop
 (.seq (.ops [⟨some 28, .binOp .lss 3 (.tmp 27) (.tmp 26) 3, 0, .always⟩] [5, 25, 26, 27, 28])
 (.seq (.cond (.tmp 28)
 (.skip)
 (.exit 1))
 (.seq (.block 2
 (.seq (.ops [⟨some 29, .indexAddr 23 (.tmp 25) (.tmp 27), 0, .always⟩,
 ⟨some 30, .load 25 (.tmp 29), 25, .always⟩,
 ⟨some 7, .alloc 25, 0, .always⟩,
 ⟨none, .store 25 (.tmp 7) (.tmp 30), 0, .always⟩] [5, 7, 25, 26, 27])
 (.seq (.ops [⟨some 32, .load 25 (.tmp 7), 25, .always⟩,
 ⟨some 33, .call { callee := .value (.func 192), args := #[.tmp 32], argTypes := #[25] }, 164, .always⟩,
 ⟨some 31, .move (.tmp 33), 164, .always⟩,
 ⟨some 34, .extract (.tmp 31) 0, 3, .always⟩,
 ⟨some 35, .extract (.tmp 31) 1, 4, .always⟩,
 ⟨some 8, .assign (.tmp 34), 3, .always⟩,
 ⟨some 9, .assign (.tmp 35), 4, .always⟩] [5, 8, 9, 25, 26, 27])
 (.seq (.seq (.ops [⟨some 36, .move (.tmp 9), 4, .always⟩,
 ⟨some 37, .unOp .not 4 (.tmp 36), 4, .always⟩] [5, 8, 25, 26, 27, 37])
 (.cond (.tmp 37)
 (.seq (.ops [⟨some 2, .assign (.const (.int .i64 0)), 3, .always⟩,
 ⟨some 3, .assign (.const (.bool false)), 4, .always⟩] [2, 3])
 (.ret))
 (.skip)))
 (.ops [⟨some 38, .move (.tmp 5), 3, .always⟩,
 ⟨some 39, .move (.tmp 8), 3, .always⟩,
 ⟨some 40, .binOp .add 3 (.tmp 38) (.tmp 39) 3, 3, .always⟩,
 ⟨some 5, .assign (.tmp 40), 3, .always⟩] [5, 25, 26, 27])))))
 (.ops [⟨some 41, .binOp .add 3 (.tmp 27) (.const (.int .i64 1)) 3, 3, .always⟩,
 ⟨some 27, .move (.tmp 41), 3, .always⟩] [5, 25, 26, 27])))))))
 (.seq (.ops [⟨some 42, .move (.tmp 5), 3, .always⟩,
 ⟨some 2, .assign (.tmp 42), 3, .always⟩,
 ⟨some 3, .assign (.const (.bool true)), 4, .always⟩] [2, 3])
 (.ret)))))))
theorem w192 {args : List PV} {σ σ' : List Frm} {r : Ret} (hr : ∀ p, r = .val p → erV p = p) (h : wpP cfg s192 (QEndP cfg [.tmp 2, .tmp 3] σ' r) ⟨initEnv args, fun _ => [], σ, ⟨fun _ => false, 0⟩⟩) : CallsV cfg 192 args σ r σ' :=
 callsV_of_p follows cfgT a192 (fn := Tryd.f192) (c := Tryd.f192.body.getD .skip) (by kernel_rfl) (by kernel_rfl) (by kernel_rfl) (by kernel_rfl) (by kernel_rfl) (sc := s192) (by kernel_rfl) [.tmp 2, .tmp 3] (by kernel_rfl) hr h
def a180 : List Ann := [⟨[1], [], []⟩,
 ⟨[4, 5], [], []⟩,
 ⟨[4, 11], [], []⟩,
 ⟨[2, 3], [], []⟩,
 ⟨[4, 14], [], []⟩,
 ⟨[2, 3], [], []⟩,
 ⟨[2, 3], [], []⟩]
def s180 : SC := .seq (.ops [⟨some 1, .box 25 (.tmp 0), 0, .always⟩,
 ⟨some 2, .assign (.const (.int .i64 0)), 3, .always⟩,
 ⟨some 3, .assign (.const (.int .i64 0)), 43, .always⟩] [1])
 (.seq (.ops [⟨some 7, .load 25 (.tmp 1), 25, .always⟩,
 ⟨some 8, .call { callee := .value (.func 192), args := #[.tmp 7], argTypes := #[25] }, 164, .always⟩,
 ⟨some 6, .move (.tmp 8), 164, .always⟩,
 ⟨some 9, .extract (.tmp 6) 0, 3, .always⟩,
 ⟨some 10, .extract (.tmp 6) 1, 4, .always⟩,
 ⟨some 4, .assign (.tmp 9), 3, .always⟩,
 ⟨some 5, .assign (.tmp 10), 4, .always⟩] [4, 5])
 (.seq (.block 0
 (.seq (.ops [⟨some 12, .move (.tmp 5), 4, .always⟩,
 ⟨some 13, .unOp .not 4 (.tmp 12), 4, .always⟩,
 ⟨some 11, .assign (.tmp 13), 4, .always⟩] [4, 11])
 (.cond (.tmp 11)
 (.seq (.ops [⟨some 2, .assign (.const (.int .i64 0)), 3, .always⟩,
 ⟨some 3, .assign (.const (.int .i64 2)), 43, .always⟩] [2, 3])
 (.ret))
 (.seq (.ops [⟨some 15, .move (.tmp 4), 3, .always⟩,
 ⟨some 16, .binOp .gtr 3 (.tmp 15) (.const (.int .i64 64)) 3, 4, .always⟩,
 ⟨some 14, .assign (.tmp 16), 4, .always⟩] [4, 14])
 (.cond (.tmp 14)
 (.seq (.ops [⟨some 2, .assign (.const (.int .i64 0)), 3, .always⟩,
 ⟨some 3, .assign (.const (.int .i64 4)), 43, .always⟩] [2, 3])
 (.ret))
 (.skip))))))
 (.seq (.ops [⟨some 17, .move (.tmp 4), 3, .always⟩,
 ⟨some 2, .assign (.tmp 17), 3, .always⟩,
 ⟨some 3, .assign (.const (.int .i64 0)), 43, .always⟩] [2, 3])
 (.ret))))
theorem w180 {args : List PV} {σ σ' : List Frm} {r : Ret} (hr : ∀ p, r = .val p → erV p = p) (h : wpP cfg s180 (QEndP cfg [.tmp 2, .tmp 3] σ' r) ⟨initEnv args, fun _ => [], σ, ⟨fun _ => false, 0⟩⟩) : CallsV cfg 180 args σ r σ' :=
 callsV_of_p follows cfgT a180 (fn := Tryd.f180) (c := Tryd.f180.body.getD .skip) (by kernel_rfl) (by kernel_rfl) (by kernel_rfl) (by kernel_rfl) (by kernel_rfl) (sc := s180) (by kernel_rfl) [.tmp 2, .tmp 3] (by kernel_rfl) hr h
def a187 : List Ann := [⟨[0], [], []⟩,
 ⟨[0, 9], [], []⟩,
 ⟨[2, 3], [], []⟩,
 ⟨[2, 3], [], []⟩]
def s187 : SC := .seq (.ops [⟨some 2, .assign (.const (.int .i64 0)), 3, .always⟩,
 ⟨some 3, .assign (.const (.bool false)), 4, .always⟩] [0])
 (.seq (.seq (.ops [⟨some 4, .move (.tmp 0), 3, .always⟩,
 ⟨some 5, .binOp .lss 3 (.tmp 4) (.const (.int .i64 1)) 3, 4, .always⟩,
 ⟨some 6, .move (.tmp 5), 4, .always⟩,
 ⟨some 7, .move (.tmp 0), 3, .tmp 6 false⟩,
 ⟨some 8, .binOp .geq 3 (.tmp 7) (.const (.int .i64 14)) 3, 4, .tmp 6 false⟩,
 ⟨some 9, .pick (.tmp 6) (.const (.bool true)) (.tmp 8), 4, .always⟩] [0, 9])
 (.cond (.tmp 9)
 (.seq (.ops [⟨some 2, .assign (.const (.int .i64 0)), 3, .always⟩,
 ⟨some 3, .assign (.const (.bool false)), 4, .always⟩] [2, 3])
 (.ret))
 (.skip)))
 (.seq (.ops [⟨some 10, .move (.tmp 0), 3, .always⟩,
 ⟨some 11, .indexAddr 186 (.global 0) (.tmp 10), 0, .always⟩,
 ⟨some 12, .load 3 (.tmp 11), 3, .always⟩,
 ⟨some 2, .assign (.tmp 12), 3, .always⟩,
 ⟨some 3, .assign (.const (.bool true)), 4, .always⟩] [2, 3])
 (.ret)))
theorem w187 {args : List PV} {σ σ' : List Frm} {r : Ret} (hr : ∀ p, r = .val p → erV p = p) (h : wpP cfg s187 (QEndP cfg [.tmp 2, .tmp 3] σ' r) ⟨initEnv args, fun _ => [], σ, ⟨fun _ => false, 0⟩⟩) : CallsV cfg 187 args σ r σ' :=
 callsV_of_p follows cfgT a187 (fn := Tryd.f187) (c := Tryd.f187.body.getD .skip) (by kernel_rfl) (by kernel_rfl) (by kernel_rfl) (by kernel_rfl) (by kernel_rfl) (sc := s187) (by kernel_rfl) [.tmp 2, .tmp 3] (by kernel_rfl) hr h
def a188 : List Ann := [⟨[0], [], []⟩,
 ⟨[2], [], []⟩]
def s188 : SC := .seq (.ops [⟨some 2, .assign (.const (.bool false)), 4, .always⟩] [0])
 (.seq (.ops [⟨some 3, .move (.tmp 0), 3, .always⟩,
 ⟨some 4, .binOp .eql 3 (.tmp 3) (.const (.int .i64 2)) 3, 4, .always⟩,
 ⟨some 5, .move (.tmp 4), 4, .always⟩,
 ⟨some 6, .move (.tmp 0), 3, .tmp 5 false⟩,
 ⟨some 7, .binOp .eql 3 (.tmp 6) (.const (.int .i64 6)) 3, 4, .tmp 5 false⟩,
 ⟨some 8, .pick (.tmp 5) (.const (.bool true)) (.tmp 7), 4, .always⟩,
 ⟨some 9, .move (.tmp 8), 4, .always⟩,
 ⟨some 10, .move (.tmp 0), 3, .tmp 9 false⟩,
 ⟨some 11, .binOp .eql 3 (.tmp 10) (.const (.int .i64 9)) 3, 4, .tmp 9 false⟩,
 ⟨some 12, .pick (.tmp 9) (.const (.bool true)) (.tmp 11), 4, .always⟩,
 ⟨some 2, .assign (.tmp 12), 4, .always⟩] [2])
 (.ret))
theorem w188 {args : List PV} {σ σ' : List Frm} {r : Ret} (hr : ∀ p, r = .val p → erV p = p) (h : wpP cfg s188 (QEndP cfg [.tmp 2] σ' r) ⟨initEnv args, fun _ => [], σ, ⟨fun _ => false, 0⟩⟩) : CallsV cfg 188 args σ r σ' :=
 callsV_of_p follows cfgT a188 (fn := Tryd.f188) (c := Tryd.f188.body.getD .skip) (by kernel_rfl) (by kernel_rfl) (by kernel_rfl) (by kernel_rfl) (by kernel_rfl) (sc := s188) (by kernel_rfl) [.tmp 2] (by kernel_rfl) hr h
def a189 : List Ann := [⟨[1], [], []⟩,
 ⟨[2], [], []⟩]
def s189 : SC := .seq (.ops [⟨some 1, .box 25 (.tmp 0), 0, .always⟩,
 ⟨some 2, .assign (.const (.bool false)), 4, .always⟩] [1])
 (.seq (.ops [⟨some 3, .fieldAddr 25 (.tmp 1) 0, 0, .always⟩,
 ⟨some 4, .load 3 (.tmp 3), 3, .always⟩,
 ⟨some 5, .binOp .eql 3 (.tmp 4) (.const (.int .i64 0)) 3, 4, .always⟩,
 ⟨some 6, .move (.tmp 5), 4, .always⟩,
 ⟨some 7, .fieldAddr 25 (.tmp 1) 1, 0, .tmp 6 true⟩,
 ⟨some 8, .load 23 (.tmp 7), 23, .tmp 6 true⟩,
 ⟨some 9, .call { callee := .builtin .len, args := #[.tmp 8], argTypes := #[23] }, 3, .tmp 6 true⟩,
 ⟨some 10, .binOp .eql 3 (.tmp 9) (.const (.int .i64 0)) 3, 4, .tmp 6 true⟩,
 ⟨some 11, .pick (.tmp 6) (.tmp 10) (.const (.bool false)), 4, .always⟩,
 ⟨some 2, .assign (.tmp 11), 4, .always⟩] [2])
 (.ret))
theorem w189 {args : List PV} {σ σ' : List Frm} {r : Ret} (hr : ∀ p, r = .val p → erV p = p) (h : wpP cfg s189 (QEndP cfg [.tmp 2] σ' r) ⟨initEnv args, fun _ => [], σ, ⟨fun _ => false, 0⟩⟩) : CallsV cfg 189 args σ r σ' :=
 callsV_of_p follows cfgT a189 (fn := Tryd.f189) (c := Tryd.f189.body.getD .skip) (by kernel_rfl) (by kernel_rfl) (by kernel_rfl) (by kernel_rfl) (by kernel_rfl) (sc := s189) (by kernel_rfl) [.tmp 2] (by kernel_rfl) hr h
def a171 : List Ann := [⟨[1], [], []⟩,
 ⟨[1, 4, 5], [], []⟩,
 ⟨[1, 42], [], []⟩,
 ⟨[2, 3], [], []⟩,
 ⟨[1, 45], [], []⟩,
 ⟨[1, 7], [], []⟩,
 ⟨[1, 53], [], []⟩,
 ⟨[2, 3], [], []⟩,
 ⟨[1, 57], [], []⟩,
 ⟨[2, 3], [], []⟩,
 ⟨[1, 8], [], []⟩,
 ⟨[8, 59, 60, 61], [], []⟩,
 ⟨[8, 59, 60, 61, 62], [], []⟩,
 ⟨[8, 10, 59, 60, 61], [], []⟩,
 ⟨[8, 11, 12, 59, 60, 61], [], []⟩,
 ⟨[8, 11, 59, 60, 61, 71], [], []⟩,
 ⟨[2, 3], [], []⟩,
 ⟨[8, 59, 60, 61], [], []⟩,
 ⟨[8, 59, 60, 61], [], []⟩,
 ⟨[2, 3], [], []⟩]
def s171 : SC := .seq (.ops [⟨some 1, .box 62 (.tmp 0), 0, .always⟩,
 ⟨some 2, .assign (.const (.int .i64 0)), 3, .always⟩,
 ⟨some 3, .assign (.const (.bool false)), 4, .always⟩] [1])
 (.seq (.ops [⟨some 14, .fieldAddr 62 (.tmp 1) 0, 0, .always⟩,
 ⟨some 15, .load 3 (.tmp 14), 3, .always⟩,
 ⟨some 16, .call { callee := .value (.func 187), args := #[.tmp 15], argTypes := #[3] }, 164, .always⟩,
 ⟨some 13, .move (.tmp 16), 164, .always⟩,
 ⟨some 17, .extract (.tmp 13) 0, 3, .always⟩,
 ⟨some 18, .extract (.tmp 13) 1, 4, .always⟩,
 ⟨some 4, .assign (.tmp 17), 3, .always⟩,
 ⟨some 5, .assign (.tmp 18), 4, .always⟩] [1, 4, 5])
 (.seq (.seq (.ops [⟨some 19, .move (.tmp 5), 4, .always⟩,
 ⟨some 20, .unOp .not 4 (.tmp 19), 4, .always⟩,
 ⟨some 21, .move (.tmp 20), 4, .always⟩,
 ⟨some 22, .fieldAddr 62 (.tmp 1) 3, 0, .tmp 21 false⟩,
 ⟨some 23, .load 26 (.tmp 22), 26, .tmp 21 false⟩,
 ⟨some 24, .call { callee := .builtin .len, args := #[.tmp 23], argTypes := #[26] }, 3, .tmp 21 false⟩,
 ⟨some 25, .move (.tmp 4), 3, .tmp 21 false⟩,
 ⟨some 26, .binOp .neq 3 (.tmp 24) (.tmp 25) 3, 4, .tmp 21 false⟩,
 ⟨some 27, .pick (.tmp 21) (.const (.bool true)) (.tmp 26), 4, .always⟩,
 ⟨some 28, .move (.tmp 27), 4, .always⟩,
 ⟨some 29, .fieldAddr 62 (.tmp 1) 1, 0, .tmp 28 false⟩,
 ⟨some 30, .load 3 (.tmp 29), 3, .tmp 28 false⟩,
 ⟨some 31, .binOp .lss 3 (.tmp 30) (.const (.int .i64 0)) 3, 4, .tmp 28 false⟩,
 ⟨some 32, .pick (.tmp 28) (.const (.bool true)) (.tmp 31), 4, .always⟩,
 ⟨some 33, .move (.tmp 32), 4, .always⟩,
 ⟨some 34, .fieldAddr 62 (.tmp 1) 1, 0, .tmp 33 false⟩,
 ⟨some 35, .load 3 (.tmp 34), 3, .tmp 33 false⟩,
 ⟨some 36, .binOp .neq 3 (.tmp 35) (.const (.int .i64 0)) 3, 4, .tmp 33 false⟩,
 ⟨some 37, .move (.tmp 36), 4, .tmp 33 false⟩,
 ⟨some 38, .fieldAddr 62 (.tmp 1) 0, 0, .tmp 37 true⟩,
 ⟨some 39, .load 3 (.tmp 38), 3, .tmp 37 true⟩,
 ⟨some 40, .binOp .neq 3 (.tmp 39) (.const (.int .i64 1)) 3, 4, .tmp 37 true⟩,
 ⟨some 41, .pick (.tmp 37) (.tmp 40) (.const (.bool false)), 4, .tmp 33 false⟩,
 ⟨some 42, .pick (.tmp 33) (.const (.bool true)) (.tmp 41), 4, .always⟩] [1, 42])
 (.cond (.tmp 42)
 (.seq (.ops [⟨some 2, .assign (.const (.int .i64 0)), 3, .always⟩,
 ⟨some 3, .assign (.const (.bool false)), 4, .always⟩] [2, 3])
 (.ret))
 (.skip)))
 (.seq (.seq (.ops [⟨some 43, .fieldAddr 62 (.tmp 1) 0, 0, .always⟩,
 ⟨some 44, .load 3 (.tmp 43), 3, .always⟩,
 ⟨some 45, .call { callee := .value (.func 188), args := #[.tmp 44], argTypes := #[3] }, 4, .always⟩] [1, 45])
 (.cond (.tmp 45)
 (.seq (.ops [⟨some 47, .fieldAddr 62 (.tmp 1) 2, 0, .always⟩,
 ⟨some 48, .load 25 (.tmp 47), 25, .always⟩,
 ⟨some 49, .call { callee := .value (.func 180), args := #[.tmp 48], argTypes := #[25] }, 141, .always⟩,
 ⟨some 46, .move (.tmp 49), 141, .always⟩,
 ⟨some 50, .extract (.tmp 46) 0, 3, .always⟩,
 ⟨some 51, .extract (.tmp 46) 1, 43, .always⟩,
 ⟨some 6, .assign (.tmp 50), 3, .always⟩,
 ⟨some 7, .assign (.tmp 51), 43, .always⟩] [1, 7])
 (.seq (.ops [⟨some 52, .move (.tmp 7), 43, .always⟩,
 ⟨some 53, .binOp .neq 43 (.tmp 52) (.const (.int .i64 0)) 43, 4, .always⟩] [1, 53])
 (.cond (.tmp 53)
 (.seq (.ops [⟨some 2, .assign (.const (.int .i64 0)), 3, .always⟩,
 ⟨some 3, .assign (.const (.bool false)), 4, .always⟩] [2, 3])
 (.ret))
 (.skip))))
 (.seq (.ops [⟨some 54, .fieldAddr 62 (.tmp 1) 2, 0, .always⟩,
 ⟨some 55, .load 25 (.tmp 54), 25, .always⟩,
 ⟨some 56, .call { callee := .value (.func 189), args := #[.tmp 55], argTypes := #[25] }, 4, .always⟩,
 ⟨some 57, .unOp .not 4 (.tmp 56), 4, .always⟩] [1, 57])
 (.cond (.tmp 57)
 (.seq (.ops [⟨some 2, .assign (.const (.int .i64 0)), 3, .always⟩,
 ⟨some 3, .assign (.const (.bool false)), 4, .always⟩] [2, 3])
 (.ret))
 (.skip)))))
 (.seq (.ops [⟨some 8, .assign (.const (.int .i64 1)), 3, .always⟩] [1, 8])
 (.seq (.seq (.ops [⟨some 58, .fieldAddr 62 (.tmp 1) 3, 0, .always⟩,
 ⟨some 59, .load 26 (.tmp 58), 26, .always⟩,
 ⟨some 60, .call { callee := .builtin .len, args := #[.tmp 59], argTypes := #[26] }, 3, .always⟩,
 ⟨some 61, .move (.const (.int .i64 0)), 3, .always⟩] [8, 59, 60, 61])
 (.block 0
 (.loop
 (.seq (.ops [⟨some 62, .binOp .lss 3 (.tmp 61) (.tmp 60) 3, 0, .always⟩] [8, 59, 60, 61, 62])
 (.seq (.cond (.tmp 62)
 (.skip)
 (.exit 0))
 (.seq (.block 1
 (.seq (.ops [⟨some 63, .indexAddr 26 (.tmp 59) (.tmp 61), 0, .always⟩,
 ⟨some 64, .load 62 (.tmp 63), 62, .always⟩,
 ⟨some 10, .alloc 62, 0, .always⟩,
 ⟨none, .store 62 (.tmp 10) (.tmp 64), 0, .always⟩] [8, 10, 59, 60, 61])
 (.seq (.ops [⟨some 66, .load 62 (.tmp 10), 62, .always⟩,
 ⟨some 67, .call { callee := .value (.func 171), args := #[.tmp 66], argTypes := #[62] }, 164, .always⟩,
 ⟨some 65, .move (.tmp 67), 164, .always⟩,
 ⟨some 68, .extract (.tmp 65) 0, 3, .always⟩,
 ⟨some 69, .extract (.tmp 65) 1, 4, .always⟩,
 ⟨some 11, .assign (.tmp 68), 3, .always⟩,
 ⟨some 12, .assign (.tmp 69), 4, .always⟩] [8, 11, 12, 59, 60, 61])
 (.seq (.seq (.ops [⟨some 70, .move (.tmp 12), 4, .always⟩,
 ⟨some 71, .unOp .not 4 (.tmp 70), 4, .always⟩] [8, 11, 59, 60, 61, 71])
 (.cond (.tmp 71)
 (.seq (.ops [⟨some 2, .assign (.const (.int .i64 0)), 3, .always⟩,
 ⟨some 3, .assign (.const (.bool false)), 4, .always⟩] [2, 3])
 (.ret))
 (.skip)))
 (.ops [⟨some 72, .move (.tmp 8), 3, .always⟩,
 ⟨some 73, .move (.tmp 11), 3, .always⟩,
 ⟨some 74, .binOp .add 3 (.tmp 72) (.tmp 73) 3, 3, .always⟩,
 ⟨some 8, .assign (.tmp 74), 3, .always⟩] [8, 59, 60, 61])))))
 (.ops [⟨some 75, .binOp .add 3 (.tmp 61) (.const (.int .i64 1)) 3, 3, .always⟩,
 ⟨some 61, .move (.tmp 75), 3, .always⟩] [8, 59, 60, 61])))))))
 (.seq (.ops [⟨some 76, .move (.tmp 8), 3, .always⟩,
 ⟨some 2, .assign (.tmp 76), 3, .always⟩,
 ⟨some 3, .assign (.const (.bool true)), 4, .always⟩] [2, 3])
 (.ret)))))))
theorem w171 {args : List PV} {σ σ' : List Frm} {r : Ret} (hr : ∀ p, r = .val p → erV p = p) (h : wpP cfg s171 (QEndP cfg [.tmp 2, .tmp 3] σ' r) ⟨initEnv args, fun _ => [], σ, ⟨fun _ => false, 0⟩⟩) : CallsV cfg 171 args σ r σ' :=
 callsV_of_p follows cfgT a171 (fn := Tryd.f171) (c := Tryd.f171.body.getD .skip) (by kernel_rfl) (by kernel_rfl) (by kernel_rfl) (by kernel_rfl) (by kernel_rfl) (sc := s171) (by kernel_rfl) [.tmp 2, .tmp 3] (by kernel_rfl) hr h
def a179 : List Ann := [⟨[1], [], []⟩,
 ⟨[1, 3, 4, 5], [], []⟩,
 ⟨[1, 3, 4, 5, 9], [], []⟩,
 ⟨[2], [], []⟩,
 ⟨[1, 3, 4, 5, 9, 10], [], []⟩,
 ⟨[1, 3, 4, 5], [], []⟩,
 ⟨[1, 3, 5, 9, 12], [], []⟩,
 ⟨[1, 3, 5, 9, 12], [], []⟩,
 ⟨[1, 3, 4, 5], [], []⟩,
 ⟨[1, 3, 9, 15], [], []⟩,
 ⟨[1, 3, 9, 15], [], []⟩,
 ⟨[1, 3, 9, 15], [], []⟩,
 ⟨[1, 3, 15], [], []⟩,
 ⟨[1, 3, 4, 5], [], []⟩,
 ⟨[1, 3, 4, 20], [], []⟩,
 ⟨[1, 3, 4, 7], [], []⟩,
 ⟨[1, 3, 4, 28], [], []⟩,
 ⟨[2], [], []⟩,
 ⟨[1, 3, 4, 32], [], []⟩,
 ⟨[2], [], []⟩,
 ⟨[2], [], []⟩]
def s179 : SC := .seq (.ops [⟨some 1, .box 29 (.tmp 0), 0, .always⟩,
 ⟨some 2, .assign (.const (.bool false)), 4, .always⟩] [1])
 (.seq (.ops [⟨some 3, .assign (.const (.int .i64 0)), 3, .always⟩,
 ⟨some 4, .assign (.const (.int .i64 0)), 3, .always⟩,
 ⟨some 5, .assign (.const (.bool false)), 4, .always⟩] [1, 3, 4, 5])
 (.seq (.seq (.ops [⟨some 8, .fieldAddr 29 (.tmp 1) 0, 0, .always⟩,
 ⟨some 9, .load 3 (.tmp 8), 3, .always⟩] [1, 3, 4, 5, 9])
 (.block 0
 (.seq (.ops [⟨some 11, .binOp .eql 3 (.tmp 9) (.const (.int .i64 1)) 3, 4, .always⟩,
 ⟨some 10, .assign (.tmp 11), 4, .always⟩] [1, 3, 4, 5, 9, 10])
 (.cond (.tmp 10)
 (.ops [⟨some 3, .assign (.const (.int .i64 2)), 3, .always⟩] [1, 3, 4, 5])
 (.seq (.seq (.ops [⟨some 13, .binOp .eql 3 (.tmp 9) (.const (.int .i64 2)) 3, 4, .always⟩,
 ⟨some 12, .assign (.tmp 13), 4, .always⟩] [1, 3, 5, 9, 12])
 (.cond (.tmp 12)
 (.skip)
 (.ops [⟨some 14, .binOp .eql 3 (.tmp 9) (.const (.int .i64 3)) 3, 4, .always⟩,
 ⟨some 12, .assign (.tmp 14), 4, .always⟩] [1, 3, 5, 9, 12])))
 (.cond (.tmp 12)
 (.ops [⟨some 4, .assign (.const (.int .i64 2)), 3, .always⟩] [1, 3, 4, 5])
 (.seq (.seq (.ops [⟨some 16, .binOp .eql 3 (.tmp 9) (.const (.int .i64 4)) 3, 4, .always⟩,
 ⟨some 15, .assign (.tmp 16), 4, .always⟩] [1, 3, 9, 15])
 (.cond (.tmp 15)
 (.skip)
 (.seq (.ops [⟨some 17, .binOp .eql 3 (.tmp 9) (.const (.int .i64 5)) 3, 4, .always⟩,
 ⟨some 15, .assign (.tmp 17), 4, .always⟩] [1, 3, 9, 15])
 (.cond (.tmp 15)
 (.skip)
 (.seq (.ops [⟨some 18, .binOp .eql 3 (.tmp 9) (.const (.int .i64 6)) 3, 4, .always⟩,
 ⟨some 15, .assign (.tmp 18), 4, .always⟩] [1, 3, 9, 15])
 (.cond (.tmp 15)
 (.skip)
 (.ops [⟨some 19, .binOp .eql 3 (.tmp 9) (.const (.int .i64 7)) 3, 4, .always⟩,
 ⟨some 15, .assign (.tmp 19), 4, .always⟩] [1, 3, 15])))))))
 (.cond (.tmp 15)
 (.ops [⟨some 4, .assign (.const (.int .i64 1)), 3, .always⟩,
 ⟨some 5, .assign (.const (.bool true)), 4, .always⟩] [1, 3, 4, 5])
 (.seq (.ops [⟨some 2, .assign (.const (.bool false)), 4, .always⟩] [2])
 (.ret))))))))))
 (.seq (.seq (.ops [⟨some 20, .move (.tmp 5), 4, .always⟩] [1, 3, 4, 20])
 (.cond (.tmp 20)
 (.seq (.ops [⟨some 22, .fieldAddr 29 (.tmp 1) 1, 0, .always⟩,
 ⟨some 23, .load 25 (.tmp 22), 25, .always⟩,
 ⟨some 24, .call { callee := .value (.func 180), args := #[.tmp 23], argTypes := #[25] }, 141, .always⟩,
 ⟨some 21, .move (.tmp 24), 141, .always⟩,
 ⟨some 25, .extract (.tmp 21) 0, 3, .always⟩,
 ⟨some 26, .extract (.tmp 21) 1, 43, .always⟩,
 ⟨some 6, .assign (.tmp 25), 3, .always⟩,
 ⟨some 7, .assign (.tmp 26), 43, .always⟩] [1, 3, 4, 7])
 (.seq (.ops [⟨some 27, .move (.tmp 7), 43, .always⟩,
 ⟨some 28, .binOp .neq 43 (.tmp 27) (.const (.int .i64 0)) 43, 4, .always⟩] [1, 3, 4, 28])
 (.cond (.tmp 28)
 (.seq (.ops [⟨some 2, .assign (.const (.bool false)), 4, .always⟩] [2])
 (.ret))
 (.skip))))
 (.seq (.ops [⟨some 29, .fieldAddr 29 (.tmp 1) 1, 0, .always⟩,
 ⟨some 30, .load 25 (.tmp 29), 25, .always⟩,
 ⟨some 31, .call { callee := .value (.func 189), args := #[.tmp 30], argTypes := #[25] }, 4, .always⟩,
 ⟨some 32, .unOp .not 4 (.tmp 31), 4, .always⟩] [1, 3, 4, 32])
 (.cond (.tmp 32)
 (.seq (.ops [⟨some 2, .assign (.const (.bool false)), 4, .always⟩] [2])
 (.ret))
 (.skip)))))
 (.seq (.ops [⟨some 33, .fieldAddr 29 (.tmp 1) 2, 0, .always⟩,
 ⟨some 34, .load 26 (.tmp 33), 26, .always⟩,
 ⟨some 35, .call { callee := .builtin .len, args := #[.tmp 34], argTypes := #[26] }, 3, .always⟩,
 ⟨some 36, .move (.tmp 3), 3, .always⟩,
 ⟨some 37, .binOp .eql 3 (.tmp 35) (.tmp 36) 3, 4, .always⟩,
 ⟨some 38, .move (.tmp 37), 4, .always⟩,
 ⟨some 39, .fieldAddr 29 (.tmp 1) 3, 0, .tmp 38 true⟩,
 ⟨some 40, .load 27 (.tmp 39), 27, .tmp 38 true⟩,
 ⟨some 41, .call { callee := .builtin .len, args := #[.tmp 40], argTypes := #[27] }, 3, .tmp 38 true⟩,
 ⟨some 42, .move (.tmp 4), 3, .tmp 38 true⟩,
 ⟨some 43, .binOp .eql 3 (.tmp 41) (.tmp 42) 3, 4, .tmp 38 true⟩,
 ⟨some 44, .pick (.tmp 38) (.tmp 43) (.const (.bool false)), 4, .always⟩,
 ⟨some 2, .assign (.tmp 44), 4, .always⟩] [2])
 (.ret)))))
theorem w179 {args : List PV} {σ σ' : List Frm} {r : Ret} (hr : ∀ p, r = .val p → erV p = p) (h : wpP cfg s179 (QEndP cfg [.tmp 2] σ' r) ⟨initEnv args, fun _ => [], σ, ⟨fun _ => false, 0⟩⟩) : CallsV cfg 179 args σ r σ' :=
 callsV_of_p follows cfgT a179 (fn := Tryd.f179) (c := Tryd.f179.body.getD .skip) (by kernel_rfl) (by kernel_rfl) (by kernel_rfl) (by kernel_rfl) (by kernel_rfl) (sc := s179) (by kernel_rfl) [.tmp 2] (by kernel_rfl) hr h
def a158 : List Ann := [⟨[1], [], []⟩,
 ⟨[1, 15], [], []⟩,
 ⟨[2, 3], [], []⟩,
 ⟨[1, 4], [], []⟩,
 ⟨[1, 4, 17, 18, 19], [], []⟩,
 ⟨[1, 4, 17, 18, 19, 20], [], []⟩,
 ⟨[1, 4, 6, 17, 18, 19], [], []⟩,
 ⟨[1, 4, 7, 8, 17, 18, 19], [], []⟩,
 ⟨[1, 4, 7, 17, 18, 19, 29], [], []⟩,
 ⟨[2, 3], [], []⟩,
 ⟨[1, 4, 17, 18, 19], [], []⟩,
 ⟨[1, 4, 17, 18, 19], [], []⟩,
 ⟨[4, 35, 36, 37], [], []⟩,
 ⟨[4, 35, 36, 37, 38], [], []⟩,
 ⟨[4, 10, 35, 36, 37], [], []⟩,
 ⟨[4, 11, 12, 35, 36, 37], [], []⟩,
 ⟨[4, 11, 35, 36, 37, 47], [], []⟩,
 ⟨[2, 3], [], []⟩,
 ⟨[4, 35, 36, 37], [], []⟩,
 ⟨[4, 35, 36, 37], [], []⟩,
 ⟨[2, 3], [], []⟩]
def s158 : SC := .seq (.ops [⟨some 1, .box 29 (.tmp 0), 0, .always⟩,
 ⟨some 2, .assign (.const (.int .i64 0)), 3, .always⟩,
 ⟨some 3, .assign (.const (.bool false)), 4, .always⟩] [1])
 (.seq (.seq (.ops [⟨some 13, .load 29 (.tmp 1), 29, .always⟩,
 ⟨some 14, .call { callee := .value (.func 179), args := #[.tmp 13], argTypes := #[29] }, 4, .always⟩,
 ⟨some 15, .unOp .not 4 (.tmp 14), 4, .always⟩] [1, 15])
 (.cond (.tmp 15)
 (.seq (.ops [⟨some 2, .assign (.const (.int .i64 0)), 3, .always⟩,
 ⟨some 3, .assign (.const (.bool false)), 4, .always⟩] [2, 3])
 (.ret))
 (.skip)))
 (.seq (.ops [⟨some 4, .assign (.const (.int .i64 1)), 3, .always⟩] [1, 4])
 (.seq (.seq (.ops [⟨some 16, .fieldAddr 29 (.tmp 1) 2, 0, .always⟩,
 ⟨some 17, .load 26 (.tmp 16), 26, .always⟩,
 ⟨some 18, .call { callee := .builtin .len, args := #[.tmp 17], argTypes := #[26] }, 3, .always⟩,
 ⟨some 19, .move (.const (.int .i64 0)), 3, .always⟩] [1, 4, 17, 18, 19])
 (.block 0
 (.loop
 (.seq (.ops [⟨some 20, .binOp .lss 3 (.tmp 19) (.tmp 18) 3, 0, .always⟩] [1, 4, 17, 18, 19, 20])
 (.seq (.cond (.tmp 20)
 (.skip)
 (.exit 0))
 (.seq (.block 1
 (.seq (.ops [⟨some 21, .indexAddr 26 (.tmp 17) (.tmp 19), 0, .always⟩,
 ⟨some 22, .load 62 (.tmp 21), 62, .always⟩,
 ⟨some 6, .alloc 62, 0, .always⟩,
 ⟨none, .store 62 (.tmp 6) (.tmp 22), 0, .always⟩] [1, 4, 6, 17, 18, 19])
 (.seq (.ops [⟨some 24, .load 62 (.tmp 6), 62, .always⟩,
 ⟨some 25, .call { callee := .value (.func 171), args := #[.tmp 24], argTypes := #[62] }, 164, .always⟩,
 ⟨some 23, .move (.tmp 25), 164, .always⟩,
 ⟨some 26, .extract (.tmp 23) 0, 3, .always⟩,
 ⟨some 27, .extract (.tmp 23) 1, 4, .always⟩,
 ⟨some 7, .assign (.tmp 26), 3, .always⟩,
 ⟨some 8, .assign (.tmp 27), 4, .always⟩] [1, 4, 7, 8, 17, 18, 19])
 (.seq (.seq (.ops [⟨some 28, .move (.tmp 8), 4, .always⟩,
 ⟨some 29, .unOp .not 4 (.tmp 28), 4, .always⟩] [1, 4, 7, 17, 18, 19, 29])
 (.cond (.tmp 29)
 (.seq (.ops [⟨some 2, .assign (.const (.int .i64 0)), 3, .always⟩,
 ⟨some 3, .assign (.const (.bool false)), 4, .always⟩] [2, 3])
 (.ret))
 (.skip)))
 (.ops [⟨some 30, .move (.tmp 4), 3, .always⟩,
 ⟨some 31, .move (.tmp 7), 3, .always⟩,
 ⟨some 32, .binOp .add 3 (.tmp 30) (.tmp 31) 3, 3, .always⟩,
 ⟨some 4, .assign (.tmp 32), 3, .always⟩] [1, 4, 17, 18, 19])))))
 (.ops [⟨some 33, .binOp .add 3 (.tmp 19) (.const (.int .i64 1)) 3, 3, .always⟩,
 ⟨some 19, .move (.tmp 33), 3, .always⟩] [1, 4, 17, 18, 19])))))))
 (.seq (.seq (.ops [⟨some 34, .fieldAddr 29 (.tmp 1) 3, 0, .always⟩,
 ⟨some 35, .load 27 (.tmp 34), 27, .always⟩,
 ⟨some 36, .call { callee := .builtin .len, args := #[.tmp 35], argTypes := #[27] }, 3, .always⟩,
 ⟨some 37, .move (.const (.int .i64 0)), 3, .always⟩] [4, 35, 36, 37])
 (.block 2
 (.loop
 (.seq (.ops [⟨some 38, .binOp .lss 3 (.tmp 37) (.tmp 36) 3, 0, .always⟩] [4, 35, 36, 37, 38])
 (.seq (.cond (.tmp 38)
 (.skip)
 (.exit 2))
 (.seq (.block 3
 (.seq (.ops [⟨some 39, .indexAddr 27 (.tmp 35) (.tmp 37), 0, .always⟩,
 ⟨some 40, .load 29 (.tmp 39), 29, .always⟩,
 ⟨some 10, .alloc 29, 0, .always⟩,
 ⟨none, .store 29 (.tmp 10) (.tmp 40), 0, .always⟩] [4, 10, 35, 36, 37])
 (.seq (.ops [⟨some 42, .load 29 (.tmp 10), 29, .always⟩,
 ⟨some 43, .call { callee := .value (.func 158), args := #[.tmp 42], argTypes := #[29] }, 164, .always⟩,
 ⟨some 41, .move (.tmp 43), 164, .always⟩,
 ⟨some 44, .extract (.tmp 41) 0, 3, .always⟩,
 ⟨some 45, .extract (.tmp 41) 1, 4, .always⟩,
 ⟨some 11, .assign (.tmp 44), 3, .always⟩,
 ⟨some 12, .assign (.tmp 45), 4, .always⟩] [4, 11, 12, 35, 36, 37])
 (.seq (.seq (.ops [⟨some 46, .move (.tmp 12), 4, .always⟩,
 ⟨some 47, .unOp .not 4 (.tmp 46), 4, .always⟩] [4, 11, 35, 36, 37, 47])
 (.cond (.tmp 47)
 (.seq (.ops [⟨some 2, .assign (.const (.int .i64 0)), 3, .always⟩,
 ⟨some 3, .assign (.const (.bool false)), 4, .always⟩] [2, 3])
 (.ret))
 (.skip)))
 (.ops [⟨some 48, .move (.tmp 4), 3, .always⟩,
 ⟨some 49, .move (.tmp 11), 3, .always⟩,
 ⟨some 50, .binOp .add 3 (.tmp 48) (.tmp 49) 3, 3, .always⟩,
 ⟨some 4, .assign (.tmp 50), 3, .always⟩] [4, 35, 36, 37])))))
 (.ops [⟨some 51, .binOp .add 3 (.tmp 37) (.const (.int .i64 1)) 3, 3, .always⟩,
 ⟨some 37, .move (.tmp 51), 3, .always⟩] [4, 35, 36, 37])))))))
 (.seq (.ops [⟨some 52, .move (.tmp 4), 3, .always⟩,
 ⟨some 2, .assign (.tmp 52), 3, .always⟩,
 ⟨some 3, .assign (.const (.bool true)), 4, .always⟩] [2, 3])
 (.ret))))))
theorem w158 {args : List PV} {σ σ' : List Frm} {r : Ret} (hr : ∀ p, r = .val p → erV p = p) (h : wpP cfg s158 (QEndP cfg [.tmp 2, .tmp 3] σ' r) ⟨initEnv args, fun _ => [], σ, ⟨fun _ => false, 0⟩⟩) : CallsV cfg 158 args σ r σ' :=
 callsV_of_p follows cfgT a158 (fn := Tryd.f158) (c := Tryd.f158.body.getD .skip) (by kernel_rfl) (by kernel_rfl) (by kernel_rfl) (by kernel_rfl) (by kernel_rfl) (sc := s158) (by kernel_rfl) [.tmp 2, .tmp 3] (by kernel_rfl) hr h
def a126 : List Ann := [⟨[1], [], []⟩,
 ⟨[4, 5], [], []⟩,
 ⟨[4, 11], [], []⟩,
 ⟨[2, 3], [], []⟩,
 ⟨[4, 14], [], []⟩,
 ⟨[2, 3], [], []⟩,
 ⟨[2, 3], [], []⟩]
def s126 : SC := .seq (.ops [⟨some 1, .box 29 (.tmp 0), 0, .always⟩,
 ⟨some 2, .assign (.const (.int .i64 0)), 3, .always⟩,
 ⟨some 3, .assign (.const (.int .i64 0)), 43, .always⟩] [1])
 (.seq (.ops [⟨some 7, .load 29 (.tmp 1), 29, .always⟩,
 ⟨some 8, .call { callee := .value (.func 158), args := #[.tmp 7], argTypes := #[29] }, 164, .always⟩,
 ⟨some 6, .move (.tmp 8), 164, .always⟩,
 ⟨some 9, .extract (.tmp 6) 0, 3, .always⟩,
 ⟨some 10, .extract (.tmp 6) 1, 4, .always⟩,
 ⟨some 4, .assign (.tmp 9), 3, .always⟩,
 ⟨some 5, .assign (.tmp 10), 4, .always⟩] [4, 5])
 (.seq (.block 0
 (.seq (.ops [⟨some 12, .move (.tmp 5), 4, .always⟩,
 ⟨some 13, .unOp .not 4 (.tmp 12), 4, .always⟩,
 ⟨some 11, .assign (.tmp 13), 4, .always⟩] [4, 11])
 (.cond (.tmp 11)
 (.seq (.ops [⟨some 2, .assign (.const (.int .i64 0)), 3, .always⟩,
 ⟨some 3, .assign (.const (.int .i64 2)), 43, .always⟩] [2, 3])
 (.ret))
 (.seq (.ops [⟨some 15, .move (.tmp 4), 3, .always⟩,
 ⟨some 16, .binOp .gtr 3 (.tmp 15) (.const (.int .i64 4096)) 3, 4, .always⟩,
 ⟨some 14, .assign (.tmp 16), 4, .always⟩] [4, 14])
 (.cond (.tmp 14)
 (.seq (.ops [⟨some 2, .assign (.const (.int .i64 0)), 3, .always⟩,
 ⟨some 3, .assign (.const (.int .i64 4)), 43, .always⟩] [2, 3])
 (.ret))
 (.skip))))))
 (.seq (.ops [⟨some 17, .move (.tmp 4), 3, .always⟩,
 ⟨some 2, .assign (.tmp 17), 3, .always⟩,
 ⟨some 3, .assign (.const (.int .i64 0)), 43, .always⟩] [2, 3])
 (.ret))))
theorem w126 {args : List PV} {σ σ' : List Frm} {r : Ret} (hr : ∀ p, r = .val p → erV p = p) (h : wpP cfg s126 (QEndP cfg [.tmp 2, .tmp 3] σ' r) ⟨initEnv args, fun _ => [], σ, ⟨fun _ => false, 0⟩⟩) : CallsV cfg 126 args σ r σ' :=
 callsV_of_p follows cfgT a126 (fn := Tryd.f126) (c := Tryd.f126.body.getD .skip) (by kernel_rfl) (by kernel_rfl) (by kernel_rfl) (by kernel_rfl) (by kernel_rfl) (sc := s126) (by kernel_rfl) [.tmp 2, .tmp 3] (by kernel_rfl) hr h
def a75 : List Ann := [⟨[1], [], []⟩,
 ⟨[4], [], []⟩,
 ⟨[2], [], []⟩]
def s75 : SC := .seq (.ops [⟨some 1, .box 29 (.tmp 0), 0, .always⟩,
 ⟨some 2, .assign (.const (.int .i64 0)), 43, .always⟩] [1])
 (.seq (.ops [⟨some 6, .load 29 (.tmp 1), 29, .always⟩,
 ⟨some 7, .call { callee := .value (.func 126), args := #[.tmp 6], argTypes := #[29] }, 141, .always⟩,
 ⟨some 5, .move (.tmp 7), 141, .always⟩,
 ⟨some 8, .extract (.tmp 5) 0, 3, .always⟩,
 ⟨some 9, .extract (.tmp 5) 1, 43, .always⟩,
 ⟨some 3, .assign (.tmp 8), 3, .always⟩,
 ⟨some 4, .assign (.tmp 9), 43, .always⟩] [4])
 (.seq (.ops [⟨some 10, .move (.tmp 4), 43, .always⟩,
 ⟨some 2, .assign (.tmp 10), 43, .always⟩] [2])
 (.ret)))
theorem w75 {args : List PV} {σ σ' : List Frm} {r : Ret} (hr : ∀ p, r = .val p → erV p = p) (h : wpP cfg s75 (QEndP cfg [.tmp 2] σ' r) ⟨initEnv args, fun _ => [], σ, ⟨fun _ => false, 0⟩⟩) : CallsV cfg 75 args σ r σ' :=
 callsV_of_p follows cfgT a75 (fn := Tryd.f75) (c := Tryd.f75.body.getD .skip) (by kernel_rfl) (by kernel_rfl) (by kernel_rfl) (by kernel_rfl) (by kernel_rfl) (sc := s75) (by kernel_rfl) [.tmp 2] (by kernel_rfl) hr h
def a159 : List Ann := [⟨[1], [], []⟩,
 ⟨[4], [], []⟩,
 ⟨[2], [], []⟩]
def s159 : SC := .seq (.ops [⟨some 1, .box 25 (.tmp 0), 0, .always⟩,
 ⟨some 2, .assign (.const (.int .i64 0)), 43, .always⟩] [1])
 (.seq (.ops [⟨some 6, .load 25 (.tmp 1), 25, .always⟩,
 ⟨some 7, .call { callee := .value (.func 180), args := #[.tmp 6], argTypes := #[25] }, 141, .always⟩,
 ⟨some 5, .move (.tmp 7), 141, .always⟩,
 ⟨some 8, .extract (.tmp 5) 0, 3, .always⟩,
 ⟨some 9, .extract (.tmp 5) 1, 43, .always⟩,
 ⟨some 3, .assign (.tmp 8), 3, .always⟩,
 ⟨some 4, .assign (.tmp 9), 43, .always⟩] [4])
 (.seq (.ops [⟨some 10, .move (.tmp 4), 43, .always⟩,
 ⟨some 2, .assign (.tmp 10), 43, .always⟩] [2])
 (.ret)))
theorem w159 {args : List PV} {σ σ' : List Frm} {r : Ret} (hr : ∀ p, r = .val p → erV p = p) (h : wpP cfg s159 (QEndP cfg [.tmp 2] σ' r) ⟨initEnv args, fun _ => [], σ, ⟨fun _ => false, 0⟩⟩) : CallsV cfg 159 args σ r σ' :=
 callsV_of_p follows cfgT a159 (fn := Tryd.f159) (c := Tryd.f159.body.getD .skip) (by kernel_rfl) (by kernel_rfl) (by kernel_rfl) (by kernel_rfl) (by kernel_rfl) (sc := s159) (by kernel_rfl) [.tmp 2] (by kernel_rfl) hr h
def a127 : List Ann := [⟨[0, 4, 5, 6], [], []⟩,
 ⟨[6, 9], [], []⟩,
 ⟨[6, 9, 10], [], []⟩,
 ⟨[6, 9, 10, 19], [], []⟩,
 ⟨[6, 7, 8], [], []⟩,
 ⟨[6, 7, 8], [], []⟩]
def s127 : SC := .seq (.ops [⟨some 4, .box 25 (.tmp 1), 0, .always⟩,
 ⟨some 5, .box 25 (.tmp 2), 0, .always⟩,
 ⟨some 6, .alloc 25, 0, .always⟩,
 ⟨some 7, .assign (.const (.bool false)), 4, .always⟩,
 ⟨some 8, .assign (.const (.int .i64 0)), 43, .always⟩] [0, 4, 5, 6])
 (.seq (.ops [⟨some 11, .move (.tmp 0), 3, .always⟩,
 ⟨some 12, .load 25 (.tmp 4), 25, .always⟩,
 ⟨some 13, .load 25 (.tmp 5), 25, .always⟩,
 ⟨some 14, .buildSlice 23 2 #[(0, .tmp 12), (1, .tmp 13)], 23, .always⟩,
 ⟨some 15, .build 25 #[(0, .tmp 11), (1, .tmp 14)], 25, .always⟩,
 ⟨some 9, .alloc 25, 0, .always⟩,
 ⟨none, .store 25 (.tmp 9) (.tmp 15), 0, .always⟩] [6, 9])
 (.seq (.seq (.ops [⟨some 16, .load 25 (.tmp 9), 25, .always⟩,
 ⟨some 17, .call { callee := .value (.func 159), args := #[.tmp 16], argTypes := #[25] }, 43, .always⟩,
 ⟨some 10, .assign (.tmp 17), 43, .always⟩] [6, 9, 10])
 (.seq (.ops [⟨some 18, .move (.tmp 10), 43, .always⟩,
 ⟨some 19, .binOp .neq 43 (.tmp 18) (.const (.int .i64 0)) 43, 4, .always⟩] [6, 9, 10, 19])
 (.cond (.tmp 19)
 (.seq (.ops [⟨some 20, .build 25 #[], 25, .always⟩,
 ⟨some 21, .move (.tmp 10), 43, .always⟩,
 ⟨none, .store 25 (.tmp 6) (.tmp 20), 0, .always⟩,
 ⟨some 7, .assign (.const (.bool false)), 4, .always⟩,
 ⟨some 8, .assign (.tmp 21), 43, .always⟩] [6, 7, 8])
 (.ret))
 (.skip))))
 (.seq (.ops [⟨some 22, .load 25 (.tmp 9), 25, .always⟩,
 ⟨none, .store 25 (.tmp 6) (.tmp 22), 0, .always⟩,
 ⟨some 7, .assign (.const (.bool true)), 4, .always⟩,
 ⟨some 8, .assign (.const (.int .i64 0)), 43, .always⟩] [6, 7, 8])
 (.ret))))
theorem w127 {args : List PV} {σ σ' : List Frm} {r : Ret} (hr : ∀ p, r = .val p → erV p = p) (h : wpP cfg s127 (QEndP cfg [.cell 6 25, .tmp 7, .tmp 8] σ' r) ⟨initEnv args, fun _ => [], σ, ⟨fun _ => false, 0⟩⟩) : CallsV cfg 127 args σ r σ' :=
 callsV_of_p follows cfgT a127 (fn := Tryd.f127) (c := Tryd.f127.body.getD .skip) (by kernel_rfl) (by kernel_rfl) (by kernel_rfl) (by kernel_rfl) (by kernel_rfl) (sc := s127) (by kernel_rfl) [.cell 6 25, .tmp 7, .tmp 8] (by kernel_rfl) hr h
def a76 : List Ann := [⟨[1, 2], [], []⟩,
 ⟨[1, 2, 16], [], []⟩,
 ⟨[2, 3, 4], [], []⟩,
 ⟨[1, 2, 5, 6, 7], [], []⟩,
 ⟨[1, 2, 5, 6, 7, 32], [], []⟩,
 ⟨[2, 3, 4], [], []⟩,
 ⟨[1, 2, 5, 6, 36], [], []⟩,
 ⟨[1, 2, 5, 6, 36, 37], [], []⟩,
 ⟨[2, 5, 6, 8, 9, 10], [], []⟩,
 ⟨[2, 5, 6, 8, 10, 53], [], []⟩,
 ⟨[2, 3, 4], [], []⟩,
 ⟨[2, 5, 8, 58], [], []⟩,
 ⟨[2, 3, 4], [], []⟩,
 ⟨[2, 3, 4], [], []⟩,
 ⟨[1, 2, 5, 6, 66], [], []⟩,
 ⟨[1, 2, 5, 69], [], []⟩,
 ⟨[2, 3, 4], [], []⟩,
 ⟨[2, 3, 4], [], []⟩,
 ⟨[1, 2, 5, 80], [], []⟩,
 ⟨[2, 3, 4], [], []⟩,
 ⟨[1, 2, 5, 83], [], []⟩,
 ⟨[1, 2, 5, 83, 84], [], []⟩,
 ⟨[2, 5, 11, 12, 13], [], []⟩,
 ⟨[2, 5, 11, 13, 100], [], []⟩,
 ⟨[2, 3, 4], [], []⟩,
 ⟨[2, 3, 4], [], []⟩,
 ⟨[1, 2, 5, 109], [], []⟩,
 ⟨[2, 3, 4], [], []⟩,
 ⟨[2, 3, 4], [], []⟩]
def s76 : SC := .seq (.ops [⟨some 1, .box 29 (.tmp 0), 0, .always⟩,
 ⟨some 2, .alloc 25, 0, .always⟩,
 ⟨some 3, .assign (.const (.bool false)), 4, .always⟩,
 ⟨some 4, .assign (.const (.int .i64 0)), 43, .always⟩] [1, 2])
 (.seq (.seq (.ops [⟨some 14, .fieldAddr 29 (.tmp 1) 0, 0, .always⟩,
 ⟨some 15, .load 3 (.tmp 14), 3, .always⟩,
 ⟨some 16, .binOp .eql 3 (.tmp 15) (.const (.int .i64 1)) 3, 4, .always⟩] [1, 2, 16])
 (.cond (.tmp 16)
 (.seq (.ops [⟨some 17, .build 25 #[], 25, .always⟩,
 ⟨none, .store 25 (.tmp 2) (.tmp 17), 0, .always⟩,
 ⟨some 3, .assign (.const (.bool false)), 4, .always⟩,
 ⟨some 4, .assign (.const (.int .i64 0)), 43, .always⟩] [2, 3, 4])
 (.ret))
 (.skip)))
 (.seq (.ops [⟨some 19, .fieldAddr 29 (.tmp 1) 3, 0, .always⟩,
 ⟨some 20, .load 27 (.tmp 19), 27, .always⟩,
 ⟨some 21, .fieldAddr 29 (.tmp 1) 3, 0, .always⟩,
 ⟨some 22, .load 27 (.tmp 21), 27, .always⟩,
 ⟨some 23, .call { callee := .builtin .len, args := #[.tmp 22], argTypes := #[27] }, 3, .always⟩,
 ⟨some 24, .binOp .sub 3 (.tmp 23) (.const (.int .i64 1)) 3, 3, .always⟩,
 ⟨some 25, .indexAddr 27 (.tmp 20) (.tmp 24), 0, .always⟩,
 ⟨some 26, .load 29 (.tmp 25), 29, .always⟩,
 ⟨some 27, .call { callee := .value (.func 76), args := #[.tmp 26], argTypes := #[29] }, 101, .always⟩,
 ⟨some 18, .move (.tmp 27), 101, .always⟩,
 ⟨some 28, .extract (.tmp 18) 0, 25, .always⟩,
 ⟨some 29, .extract (.tmp 18) 1, 4, .always⟩,
 ⟨some 30, .extract (.tmp 18) 2, 43, .always⟩,
 ⟨some 5, .alloc 25, 0, .always⟩,
 ⟨none, .store 25 (.tmp 5) (.tmp 28), 0, .always⟩,
 ⟨some 6, .assign (.tmp 29), 4, .always⟩,
 ⟨some 7, .assign (.tmp 30), 43, .always⟩] [1, 2, 5, 6, 7])
 (.seq (.seq (.ops [⟨some 31, .move (.tmp 7), 43, .always⟩,
 ⟨some 32, .binOp .neq 43 (.tmp 31) (.const (.int .i64 0)) 43, 4, .always⟩] [1, 2, 5, 6, 7, 32])
 (.cond (.tmp 32)
 (.seq (.ops [⟨some 33, .build 25 #[], 25, .always⟩,
 ⟨some 34, .move (.tmp 7), 43, .always⟩,
 ⟨none, .store 25 (.tmp 2) (.tmp 33), 0, .always⟩,
 ⟨some 3, .assign (.const (.bool false)), 4, .always⟩,
 ⟨some 4, .assign (.tmp 34), 43, .always⟩] [2, 3, 4])
 (.ret))
 (.skip)))
 (.seq (.seq (.ops [⟨some 35, .fieldAddr 29 (.tmp 1) 0, 0, .always⟩,
 ⟨some 36, .load 3 (.tmp 35), 3, .always⟩] [1, 2, 5, 6, 36])
 (.block 0
 (.seq (.ops [⟨some 38, .binOp .eql 3 (.tmp 36) (.const (.int .i64 2)) 3, 4, .always⟩,
 ⟨some 37, .assign (.tmp 38), 4, .always⟩] [1, 2, 5, 6, 36, 37])
 (.cond (.tmp 37)
 (.seq (.ops [⟨some 40, .fieldAddr 29 (.tmp 1) 3, 0, .always⟩,
 ⟨some 41, .load 27 (.tmp 40), 27, .always⟩,
 ⟨some 42, .indexAddr 27 (.tmp 41) (.const (.int .i64 0)), 0, .always⟩,
 ⟨some 43, .load 29 (.tmp 42), 29, .always⟩,
 ⟨some 44, .call { callee := .value (.func 76), args := #[.tmp 43], argTypes := #[29] }, 101, .always⟩,
 ⟨some 39, .move (.tmp 44), 101, .always⟩,
 ⟨some 45, .extract (.tmp 39) 0, 25, .always⟩,
 ⟨some 46, .extract (.tmp 39) 1, 4, .always⟩,
 ⟨some 47, .extract (.tmp 39) 2, 43, .always⟩,
 ⟨some 8, .alloc 25, 0, .always⟩,
 ⟨none, .store 25 (.tmp 8) (.tmp 45), 0, .always⟩,
 ⟨some 9, .assign (.tmp 46), 4, .always⟩,
 ⟨some 10, .assign (.tmp 47), 43, .always⟩] [2, 5, 6, 8, 9, 10])
 (.seq (.seq (.ops [⟨some 48, .move (.tmp 10), 43, .always⟩,
 ⟨some 49, .binOp .neq 43 (.tmp 48) (.const (.int .i64 0)) 43, 4, .always⟩,
 ⟨some 50, .move (.tmp 49), 4, .always⟩,
 ⟨some 51, .move (.tmp 9), 4, .tmp 50 false⟩,
 ⟨some 52, .unOp .not 4 (.tmp 51), 4, .tmp 50 false⟩,
 ⟨some 53, .pick (.tmp 50) (.const (.bool true)) (.tmp 52), 4, .always⟩] [2, 5, 6, 8, 10, 53])
 (.cond (.tmp 53)
 (.seq (.ops [⟨some 54, .load 25 (.tmp 5), 25, .always⟩,
 ⟨some 55, .move (.tmp 6), 4, .always⟩,
 ⟨some 56, .move (.tmp 10), 43, .always⟩,
 ⟨none, .store 25 (.tmp 2) (.tmp 54), 0, .always⟩,
 ⟨some 3, .assign (.tmp 55), 4, .always⟩,
 ⟨some 4, .assign (.tmp 56), 43, .always⟩] [2, 3, 4])
 (.ret))
 (.skip)))
 (.seq (.seq (.ops [⟨some 57, .move (.tmp 6), 4, .always⟩,
 ⟨some 58, .unOp .not 4 (.tmp 57), 4, .always⟩] [2, 5, 8, 58])
 (.cond (.tmp 58)
 (.seq (.ops [⟨some 59, .load 25 (.tmp 8), 25, .always⟩,
 ⟨none, .store 25 (.tmp 2) (.tmp 59), 0, .always⟩,
 ⟨some 3, .assign (.const (.bool true)), 4, .always⟩,
 ⟨some 4, .assign (.const (.int .i64 0)), 43, .always⟩] [2, 3, 4])
 (.ret))
 (.skip)))
 (.seq (.ops [⟨some 60, .load 25 (.tmp 8), 25, .always⟩,
 ⟨some 61, .load 25 (.tmp 5), 25, .always⟩,
 ⟨some 62, .call { callee := .value (.func 127), args := #[.const (.int .i64 3), .tmp 60, .tmp 61], argTypes := #[3, 25, 25] }, 101, .always⟩,
 ⟨some 63, .extract (.tmp 62) 0, 25, .always⟩,
 ⟨some 64, .extract (.tmp 62) 1, 4, .always⟩,
 ⟨some 65, .extract (.tmp 62) 2, 43, .always⟩,
 ⟨none, .store 25 (.tmp 2) (.tmp 63), 0, .always⟩,
 ⟨some 3, .assign (.tmp 64), 4, .always⟩,
 ⟨some 4, .assign (.tmp 65), 43, .always⟩] [2, 3, 4])
 (.ret)))))
 (.seq (.ops [⟨some 67, .binOp .eql 3 (.tmp 36) (.const (.int .i64 5)) 3, 4, .always⟩,
 ⟨some 66, .assign (.tmp 67), 4, .always⟩] [1, 2, 5, 6, 66])
 (.cond (.tmp 66)
 (.seq (.seq (.ops [⟨some 68, .move (.tmp 6), 4, .always⟩,
 ⟨some 69, .unOp .not 4 (.tmp 68), 4, .always⟩] [1, 2, 5, 69])
 (.cond (.tmp 69)
 (.seq (.ops [⟨some 70, .fieldAddr 29 (.tmp 1) 1, 0, .always⟩,
 ⟨some 71, .load 25 (.tmp 70), 25, .always⟩,
 ⟨none, .store 25 (.tmp 2) (.tmp 71), 0, .always⟩,
 ⟨some 3, .assign (.const (.bool true)), 4, .always⟩,
 ⟨some 4, .assign (.const (.int .i64 0)), 43, .always⟩] [2, 3, 4])
 (.ret))
 (.skip)))
 (.seq (.ops [⟨some 72, .fieldAddr 29 (.tmp 1) 1, 0, .always⟩,
 ⟨some 73, .load 25 (.tmp 72), 25, .always⟩,
 ⟨some 74, .load 25 (.tmp 5), 25, .always⟩,
 ⟨some 75, .call { callee := .value (.func 127), args := #[.const (.int .i64 3), .tmp 73, .tmp 74], argTypes := #[3, 25, 25] }, 101, .always⟩,
 ⟨some 76, .extract (.tmp 75) 0, 25, .always⟩,
 ⟨some 77, .extract (.tmp 75) 1, 4, .always⟩,
 ⟨some 78, .extract (.tmp 75) 2, 43, .always⟩,
 ⟨none, .store 25 (.tmp 2) (.tmp 76), 0, .always⟩,
 ⟨some 3, .assign (.tmp 77), 4, .always⟩,
 ⟨some 4, .assign (.tmp 78), 43, .always⟩] [2, 3, 4])
 (.ret)))
 (.skip)))))))
 (.seq (.seq (.ops [⟨some 79, .move (.tmp 6), 4, .always⟩,
 ⟨some 80, .unOp .not 4 (.tmp 79), 4, .always⟩] [1, 2, 5, 80])
 (.cond (.tmp 80)
 (.seq (.ops [⟨some 81, .build 25 #[], 25, .always⟩,
 ⟨none, .store 25 (.tmp 2) (.tmp 81), 0, .always⟩,
 ⟨some 3, .assign (.const (.bool false)), 4, .always⟩,
 ⟨some 4, .assign (.const (.int .i64 0)), 43, .always⟩] [2, 3, 4])
 (.ret))
 (.skip)))
 (.seq (.seq (.ops [⟨some 82, .fieldAddr 29 (.tmp 1) 0, 0, .always⟩,
 ⟨some 83, .load 3 (.tmp 82), 3, .always⟩] [1, 2, 5, 83])
 (.block 1
 (.seq (.ops [⟨some 85, .binOp .eql 3 (.tmp 83) (.const (.int .i64 3)) 3, 4, .always⟩,
 ⟨some 84, .assign (.tmp 85), 4, .always⟩] [1, 2, 5, 83, 84])
 (.cond (.tmp 84)
 (.seq (.ops [⟨some 87, .fieldAddr 29 (.tmp 1) 3, 0, .always⟩,
 ⟨some 88, .load 27 (.tmp 87), 27, .always⟩,
 ⟨some 89, .indexAddr 27 (.tmp 88) (.const (.int .i64 0)), 0, .always⟩,
 ⟨some 90, .load 29 (.tmp 89), 29, .always⟩,
 ⟨some 91, .call { callee := .value (.func 76), args := #[.tmp 90], argTypes := #[29] }, 101, .always⟩,
 ⟨some 86, .move (.tmp 91), 101, .always⟩,
 ⟨some 92, .extract (.tmp 86) 0, 25, .always⟩,
 ⟨some 93, .extract (.tmp 86) 1, 4, .always⟩,
 ⟨some 94, .extract (.tmp 86) 2, 43, .always⟩,
 ⟨some 11, .alloc 25, 0, .always⟩,
 ⟨none, .store 25 (.tmp 11) (.tmp 92), 0, .always⟩,
 ⟨some 12, .assign (.tmp 93), 4, .always⟩,
 ⟨some 13, .assign (.tmp 94), 43, .always⟩] [2, 5, 11, 12, 13])
 (.seq (.seq (.ops [⟨some 95, .move (.tmp 13), 43, .always⟩,
 ⟨some 96, .binOp .neq 43 (.tmp 95) (.const (.int .i64 0)) 43, 4, .always⟩,
 ⟨some 97, .move (.tmp 96), 4, .always⟩,
 ⟨some 98, .move (.tmp 12), 4, .tmp 97 false⟩,
 ⟨some 99, .unOp .not 4 (.tmp 98), 4, .tmp 97 false⟩,
 ⟨some 100, .pick (.tmp 97) (.const (.bool true)) (.tmp 99), 4, .always⟩] [2, 5, 11, 13, 100])
 (.cond (.tmp 100)
 (.seq (.ops [⟨some 101, .load 25 (.tmp 5), 25, .always⟩,
 ⟨some 102, .move (.tmp 13), 43, .always⟩,
 ⟨none, .store 25 (.tmp 2) (.tmp 101), 0, .always⟩,
 ⟨some 3, .assign (.const (.bool true)), 4, .always⟩,
 ⟨some 4, .assign (.tmp 102), 43, .always⟩] [2, 3, 4])
 (.ret))
 (.skip)))
 (.seq (.ops [⟨some 103, .load 25 (.tmp 11), 25, .always⟩,
 ⟨some 104, .load 25 (.tmp 5), 25, .always⟩,
 ⟨some 105, .call { callee := .value (.func 127), args := #[.const (.int .i64 4), .tmp 103, .tmp 104], argTypes := #[3, 25, 25] }, 101, .always⟩,
 ⟨some 106, .extract (.tmp 105) 0, 25, .always⟩,
 ⟨some 107, .extract (.tmp 105) 1, 4, .always⟩,
 ⟨some 108, .extract (.tmp 105) 2, 43, .always⟩,
 ⟨none, .store 25 (.tmp 2) (.tmp 106), 0, .always⟩,
 ⟨some 3, .assign (.tmp 107), 4, .always⟩,
 ⟨some 4, .assign (.tmp 108), 43, .always⟩] [2, 3, 4])
 (.ret))))
 (.seq (.ops [⟨some 110, .binOp .eql 3 (.tmp 83) (.const (.int .i64 4)) 3, 4, .always⟩,
 ⟨some 109, .assign (.tmp 110), 4, .always⟩] [1, 2, 5, 109])
 (.cond (.tmp 109)
 (.seq (.ops [⟨some 111, .fieldAddr 29 (.tmp 1) 1, 0, .always⟩,
 ⟨some 112, .load 25 (.tmp 111), 25, .always⟩,
 ⟨some 113, .load 25 (.tmp 5), 25, .always⟩,
 ⟨some 114, .call { callee := .value (.func 127), args := #[.const (.int .i64 4), .tmp 112, .tmp 113], argTypes := #[3, 25, 25] }, 101, .always⟩,
 ⟨some 115, .extract (.tmp 114) 0, 25, .always⟩,
 ⟨some 116, .extract (.tmp 114) 1, 4, .always⟩,
 ⟨some 117, .extract (.tmp 114) 2, 43, .always⟩,
 ⟨none, .store 25 (.tmp 2) (.tmp 115), 0, .always⟩,
 ⟨some 3, .assign (.tmp 116), 4, .always⟩,
 ⟨some 4, .assign (.tmp 117), 43, .always⟩] [2, 3, 4])
 (.ret))
 (.skip)))))))
 (.seq (.ops [⟨some 118, .load 25 (.tmp 5), 25, .always⟩,
 ⟨none, .store 25 (.tmp 2) (.tmp 118), 0, .always⟩,
 ⟨some 3, .assign (.const (.bool true)), 4, .always⟩,
 ⟨some 4, .assign (.const (.int .i64 0)), 43, .always⟩] [2, 3, 4])
 (.ret))))))))
theorem w76 {args : List PV} {σ σ' : List Frm} {r : Ret} (hr : ∀ p, r = .val p → erV p = p) (h : wpP cfg s76 (QEndP cfg [.cell 2 25, .tmp 3, .tmp 4] σ' r) ⟨initEnv args, fun _ => [], σ, ⟨fun _ => false, 0⟩⟩) : CallsV cfg 76 args σ r σ' :=
 callsV_of_p follows cfgT a76 (fn := Tryd.f76) (c := Tryd.f76.body.getD .skip) (by kernel_rfl) (by kernel_rfl) (by kernel_rfl) (by kernel_rfl) (by kernel_rfl) (sc := s76) (by kernel_rfl) [.cell 2 25, .tmp 3, .tmp 4] (by kernel_rfl) hr h
def a24 : List Ann := [⟨[1, 2], [], []⟩,
 ⟨[1, 2, 4], [], []⟩,
 ⟨[1, 2, 4, 11], [], []⟩,
 ⟨[2, 3], [], []⟩,
 ⟨[2, 5, 6, 7], [], []⟩,
 ⟨[2, 5, 6, 7, 21], [], []⟩,
 ⟨[2, 3], [], []⟩,
 ⟨[2, 5, 25], [], []⟩,
 ⟨[2, 5], [], []⟩,
 ⟨[2, 3], [], []⟩]
def s24 : SC := .seq (.ops [⟨some 1, .box 29 (.tmp 0), 0, .always⟩,
 ⟨some 2, .alloc 25, 0, .always⟩,
 ⟨some 3, .assign (.const (.int .i64 0)), 43, .always⟩] [1, 2])
 (.seq (.seq (.ops [⟨some 8, .load 29 (.tmp 1), 29, .always⟩,
 ⟨some 9, .call { callee := .value (.func 75), args := #[.tmp 8], argTypes := #[29] }, 43, .always⟩,
 ⟨some 4, .assign (.tmp 9), 43, .always⟩] [1, 2, 4])
 (.seq (.ops [⟨some 10, .move (.tmp 4), 43, .always⟩,
 ⟨some 11, .binOp .neq 43 (.tmp 10) (.const (.int .i64 0)) 43, 4, .always⟩] [1, 2, 4, 11])
 (.cond (.tmp 11)
 (.seq (.ops [⟨some 12, .build 25 #[], 25, .always⟩,
 ⟨some 13, .move (.tmp 4), 43, .always⟩,
 ⟨none, .store 25 (.tmp 2) (.tmp 12), 0, .always⟩,
 ⟨some 3, .assign (.tmp 13), 43, .always⟩] [2, 3])
 (.ret))
 (.skip))))
 (.seq (.ops [⟨some 15, .load 29 (.tmp 1), 29, .always⟩,
 ⟨some 16, .call { callee := .value (.func 76), args := #[.tmp 15], argTypes := #[29] }, 101, .always⟩,
 ⟨some 14, .move (.tmp 16), 101, .always⟩,
 ⟨some 17, .extract (.tmp 14) 0, 25, .always⟩,
 ⟨some 18, .extract (.tmp 14) 1, 4, .always⟩,
 ⟨some 19, .extract (.tmp 14) 2, 43, .always⟩,
 ⟨some 5, .alloc 25, 0, .always⟩,
 ⟨none, .store 25 (.tmp 5) (.tmp 17), 0, .always⟩,
 ⟨some 6, .assign (.tmp 18), 4, .always⟩,
 ⟨some 7, .assign (.tmp 19), 43, .always⟩] [2, 5, 6, 7])
 (.seq (.seq (.ops [⟨some 20, .move (.tmp 7), 43, .always⟩,
 ⟨some 21, .binOp .neq 43 (.tmp 20) (.const (.int .i64 0)) 43, 4, .always⟩] [2, 5, 6, 7, 21])
 (.cond (.tmp 21)
 (.seq (.ops [⟨some 22, .build 25 #[], 25, .always⟩,
 ⟨some 23, .move (.tmp 7), 43, .always⟩,
 ⟨none, .store 25 (.tmp 2) (.tmp 22), 0, .always⟩,
 ⟨some 3, .assign (.tmp 23), 43, .always⟩] [2, 3])
 (.ret))
 (.skip)))
 (.seq (.seq (.ops [⟨some 24, .move (.tmp 6), 4, .always⟩,
 ⟨some 25, .unOp .not 4 (.tmp 24), 4, .always⟩] [2, 5, 25])
 (.cond (.tmp 25)
 (.ops [⟨some 26, .build 25 #[(0, .const (.int .i64 5))], 25, .always⟩,
 ⟨none, .store 25 (.tmp 5) (.tmp 26), 0, .always⟩] [2, 5])
 (.skip)))
 (.seq (.ops [⟨some 27, .load 25 (.tmp 5), 25, .always⟩,
 ⟨none, .store 25 (.tmp 2) (.tmp 27), 0, .always⟩,
 ⟨some 3, .assign (.const (.int .i64 0)), 43, .always⟩] [2, 3])
 (.ret))))))
theorem w24 {args : List PV} {σ σ' : List Frm} {r : Ret} (hr : ∀ p, r = .val p → erV p = p) (h : wpP cfg s24 (QEndP cfg [.cell 2 25, .tmp 3] σ' r) ⟨initEnv args, fun _ => [], σ, ⟨fun _ => false, 0⟩⟩) : CallsV cfg 24 args σ r σ' :=
 callsV_of_p follows cfgT a24 (fn := Tryd.f24) (c := Tryd.f24.body.getD .skip) (by kernel_rfl) (by kernel_rfl) (by kernel_rfl) (by kernel_rfl) (by kernel_rfl) (sc := s24) (by kernel_rfl) [.cell 2 25, .tmp 3] (by kernel_rfl) hr h
def a26 : List Ann := [⟨[2, 3], [], []⟩,
 ⟨[2, 3, 19], [], []⟩,
 ⟨[4], [], []⟩,
 ⟨[2, 3, 22, 23], [], []⟩,
 ⟨[2, 3, 22, 23, 24], [], []⟩,
 ⟨[2, 3, 5, 22, 23], [], []⟩,
 ⟨[2, 3, 22, 23, 37], [0, 1, 0, 7, 15, 0, 32, 0, 224, 480, 1023, 2047], [false, false, false, false, false, false, false, false, false, false, false, false]⟩,
 ⟨[4], [], []⟩,
 ⟨[2, 3, 22, 23], [], []⟩,
 ⟨[4], [], []⟩]
def s26 : SC := .seq (.ops [⟨some 2, .box 25 (.tmp 0), 0, .always⟩,
 ⟨some 3, .box 25 (.tmp 1), 0, .always⟩,
 ⟨some 4, .assign (.const (.bool false)), 4, .always⟩] [2, 3])
 (.seq (.seq (.ops [⟨some 6, .fieldAddr 25 (.tmp 2) 0, 0, .always⟩,
 ⟨some 7, .load 3 (.tmp 6), 3, .always⟩,
 ⟨some 8, .fieldAddr 25 (.tmp 3) 0, 0, .always⟩,
 ⟨some 9, .load 3 (.tmp 8), 3, .always⟩,
 ⟨some 10, .binOp .neq 3 (.tmp 7) (.tmp 9) 3, 4, .always⟩,
 ⟨some 11, .move (.tmp 10), 4, .always⟩,
 ⟨some 12, .fieldAddr 25 (.tmp 2) 1, 0, .tmp 11 false⟩,
 ⟨some 13, .load 23 (.tmp 12), 23, .tmp 11 false⟩,
 ⟨some 14, .call { callee := .builtin .len, args := #[.tmp 13], argTypes := #[23] }, 3, .tmp 11 false⟩,
 ⟨some 15, .fieldAddr 25 (.tmp 3) 1, 0, .tmp 11 false⟩,
 ⟨some 16, .load 23 (.tmp 15), 23, .tmp 11 false⟩,
 ⟨some 17, .call { callee := .builtin .len, args := #[.tmp 16], argTypes := #[23] }, 3, .tmp 11 false⟩,
 ⟨some 18, .binOp .neq 3 (.tmp 14) (.tmp 17) 3, 4, .tmp 11 false⟩,
 ⟨some 19, .pick (.tmp 11) (.const (.bool true)) (.tmp 18), 4, .always⟩] [2, 3, 19])
 (.cond (.tmp 19)
 (.seq (.ops [⟨some 4, .assign (.const (.bool false)), 4, .always⟩] [4])
 (.ret))
 (.skip)))
 (.seq (.seq (.ops [⟨some 20, .fieldAddr 25 (.tmp 2) 1, 0, .always⟩,
 ⟨some 21, .load 23 (.tmp 20), 23, .always⟩,
 ⟨some 22, .call { callee := .builtin .len, args := #[.tmp 21], argTypes := #[23] }, 3, .always⟩,
 ⟨some 23, .move (.const (.int .i64 0)), 3, .always⟩] [2, 3, 22, 23])
 (.block 0
 (.loop
 (.seq (.ops [⟨some 24, .binOp .lss 3 (.tmp 23) (.tmp 22) 3, 0, .always⟩] [2, 3, 22, 23, 24])
 (.seq (.cond (.tmp 24)
 (.skip)
 (.exit 0))
 (.seq (.block 1
 (.seq (.ops [⟨some 25, .move (.tmp 23), 3, .always⟩,
 ⟨some 5, .assign (.tmp 25), 3, .always⟩] [2, 3, 5, 22, 23])
 (.seq (.draw [⟨some 26, .fieldAddr 25 (.tmp 2) 1, 0, .always⟩,
 ⟨some 27, .load 23 (.tmp 26), 23, .always⟩,
 ⟨some 28, .move (.tmp 5), 3, .always⟩,
 ⟨some 29, .indexAddr 23 (.tmp 27) (.tmp 28), 0, .always⟩,
 ⟨some 30, .load 25 (.tmp 29), 25, .always⟩,
 ⟨some 31, .fieldAddr 25 (.tmp 3) 1, 0, .always⟩,
 ⟨some 32, .load 23 (.tmp 31), 23, .always⟩,
 ⟨some 33, .move (.tmp 5), 3, .always⟩,
 ⟨some 34, .indexAddr 23 (.tmp 32) (.tmp 33), 0, .always⟩,
 ⟨some 35, .load 25 (.tmp 34), 25, .always⟩,
 ⟨some 36, .call { callee := .value (.func 26), args := #[.tmp 30, .tmp 35], argTypes := #[25, 25] }, 4, .always⟩,
 ⟨some 37, .unOp .not 4 (.tmp 36), 4, .always⟩] [false, false, false, false, false, false, false, false, false, false, false, false] [2, 3, 22, 23, 37])
 (.cond (.tmp 37)
 (.seq (.ops [⟨some 4, .assign (.const (.bool false)), 4, .always⟩] [4])
 (.ret))
 (.skip)))))
 (.ops [⟨some 38, .binOp .add 3 (.tmp 23) (.const (.int .i64 1)) 3, 3, .always⟩,
 ⟨some 23, .move (.tmp 38), 3, .always⟩] [2, 3, 22, 23])))))))
 (.seq (.ops [⟨some 4, .assign (.const (.bool true)), 4, .always⟩] [4])
 (.ret))))
theorem w26 {args : List PV} {σ σ' : List Frm} {r : Ret} (hr : ∀ p, r = .val p → erV p = p) (h : wpP cfg s26 (QEndP cfg [.tmp 4] σ' r) ⟨initEnv args, fun _ => [], σ, ⟨fun _ => false, 0⟩⟩) : CallsV cfg 26 args σ r σ' :=
 callsV_of_p follows cfgT a26 (fn := Tryd.f26) (c := Tryd.f26.body.getD .skip) (by kernel_rfl) (by kernel_rfl) (by kernel_rfl) (by kernel_rfl) (by kernel_rfl) (sc := s26) (by kernel_rfl) [.tmp 4] (by kernel_rfl) hr h
def a131 : List Ann := [⟨[0], [], []⟩,
 ⟨[0, 8], [], []⟩,
 ⟨[2], [], []⟩,
 ⟨[9, 10, 11], [], []⟩,
 ⟨[9, 10, 11, 12], [], []⟩,
 ⟨[4, 9, 10, 11], [], []⟩,
 ⟨[5, 9, 10, 11], [], []⟩,
 ⟨[5, 9, 10, 11, 18], [], []⟩,
 ⟨[2], [], []⟩,
 ⟨[9, 10, 11], [], []⟩,
 ⟨[2], [], []⟩]
def s131 : SC := .seq (.ops [⟨some 2, .assign (.const (.int .i64 0)), 43, .always⟩] [0])
 (.seq (.seq (.ops [⟨some 6, .move (.tmp 0), 23, .always⟩,
 ⟨some 7, .call { callee := .builtin .len, args := #[.tmp 6], argTypes := #[23] }, 3, .always⟩,
 ⟨some 8, .binOp .gtr 3 (.tmp 7) (.const (.int .i64 16)) 3, 4, .always⟩] [0, 8])
 (.cond (.tmp 8)
 (.seq (.ops [⟨some 2, .assign (.const (.int .i64 3)), 43, .always⟩] [2])
 (.ret))
 (.skip)))
 (.seq (.seq (.ops [⟨some 9, .move (.tmp 0), 23, .always⟩,
 ⟨some 10, .call { callee := .builtin .len, args := #[.tmp 9], argTypes := #[23] }, 3, .always⟩,
 ⟨some 11, .move (.const (.int .i64 0)), 3, .always⟩] [9, 10, 11])
 (.block 0
 (.loop
 (.seq (.ops [⟨some 12, .binOp .lss 3 (.tmp 11) (.tmp 10) 3, 0, .always⟩] [9, 10, 11, 12])
 (.seq (.cond (.tmp 12)
 (.skip)
 (.exit 0))
 (.seq (.block 1
 (.seq (.ops [⟨some 13, .indexAddr 23 (.tmp 9) (.tmp 11), 0, .always⟩,
 ⟨some 14, .load 25 (.tmp 13), 25, .always⟩,
 ⟨some 4, .alloc 25, 0, .always⟩,
 ⟨none, .store 25 (.tmp 4) (.tmp 14), 0, .always⟩] [4, 9, 10, 11])
 (.seq (.ops [⟨some 15, .load 25 (.tmp 4), 25, .always⟩,
 ⟨some 16, .call { callee := .value (.func 159), args := #[.tmp 15], argTypes := #[25] }, 43, .always⟩,
 ⟨some 5, .assign (.tmp 16), 43, .always⟩] [5, 9, 10, 11])
 (.seq (.ops [⟨some 17, .move (.tmp 5), 43, .always⟩,
 ⟨some 18, .binOp .neq 43 (.tmp 17) (.const (.int .i64 0)) 43, 4, .always⟩] [5, 9, 10, 11, 18])
 (.cond (.tmp 18)
 (.seq (.ops [⟨some 19, .move (.tmp 5), 43, .always⟩,
 ⟨some 2, .assign (.tmp 19), 43, .always⟩] [2])
 (.ret))
 (.skip))))))
 (.ops [⟨some 20, .binOp .add 3 (.tmp 11) (.const (.int .i64 1)) 3, 3, .always⟩,
 ⟨some 11, .move (.tmp 20), 3, .always⟩] [9, 10, 11])))))))
 (.seq (.ops [⟨some 2, .assign (.const (.int .i64 0)), 43, .always⟩] [2])
 (.ret))))
theorem w131 {args : List PV} {σ σ' : List Frm} {r : Ret} (hr : ∀ p, r = .val p → erV p = p) (h : wpP cfg s131 (QEndP cfg [.tmp 2] σ' r) ⟨initEnv args, fun _ => [], σ, ⟨fun _ => false, 0⟩⟩) : CallsV cfg 131 args σ r σ' :=
 callsV_of_p follows cfgT a131 (fn := Tryd.f131) (c := Tryd.f131.body.getD .skip) (by kernel_rfl) (by kernel_rfl) (by kernel_rfl) (by kernel_rfl) (by kernel_rfl) (sc := s131) (by kernel_rfl) [.tmp 2] (by kernel_rfl) hr h
def a79 : List Ann := [⟨[1, 2, 3], [], []⟩,
 ⟨[1, 2, 3, 4], [], []⟩,
 ⟨[1, 2, 3, 4, 14], [], []⟩,
 ⟨[2, 3, 4], [], []⟩,
 ⟨[1, 2, 3, 19], [], []⟩,
 ⟨[2, 3, 4], [], []⟩,
 ⟨[1, 2, 3], [], []⟩,
 ⟨[2, 3, 25, 26, 27], [], []⟩,
 ⟨[2, 3, 25, 26, 27, 28], [], []⟩,
 ⟨[2, 3, 6, 25, 26, 27], [], []⟩,
 ⟨[2, 3, 4, 6, 25, 26, 27], [], []⟩,
 ⟨[2, 3, 4, 6, 25, 26, 27, 34], [], []⟩,
 ⟨[2, 3, 4], [], []⟩,
 ⟨[2, 3, 7, 8, 9, 25, 26, 27], [], []⟩,
 ⟨[2, 3, 25, 26, 27], [], []⟩,
 ⟨[2, 3, 7, 8, 9, 25, 26, 27, 45], [], []⟩,
 ⟨[2, 3, 4], [], []⟩,
 ⟨[2, 3, 7, 25, 26, 27, 49], [], []⟩,
 ⟨[2, 3, 7, 25, 26, 27], [], []⟩,
 ⟨[2, 3, 25, 26, 27], [], []⟩,
 ⟨[2, 3, 25, 26, 27], [], []⟩,
 ⟨[2, 3, 4], [], []⟩]
def s79 : SC := .seq (.ops [⟨some 1, .box 31 (.tmp 0), 0, .always⟩,
 ⟨some 2, .assign (.const (.slice none 0 0)), 23, .always⟩,
 ⟨some 3, .assign (.const (.slice none 0 0)), 22, .always⟩,
 ⟨some 4, .assign (.const (.int .i64 0)), 43, .always⟩] [1, 2, 3])
 (.seq (.seq (.ops [⟨some 10, .fieldAddr 31 (.tmp 1) 0, 0, .always⟩,
 ⟨some 11, .load 23 (.tmp 10), 23, .always⟩,
 ⟨some 12, .call { callee := .value (.func 131), args := #[.tmp 11], argTypes := #[23] }, 43, .always⟩,
 ⟨some 4, .assign (.tmp 12), 43, .always⟩] [1, 2, 3, 4])
 (.seq (.ops [⟨some 13, .move (.tmp 4), 43, .always⟩,
 ⟨some 14, .binOp .neq 43 (.tmp 13) (.const (.int .i64 0)) 43, 4, .always⟩] [1, 2, 3, 4, 14])
 (.cond (.tmp 14)
 (.seq (.ops [⟨some 15, .move (.tmp 4), 43, .always⟩,
 ⟨some 2, .assign (.const (.slice none 0 0)), 23, .always⟩,
 ⟨some 3, .assign (.const (.slice none 0 0)), 22, .always⟩,
 ⟨some 4, .assign (.tmp 15), 43, .always⟩] [2, 3, 4])
 (.ret))
 (.skip))))
 (.seq (.seq (.ops [⟨some 16, .fieldAddr 31 (.tmp 1) 1, 0, .always⟩,
 ⟨some 17, .load 27 (.tmp 16), 27, .always⟩,
 ⟨some 18, .call { callee := .builtin .len, args := #[.tmp 17], argTypes := #[27] }, 3, .always⟩,
 ⟨some 19, .binOp .gtr 3 (.tmp 18) (.const (.int .i64 16)) 3, 4, .always⟩] [1, 2, 3, 19])
 (.cond (.tmp 19)
 (.seq (.ops [⟨some 2, .assign (.const (.slice none 0 0)), 23, .always⟩,
 ⟨some 3, .assign (.const (.slice none 0 0)), 22, .always⟩,
 ⟨some 4, .assign (.const (.int .i64 3)), 43, .always⟩] [2, 3, 4])
 (.ret))
 (.skip)))
 (.seq (.ops [⟨some 20, .move (.tmp 2), 23, .always⟩,
 ⟨some 21, .fieldAddr 31 (.tmp 1) 0, 0, .always⟩,
 ⟨some 22, .load 23 (.tmp 21), 23, .always⟩,
 ⟨some 23, .call { callee := .builtin .append, args := #[.tmp 20, .tmp 22], argTypes := #[23, 23] }, 23, .always⟩,
 ⟨some 2, .assign (.tmp 23), 23, .always⟩] [1, 2, 3])
 (.seq (.seq (.ops [⟨some 24, .fieldAddr 31 (.tmp 1) 1, 0, .always⟩,
 ⟨some 25, .load 27 (.tmp 24), 27, .always⟩,
 ⟨some 26, .call { callee := .builtin .len, args := #[.tmp 25], argTypes := #[27] }, 3, .always⟩,
 ⟨some 27, .move (.const (.int .i64 0)), 3, .always⟩] [2, 3, 25, 26, 27])
 (.block 0
 (.loop
 (.seq (.ops [⟨some 28, .binOp .lss 3 (.tmp 27) (.tmp 26) 3, 0, .always⟩] [2, 3, 25, 26, 27, 28])
 (.seq (.cond (.tmp 28)
 (.skip)
 (.exit 0))
 (.seq (.block 1
 (.seq (.ops [⟨some 29, .indexAddr 27 (.tmp 25) (.tmp 27), 0, .always⟩,
 ⟨some 30, .load 29 (.tmp 29), 29, .always⟩,
 ⟨some 6, .alloc 29, 0, .always⟩,
 ⟨none, .store 29 (.tmp 6) (.tmp 30), 0, .always⟩] [2, 3, 6, 25, 26, 27])
 (.seq (.seq (.ops [⟨some 31, .load 29 (.tmp 6), 29, .always⟩,
 ⟨some 32, .call { callee := .value (.func 75), args := #[.tmp 31], argTypes := #[29] }, 43, .always⟩,
 ⟨some 4, .assign (.tmp 32), 43, .always⟩] [2, 3, 4, 6, 25, 26, 27])
 (.seq (.ops [⟨some 33, .move (.tmp 4), 43, .always⟩,
 ⟨some 34, .binOp .neq 43 (.tmp 33) (.const (.int .i64 0)) 43, 4, .always⟩] [2, 3, 4, 6, 25, 26, 27, 34])
 (.cond (.tmp 34)
 (.seq (.ops [⟨some 35, .move (.tmp 4), 43, .always⟩,
 ⟨some 2, .assign (.const (.slice none 0 0)), 23, .always⟩,
 ⟨some 3, .assign (.const (.slice none 0 0)), 22, .always⟩,
 ⟨some 4, .assign (.tmp 35), 43, .always⟩] [2, 3, 4])
 (.ret))
 (.skip))))
 (.seq (.ops [⟨some 37, .load 29 (.tmp 6), 29, .always⟩,
 ⟨some 38, .call { callee := .value (.func 76), args := #[.tmp 37], argTypes := #[29] }, 101, .always⟩,
 ⟨some 36, .move (.tmp 38), 101, .always⟩,
 ⟨some 39, .extract (.tmp 36) 0, 25, .always⟩,
 ⟨some 40, .extract (.tmp 36) 1, 4, .always⟩,
 ⟨some 41, .extract (.tmp 36) 2, 43, .always⟩,
 ⟨some 7, .alloc 25, 0, .always⟩,
 ⟨none, .store 25 (.tmp 7) (.tmp 39), 0, .always⟩,
 ⟨some 8, .assign (.tmp 40), 4, .always⟩,
 ⟨some 9, .assign (.tmp 41), 43, .always⟩] [2, 3, 7, 8, 9, 25, 26, 27])
 (.block 2
 (.seq (.ops [⟨some 46, .move (.tmp 9), 43, .always⟩,
 ⟨some 47, .binOp .neq 43 (.tmp 46) (.const (.int .i64 0)) 43, 4, .always⟩,
 ⟨some 45, .assign (.tmp 47), 4, .always⟩] [2, 3, 7, 8, 9, 25, 26, 27, 45])
 (.cond (.tmp 45)
 (.seq (.ops [⟨some 48, .move (.tmp 9), 43, .always⟩,
 ⟨some 2, .assign (.const (.slice none 0 0)), 23, .always⟩,
 ⟨some 3, .assign (.const (.slice none 0 0)), 22, .always⟩,
 ⟨some 4, .assign (.tmp 48), 43, .always⟩] [2, 3, 4])
 (.ret))
 (.seq (.ops [⟨some 50, .move (.tmp 8), 4, .always⟩,
 ⟨some 49, .assign (.tmp 50), 4, .always⟩] [2, 3, 7, 25, 26, 27, 49])
 (.cond (.tmp 49)
 (.seq (.ops [⟨some 51, .move (.tmp 3), 22, .always⟩,
 ⟨some 52, .move (.tmp 2), 23, .always⟩,
 ⟨some 53, .call { callee := .builtin .len, args := #[.tmp 52], argTypes := #[23] }, 3, .always⟩,
 ⟨some 54, .buildSlice 22 1 #[(0, .tmp 53)], 22, .always⟩,
 ⟨some 55, .call { callee := .builtin .append, args := #[.tmp 51, .tmp 54], argTypes := #[22, 22] }, 22, .always⟩,
 ⟨some 3, .assign (.tmp 55), 22, .always⟩] [2, 3, 7, 25, 26, 27])
 (.ops [⟨some 56, .move (.tmp 2), 23, .always⟩,
 ⟨some 57, .load 25 (.tmp 7), 25, .always⟩,
 ⟨some 58, .buildSlice 23 1 #[(0, .tmp 57)], 23, .always⟩,
 ⟨some 59, .call { callee := .builtin .append, args := #[.tmp 56, .tmp 58], argTypes := #[23, 23] }, 23, .always⟩,
 ⟨some 2, .assign (.tmp 59), 23, .always⟩] [2, 3, 25, 26, 27]))
 (.ops [⟨some 42, .move (.tmp 3), 22, .always⟩,
 ⟨some 43, .buildSlice 22 1 #[(0, .const (.int .i64 (-1)))], 22, .always⟩,
 ⟨some 44, .call { callee := .builtin .append, args := #[.tmp 42, .tmp 43], argTypes := #[22, 22] }, 22, .always⟩,
 ⟨some 3, .assign (.tmp 44), 22, .always⟩] [2, 3, 25, 26, 27]))))))))))
 (.ops [⟨some 60, .binOp .add 3 (.tmp 27) (.const (.int .i64 1)) 3, 3, .always⟩,
 ⟨some 27, .move (.tmp 60), 3, .always⟩] [2, 3, 25, 26, 27])))))))
 (.seq (.ops [⟨some 61, .move (.tmp 2), 23, .always⟩,
 ⟨some 62, .move (.tmp 3), 22, .always⟩,
 ⟨some 2, .assign (.tmp 61), 23, .always⟩,
 ⟨some 3, .assign (.tmp 62), 22, .always⟩,
 ⟨some 4, .assign (.const (.int .i64 0)), 43, .always⟩] [2, 3, 4])
 (.ret))))))
theorem w79 {args : List PV} {σ σ' : List Frm} {r : Ret} (hr : ∀ p, r = .val p → erV p = p) (h : wpP cfg s79 (QEndP cfg [.tmp 2, .tmp 3, .tmp 4] σ' r) ⟨initEnv args, fun _ => [], σ, ⟨fun _ => false, 0⟩⟩) : CallsV cfg 79 args σ r σ' :=
 callsV_of_p follows cfgT a79 (fn := Tryd.f79) (c := Tryd.f79.body.getD .skip) (by kernel_rfl) (by kernel_rfl) (by kernel_rfl) (by kernel_rfl) (by kernel_rfl) (sc := s79) (by kernel_rfl) [.tmp 2, .tmp 3, .tmp 4] (by kernel_rfl) hr h
def a27 : List Ann := [⟨[1], [], []⟩,
 ⟨[4, 6], [], []⟩,
 ⟨[2, 3], [], []⟩]
def s27 : SC := .seq (.ops [⟨some 1, .box 31 (.tmp 0), 0, .always⟩,
 ⟨some 2, .assign (.const (.slice none 0 0)), 23, .always⟩,
 ⟨some 3, .assign (.const (.int .i64 0)), 43, .always⟩] [1])
 (.seq (.ops [⟨some 8, .load 31 (.tmp 1), 31, .always⟩,
 ⟨some 9, .call { callee := .value (.func 79), args := #[.tmp 8], argTypes := #[31] }, 103, .always⟩,
 ⟨some 7, .move (.tmp 9), 103, .always⟩,
 ⟨some 10, .extract (.tmp 7) 0, 23, .always⟩,
 ⟨some 11, .extract (.tmp 7) 1, 22, .always⟩,
 ⟨some 12, .extract (.tmp 7) 2, 43, .always⟩,
 ⟨some 4, .assign (.tmp 10), 23, .always⟩,
 ⟨some 5, .assign (.tmp 11), 22, .always⟩,
 ⟨some 6, .assign (.tmp 12), 43, .always⟩] [4, 6])
 (.seq (.ops [⟨some 13, .move (.tmp 4), 23, .always⟩,
 ⟨some 14, .move (.tmp 6), 43, .always⟩,
 ⟨some 2, .assign (.tmp 13), 23, .always⟩,
 ⟨some 3, .assign (.tmp 14), 43, .always⟩] [2, 3])
 (.ret)))
theorem w27 {args : List PV} {σ σ' : List Frm} {r : Ret} (hr : ∀ p, r = .val p → erV p = p) (h : wpP cfg s27 (QEndP cfg [.tmp 2, .tmp 3] σ' r) ⟨initEnv args, fun _ => [], σ, ⟨fun _ => false, 0⟩⟩) : CallsV cfg 27 args σ r σ' :=
 callsV_of_p follows cfgT a27 (fn := Tryd.f27) (c := Tryd.f27.body.getD .skip) (by kernel_rfl) (by kernel_rfl) (by kernel_rfl) (by kernel_rfl) (by kernel_rfl) (sc := s27) (by kernel_rfl) [.tmp 2, .tmp 3] (by kernel_rfl) hr h
def a29 : List Ann := [⟨[1], [], []⟩,
 ⟨[5, 6], [], []⟩,
 ⟨[2, 3], [], []⟩]
def s29 : SC := .seq (.ops [⟨some 1, .box 31 (.tmp 0), 0, .always⟩,
 ⟨some 2, .assign (.const (.slice none 0 0)), 22, .always⟩,
 ⟨some 3, .assign (.const (.int .i64 0)), 43, .always⟩] [1])
 (.seq (.ops [⟨some 8, .load 31 (.tmp 1), 31, .always⟩,
 ⟨some 9, .call { callee := .value (.func 79), args := #[.tmp 8], argTypes := #[31] }, 103, .always⟩,
 ⟨some 7, .move (.tmp 9), 103, .always⟩,
 ⟨some 10, .extract (.tmp 7) 0, 23, .always⟩,
 ⟨some 11, .extract (.tmp 7) 1, 22, .always⟩,
 ⟨some 12, .extract (.tmp 7) 2, 43, .always⟩,
 ⟨some 4, .assign (.tmp 10), 23, .always⟩,
 ⟨some 5, .assign (.tmp 11), 22, .always⟩,
 ⟨some 6, .assign (.tmp 12), 43, .always⟩] [5, 6])
 (.seq (.ops [⟨some 13, .move (.tmp 5), 22, .always⟩,
 ⟨some 14, .move (.tmp 6), 43, .always⟩,
 ⟨some 2, .assign (.tmp 13), 22, .always⟩,
 ⟨some 3, .assign (.tmp 14), 43, .always⟩] [2, 3])
 (.ret)))
theorem w29 {args : List PV} {σ σ' : List Frm} {r : Ret} (hr : ∀ p, r = .val p → erV p = p) (h : wpP cfg s29 (QEndP cfg [.tmp 2, .tmp 3] σ' r) ⟨initEnv args, fun _ => [], σ, ⟨fun _ => false, 0⟩⟩) : CallsV cfg 29 args σ r σ' :=
 callsV_of_p follows cfgT a29 (fn := Tryd.f29) (c := Tryd.f29.body.getD .skip) (by kernel_rfl) (by kernel_rfl) (by kernel_rfl) (by kernel_rfl) (by kernel_rfl) (sc := s29) (by kernel_rfl) [.tmp 2, .tmp 3] (by kernel_rfl) hr h
def a41 : List Ann := [⟨[2, 3, 4], [], []⟩,
 ⟨[4], [], []⟩]
def s41 : SC := .seq (.ops [⟨some 2, .box 25 (.tmp 0), 0, .always⟩,
 ⟨some 3, .box 25 (.tmp 1), 0, .always⟩,
 ⟨some 4, .alloc 25, 0, .always⟩] [2, 3, 4])
 (.seq (.ops [⟨some 5, .load 25 (.tmp 2), 25, .always⟩,
 ⟨some 6, .load 25 (.tmp 3), 25, .always⟩,
 ⟨some 7, .buildSlice 23 2 #[(0, .tmp 5), (1, .tmp 6)], 23, .always⟩,
 ⟨some 8, .build 25 #[(0, .const (.int .i64 4)), (1, .tmp 7)], 25, .always⟩,
 ⟨none, .store 25 (.tmp 4) (.tmp 8), 0, .always⟩] [4])
 (.ret))
theorem w41 {args : List PV} {σ σ' : List Frm} {r : Ret} (hr : ∀ p, r = .val p → erV p = p) (h : wpP cfg s41 (QEndP cfg [.cell 4 25] σ' r) ⟨initEnv args, fun _ => [], σ, ⟨fun _ => false, 0⟩⟩) : CallsV cfg 41 args σ r σ' :=
 callsV_of_p follows cfgT a41 (fn := Tryd.f41) (c := Tryd.f41.body.getD .skip) (by kernel_rfl) (by kernel_rfl) (by kernel_rfl) (by kernel_rfl) (by kernel_rfl) (sc := s41) (by kernel_rfl) [.cell 4 25] (by kernel_rfl) hr h
def a105 : List Ann := [⟨[1, 2], [], []⟩,
 ⟨[1, 2, 3], [], []⟩,
 ⟨[1, 2, 3, 7, 8, 9], [], []⟩,
 ⟨[1, 2, 3, 7, 8, 9, 10], [], []⟩,
 ⟨[1, 2, 3, 5, 7, 8, 9], [], []⟩,
 ⟨[1, 2, 3, 7, 8, 9], [], []⟩,
 ⟨[1, 2, 3, 7, 8, 9], [], []⟩,
 ⟨[2], [], []⟩]
def s105 : SC := .seq (.ops [⟨some 1, .box 25 (.tmp 0), 0, .always⟩,
 ⟨some 2, .alloc 25, 0, .always⟩] [1, 2])
 (.seq (.ops [⟨some 3, .assign (.const (.slice none 0 0)), 23, .always⟩] [1, 2, 3])
 (.seq (.seq (.ops [⟨some 6, .fieldAddr 25 (.tmp 1) 1, 0, .always⟩,
 ⟨some 7, .load 23 (.tmp 6), 23, .always⟩,
 ⟨some 8, .call { callee := .builtin .len, args := #[.tmp 7], argTypes := #[23] }, 3, .always⟩,
 ⟨some 9, .move (.const (.int .i64 0)), 3, .always⟩] [1, 2, 3, 7, 8, 9])
 (.block 0
 (.loop
 (.seq (.ops [⟨some 10, .binOp .lss 3 (.tmp 9) (.tmp 8) 3, 0, .always⟩] [1, 2, 3, 7, 8, 9, 10])
 (.seq (.cond (.tmp 10)
 (.skip)
 (.exit 0))
 (.seq (.block 1
 (.seq (.ops [⟨some 11, .indexAddr 23 (.tmp 7) (.tmp 9), 0, .always⟩,
 ⟨some 12, .load 25 (.tmp 11), 25, .always⟩,
 ⟨some 5, .alloc 25, 0, .always⟩,
 ⟨none, .store 25 (.tmp 5) (.tmp 12), 0, .always⟩] [1, 2, 3, 5, 7, 8, 9])
 (.ops [⟨some 13, .move (.tmp 3), 23, .always⟩,
 ⟨some 14, .load 25 (.tmp 5), 25, .always⟩,
 ⟨some 15, .call { callee := .value (.func 105), args := #[.tmp 14], argTypes := #[25] }, 25, .always⟩,
 ⟨some 16, .buildSlice 23 1 #[(0, .tmp 15)], 23, .always⟩,
 ⟨some 17, .call { callee := .builtin .append, args := #[.tmp 13, .tmp 16], argTypes := #[23, 23] }, 23, .always⟩,
 ⟨some 3, .assign (.tmp 17), 23, .always⟩] [1, 2, 3, 7, 8, 9])))
 (.ops [⟨some 18, .binOp .add 3 (.tmp 9) (.const (.int .i64 1)) 3, 3, .always⟩,
 ⟨some 9, .move (.tmp 18), 3, .always⟩] [1, 2, 3, 7, 8, 9])))))))
 (.seq (.ops [⟨some 19, .fieldAddr 25 (.tmp 1) 0, 0, .always⟩,
 ⟨some 20, .load 3 (.tmp 19), 3, .always⟩,
 ⟨some 21, .move (.tmp 3), 23, .always⟩,
 ⟨some 22, .build 25 #[(0, .tmp 20), (1, .tmp 21)], 25, .always⟩,
 ⟨none, .store 25 (.tmp 2) (.tmp 22), 0, .always⟩] [2])
 (.ret))))
theorem w105 {args : List PV} {σ σ' : List Frm} {r : Ret} (hr : ∀ p, r = .val p → erV p = p) (h : wpP cfg s105 (QEndP cfg [.cell 2 25] σ' r) ⟨initEnv args, fun _ => [], σ, ⟨fun _ => false, 0⟩⟩) : CallsV cfg 105 args σ r σ' :=
 callsV_of_p follows cfgT a105 (fn := Tryd.f105) (c := Tryd.f105.body.getD .skip) (by kernel_rfl) (by kernel_rfl) (by kernel_rfl) (by kernel_rfl) (by kernel_rfl) (sc := s105) (by kernel_rfl) [.cell 2 25] (by kernel_rfl) hr h
def a115 : List Ann := [⟨[1, 2], [], []⟩,
 ⟨[1, 2, 3], [], []⟩,
 ⟨[1, 2, 3, 7, 8, 9], [], []⟩,
 ⟨[1, 2, 3, 7, 8, 9, 10], [], []⟩,
 ⟨[1, 2, 3, 5, 7, 8, 9], [], []⟩,
 ⟨[1, 2, 3, 7, 8, 9], [], []⟩,
 ⟨[1, 2, 3, 7, 8, 9], [], []⟩,
 ⟨[2], [0, 1, 0, 4, 0, 16, 48, 0, 255, 511], [false, true, false, true, false, false, true, false, false, false]⟩]
def s115 : SC := .seq (.ops [⟨some 1, .box 62 (.tmp 0), 0, .always⟩,
 ⟨some 2, .alloc 62, 0, .always⟩] [1, 2])
 (.seq (.ops [⟨some 3, .assign (.const (.slice none 0 0)), 26, .always⟩] [1, 2, 3])
 (.seq (.seq (.ops [⟨some 6, .fieldAddr 62 (.tmp 1) 3, 0, .always⟩,
 ⟨some 7, .load 26 (.tmp 6), 26, .always⟩,
 ⟨some 8, .call { callee := .builtin .len, args := #[.tmp 7], argTypes := #[26] }, 3, .always⟩,
 ⟨some 9, .move (.const (.int .i64 0)), 3, .always⟩] [1, 2, 3, 7, 8, 9])
 (.block 0
 (.loop
 (.seq (.ops [⟨some 10, .binOp .lss 3 (.tmp 9) (.tmp 8) 3, 0, .always⟩] [1, 2, 3, 7, 8, 9, 10])
 (.seq (.cond (.tmp 10)
 (.skip)
 (.exit 0))
 (.seq (.block 1
 (.seq (.ops [⟨some 11, .indexAddr 26 (.tmp 7) (.tmp 9), 0, .always⟩,
 ⟨some 12, .load 62 (.tmp 11), 62, .always⟩,
 ⟨some 5, .alloc 62, 0, .always⟩,
 ⟨none, .store 62 (.tmp 5) (.tmp 12), 0, .always⟩] [1, 2, 3, 5, 7, 8, 9])
 (.ops [⟨some 13, .move (.tmp 3), 26, .always⟩,
 ⟨some 14, .load 62 (.tmp 5), 62, .always⟩,
 ⟨some 15, .call { callee := .value (.func 115), args := #[.tmp 14], argTypes := #[62] }, 62, .always⟩,
 ⟨some 16, .buildSlice 26 1 #[(0, .tmp 15)], 26, .always⟩,
 ⟨some 17, .call { callee := .builtin .append, args := #[.tmp 13, .tmp 16], argTypes := #[26, 26] }, 26, .always⟩,
 ⟨some 3, .assign (.tmp 17), 26, .always⟩] [1, 2, 3, 7, 8, 9])))
 (.ops [⟨some 18, .binOp .add 3 (.tmp 9) (.const (.int .i64 1)) 3, 3, .always⟩,
 ⟨some 9, .move (.tmp 18), 3, .always⟩] [1, 2, 3, 7, 8, 9])))))))
 (.seq (.draw [⟨some 19, .fieldAddr 62 (.tmp 1) 0, 0, .always⟩,
 ⟨some 20, .load 3 (.tmp 19), 3, .always⟩,
 ⟨some 21, .fieldAddr 62 (.tmp 1) 1, 0, .always⟩,
 ⟨some 22, .load 3 (.tmp 21), 3, .always⟩,
 ⟨some 23, .fieldAddr 62 (.tmp 1) 2, 0, .always⟩,
 ⟨some 24, .load 25 (.tmp 23), 25, .always⟩,
 ⟨some 25, .call { callee := .value (.func 105), args := #[.tmp 24], argTypes := #[25] }, 25, .always⟩,
 ⟨some 26, .move (.tmp 3), 26, .always⟩,
 ⟨some 27, .build 62 #[(0, .tmp 20), (1, .tmp 22), (2, .tmp 25), (3, .tmp 26)], 62, .always⟩,
 ⟨none, .store 62 (.tmp 2) (.tmp 27), 0, .always⟩] [false, true, false, true, false, false, true, false, false, false] [2])
 (.ret))))
theorem w115 {args : List PV} {σ σ' : List Frm} {r : Ret} (hr : ∀ p, r = .val p → erV p = p) (h : wpP cfg s115 (QEndP cfg [.cell 2 62] σ' r) ⟨initEnv args, fun _ => [], σ, ⟨fun _ => false, 0⟩⟩) : CallsV cfg 115 args σ r σ' :=
 callsV_of_p follows cfgT a115 (fn := Tryd.f115) (c := Tryd.f115.body.getD .skip) (by kernel_rfl) (by kernel_rfl) (by kernel_rfl) (by kernel_rfl) (by kernel_rfl) (sc := s115) (by kernel_rfl) [.cell 2 62] (by kernel_rfl) hr h
def a56 : List Ann := [⟨[0, 1, 4], [], []⟩,
 ⟨[0, 1, 4, 5], [], []⟩,
 ⟨[0, 4, 5, 8, 9, 10], [], []⟩,
 ⟨[0, 4, 5, 8, 9, 10, 11], [], []⟩,
 ⟨[0, 4, 5, 7, 8, 9, 10], [], []⟩,
 ⟨[0, 4, 5, 8, 9, 10], [], []⟩,
 ⟨[0, 4, 5, 8, 9, 10], [], []⟩,
 ⟨[4], [], []⟩]
def s56 : SC := .seq (.ops [⟨some 4, .alloc 62, 0, .always⟩] [0, 1, 4])
 (.seq (.ops [⟨some 5, .assign (.const (.slice none 0 0)), 26, .always⟩] [0, 1, 4, 5])
 (.seq (.seq (.ops [⟨some 8, .move (.tmp 1), 26, .always⟩,
 ⟨some 9, .call { callee := .builtin .len, args := #[.tmp 8], argTypes := #[26] }, 3, .always⟩,
 ⟨some 10, .move (.const (.int .i64 0)), 3, .always⟩] [0, 4, 5, 8, 9, 10])
 (.block 0
 (.loop
 (.seq (.ops [⟨some 11, .binOp .lss 3 (.tmp 10) (.tmp 9) 3, 0, .always⟩] [0, 4, 5, 8, 9, 10, 11])
 (.seq (.cond (.tmp 11)
 (.skip)
 (.exit 0))
 (.seq (.block 1
 (.seq (.ops [⟨some 12, .indexAddr 26 (.tmp 8) (.tmp 10), 0, .always⟩,
 ⟨some 13, .load 62 (.tmp 12), 62, .always⟩,
 ⟨some 7, .alloc 62, 0, .always⟩,
 ⟨none, .store 62 (.tmp 7) (.tmp 13), 0, .always⟩] [0, 4, 5, 7, 8, 9, 10])
 (.ops [⟨some 14, .move (.tmp 5), 26, .always⟩,
 ⟨some 15, .load 62 (.tmp 7), 62, .always⟩,
 ⟨some 16, .call { callee := .value (.func 115), args := #[.tmp 15], argTypes := #[62] }, 62, .always⟩,
 ⟨some 17, .buildSlice 26 1 #[(0, .tmp 16)], 26, .always⟩,
 ⟨some 18, .call { callee := .builtin .append, args := #[.tmp 14, .tmp 17], argTypes := #[26, 26] }, 26, .always⟩,
 ⟨some 5, .assign (.tmp 18), 26, .always⟩] [0, 4, 5, 8, 9, 10])))
 (.ops [⟨some 19, .binOp .add 3 (.tmp 10) (.const (.int .i64 1)) 3, 3, .always⟩,
 ⟨some 10, .move (.tmp 19), 3, .always⟩] [0, 4, 5, 8, 9, 10])))))))
 (.seq (.ops [⟨some 20, .move (.tmp 0), 3, .always⟩,
 ⟨some 21, .move (.tmp 5), 26, .always⟩,
 ⟨some 22, .build 62 #[(0, .tmp 20), (3, .tmp 21)], 62, .always⟩,
 ⟨none, .store 62 (.tmp 4) (.tmp 22), 0, .always⟩] [4])
 (.ret))))
theorem w56 {args : List PV} {σ σ' : List Frm} {r : Ret} (hr : ∀ p, r = .val p → erV p = p) (h : wpP cfg s56 (QEndP cfg [.cell 4 62] σ' r) ⟨initEnv args, fun _ => [], σ, ⟨fun _ => false, 0⟩⟩) : CallsV cfg 56 args σ r σ' :=
 callsV_of_p follows cfgT a56 (fn := Tryd.f56) (c := Tryd.f56.body.getD .skip) (by kernel_rfl) (by kernel_rfl) (by kernel_rfl) (by kernel_rfl) (by kernel_rfl) (sc := s56) (by kernel_rfl) [.cell 4 62] (by kernel_rfl) hr h
def a74 : List Ann := [⟨[2, 3, 4], [], []⟩,
 ⟨[4], [0, 1, 0, 7, 15, 31, 63], [false, true, true, false, false, false, false]⟩]
def s74 : SC := .seq (.ops [⟨some 2, .box 62 (.tmp 0), 0, .always⟩,
 ⟨some 3, .box 62 (.tmp 1), 0, .always⟩,
 ⟨some 4, .alloc 29, 0, .always⟩] [2, 3, 4])
 (.seq (.draw [⟨some 5, .load 62 (.tmp 2), 62, .always⟩,
 ⟨some 6, .call { callee := .value (.func 115), args := #[.tmp 5], argTypes := #[62] }, 62, .always⟩,
 ⟨some 7, .load 62 (.tmp 3), 62, .always⟩,
 ⟨some 8, .call { callee := .value (.func 115), args := #[.tmp 7], argTypes := #[62] }, 62, .always⟩,
 ⟨some 9, .buildSlice 26 2 #[(0, .tmp 6), (1, .tmp 8)], 26, .always⟩,
 ⟨some 10, .build 29 #[(0, .const (.int .i64 1)), (2, .tmp 9)], 29, .always⟩,
 ⟨none, .store 29 (.tmp 4) (.tmp 10), 0, .always⟩] [false, true, true, false, false, false, false] [4])
 (.ret))
theorem w74 {args : List PV} {σ σ' : List Frm} {r : Ret} (hr : ∀ p, r = .val p → erV p = p) (h : wpP cfg s74 (QEndP cfg [.cell 4 29] σ' r) ⟨initEnv args, fun _ => [], σ, ⟨fun _ => false, 0⟩⟩) : CallsV cfg 74 args σ r σ' :=
 callsV_of_p follows cfgT a74 (fn := Tryd.f74) (c := Tryd.f74.body.getD .skip) (by kernel_rfl) (by kernel_rfl) (by kernel_rfl) (by kernel_rfl) (by kernel_rfl) (sc := s74) (by kernel_rfl) [.cell 4 29] (by kernel_rfl) hr h
def a69 : List Ann := [⟨[0], [], []⟩,
 ⟨[0], [], []⟩]
def s69 : SC := .seq (.ops [⟨some 0, .alloc 29, 0, .always⟩] [0])
 (.seq (.ops [⟨some 1, .call { callee := .value (.func 56), args := #[.const (.int .i64 4), .const (.slice none 0 0)], argTypes := #[3, 26] }, 62, .always⟩,
 ⟨some 2, .call { callee := .value (.func 56), args := #[.const (.int .i64 4), .const (.slice none 0 0)], argTypes := #[3, 26] }, 62, .always⟩,
 ⟨some 3, .buildSlice 26 1 #[(0, .tmp 2)], 26, .always⟩,
 ⟨some 4, .call { callee := .value (.func 56), args := #[.const (.int .i64 5), .tmp 3], argTypes := #[3, 26] }, 62, .always⟩,
 ⟨some 5, .call { callee := .value (.func 74), args := #[.tmp 1, .tmp 4], argTypes := #[62, 62] }, 29, .always⟩,
 ⟨none, .store 29 (.tmp 0) (.tmp 5), 0, .always⟩] [0])
 (.ret))
theorem w69 {args : List PV} {σ σ' : List Frm} {r : Ret} (hr : ∀ p, r = .val p → erV p = p) (h : wpP cfg s69 (QEndP cfg [.cell 0 29] σ' r) ⟨initEnv args, fun _ => [], σ, ⟨fun _ => false, 0⟩⟩) : CallsV cfg 69 args σ r σ' :=
 callsV_of_p follows cfgT a69 (fn := Tryd.f69) (c := Tryd.f69.body.getD .skip) (by kernel_rfl) (by kernel_rfl) (by kernel_rfl) (by kernel_rfl) (by kernel_rfl) (sc := s69) (by kernel_rfl) [.cell 0 29] (by kernel_rfl) hr h
def a15 : List Ann := [⟨[], [], []⟩,
 ⟨[1], [], []⟩,
 ⟨[1, 2], [0, 0, 0, 4, 14, 30, 63, 0, 255], [true, true, true, false, false, false, false, true, false]⟩,
 ⟨[1, 2, 3, 4], [], []⟩,
 ⟨[1, 2, 3, 4, 5, 6], [0, 1, 0, 0, 12, 31, 63, 127, 255, 255, 511, 2047], [true, false, true, true, false, false, false, false, false, false, false, false]⟩,
 ⟨[1, 3, 4, 5, 6, 7, 8], [0, 1, 0, 0, 12, 31, 63, 127, 255, 255, 511, 2047], [true, false, true, true, false, false, false, false, false, false, false, false]⟩,
 ⟨[0], [0, 1, 3, 7, 15, 31, 63, 127, 255, 511, 1023, 2047, 2047, 2047, 14335, 32767, 65535, 131071, 262143, 524287, 1048575, 2097151, 4194303, 8388607, 16777215, 33554431, 67108863, 134217727, 268435455, 536870911, 1073741823, 2147483647, 4294967295, 8589934591, 17179869183, 34359738367, 68719476735, 137438953471, 274877906943, 549755813887], [false, false, false, false, false, false, false, false, false, false, false, true, false, false, true, false, false, false, false, false, false, false, false, false, false, false, false, false, false, false, false, false, false, false, false, false, false, false, false, false]⟩]
def s15 : SC := .seq (.ops [⟨some 0, .assign (.const (.bool false)), 4, .always⟩] [])
 (.seq (.ops [⟨some 9, .build 25 #[(0, .const (.int .i64 1))], 25, .always⟩,
 ⟨some 1, .alloc 25, 0, .always⟩,
 ⟨none, .store 25 (.tmp 1) (.tmp 9), 0, .always⟩] [1])
 (.seq (.draw [⟨some 10, .load 25 (.tmp 1), 25, .always⟩,
 ⟨some 11, .load 25 (.tmp 1), 25, .always⟩,
 ⟨some 12, .call { callee := .value (.func 69), args := #[], argTypes := #[] }, 29, .always⟩,
 ⟨some 13, .buildSlice 27 1 #[(0, .tmp 12)], 27, .always⟩,
 ⟨some 14, .build 29 #[(0, .const (.int .i64 5)), (1, .tmp 11), (3, .tmp 13)], 29, .always⟩,
 ⟨some 15, .buildSlice 27 1 #[(0, .tmp 14)], 27, .always⟩,
 ⟨some 16, .build 29 #[(0, .const (.int .i64 4)), (1, .tmp 10), (3, .tmp 15)], 29, .always⟩,
 ⟨some 2, .alloc 29, 0, .always⟩,
 ⟨none, .store 29 (.tmp 2) (.tmp 16), 0, .always⟩] [true, true, true, false, false, false, false, true, false] [1, 2])
 (.seq (.ops [⟨some 18, .load 29 (.tmp 2), 29, .always⟩,
 ⟨some 19, .call { callee := .value (.func 24), args := #[.tmp 18], argTypes := #[29] }, 44, .always⟩,
 ⟨some 17, .move (.tmp 19), 44, .always⟩,
 ⟨some 20, .extract (.tmp 17) 0, 25, .always⟩,
 ⟨some 21, .extract (.tmp 17) 1, 43, .always⟩,
 ⟨some 3, .alloc 25, 0, .always⟩,
 ⟨none, .store 25 (.tmp 3) (.tmp 20), 0, .always⟩,
 ⟨some 4, .assign (.tmp 21), 43, .always⟩] [1, 2, 3, 4])
 (.seq (.draw [⟨some 23, .load 25 (.tmp 1), 25, .always⟩,
 ⟨some 24, .buildSlice 23 1 #[(0, .tmp 23)], 23, .always⟩,
 ⟨some 25, .call { callee := .value (.func 69), args := #[], argTypes := #[] }, 29, .always⟩,
 ⟨some 26, .load 29 (.tmp 2), 29, .always⟩,
 ⟨some 27, .buildSlice 27 2 #[(0, .tmp 25), (1, .tmp 26)], 27, .always⟩,
 ⟨some 28, .build 31 #[(0, .tmp 24), (1, .tmp 27)], 31, .always⟩,
 ⟨some 29, .call { callee := .value (.func 27), args := #[.tmp 28], argTypes := #[31] }, 48, .always⟩,
 ⟨some 22, .move (.tmp 29), 48, .always⟩,
 ⟨some 30, .extract (.tmp 22) 0, 23, .always⟩,
 ⟨some 31, .extract (.tmp 22) 1, 43, .always⟩,
 ⟨some 5, .assign (.tmp 30), 23, .always⟩,
 ⟨some 6, .assign (.tmp 31), 43, .always⟩] [true, false, true, true, false, false, false, false, false, false, false, false] [1, 2, 3, 4, 5, 6])
 (.seq (.draw [⟨some 33, .load 25 (.tmp 1), 25, .always⟩,
 ⟨some 34, .buildSlice 23 1 #[(0, .tmp 33)], 23, .always⟩,
 ⟨some 35, .call { callee := .value (.func 69), args := #[], argTypes := #[] }, 29, .always⟩,
 ⟨some 36, .load 29 (.tmp 2), 29, .always⟩,
 ⟨some 37, .buildSlice 27 2 #[(0, .tmp 35), (1, .tmp 36)], 27, .always⟩,
 ⟨some 38, .build 31 #[(0, .tmp 34), (1, .tmp 37)], 31, .always⟩,
 ⟨some 39, .call { callee := .value (.func 29), args := #[.tmp 38], argTypes := #[31] }, 50, .always⟩,
 ⟨some 32, .move (.tmp 39), 50, .always⟩,
 ⟨some 40, .extract (.tmp 32) 0, 22, .always⟩,
 ⟨some 41, .extract (.tmp 32) 1, 43, .always⟩,
 ⟨some 7, .assign (.tmp 40), 22, .always⟩,
 ⟨some 8, .assign (.tmp 41), 43, .always⟩] [true, false, true, true, false, false, false, false, false, false, false, false] [1, 3, 4, 5, 6, 7, 8])
 (.seq (.draw [⟨some 42, .move (.tmp 4), 43, .always⟩,
 ⟨some 43, .binOp .eql 43 (.tmp 42) (.const (.int .i64 0)) 43, 4, .always⟩,
 ⟨some 44, .move (.tmp 43), 4, .always⟩,
 ⟨some 45, .move (.tmp 6), 43, .tmp 44 true⟩,
 ⟨some 46, .binOp .eql 43 (.tmp 45) (.const (.int .i64 0)) 43, 4, .tmp 44 true⟩,
 ⟨some 47, .pick (.tmp 44) (.tmp 46) (.const (.bool false)), 4, .always⟩,
 ⟨some 48, .move (.tmp 47), 4, .always⟩,
 ⟨some 49, .move (.tmp 8), 43, .tmp 48 true⟩,
 ⟨some 50, .binOp .eql 43 (.tmp 49) (.const (.int .i64 0)) 43, 4, .tmp 48 true⟩,
 ⟨some 51, .pick (.tmp 48) (.tmp 50) (.const (.bool false)), 4, .always⟩,
 ⟨some 52, .move (.tmp 51), 4, .always⟩,
 ⟨some 53, .load 25 (.tmp 3), 25, .tmp 52 true⟩,
 ⟨some 54, .load 25 (.tmp 1), 25, .tmp 52 true⟩,
 ⟨some 55, .load 25 (.tmp 1), 25, .tmp 52 true⟩,
 ⟨some 56, .call { callee := .value (.func 41), args := #[.tmp 54, .tmp 55], argTypes := #[25, 25] }, 25, .tmp 52 true⟩,
 ⟨some 57, .call { callee := .value (.func 26), args := #[.tmp 53, .tmp 56], argTypes := #[25, 25] }, 4, .tmp 52 true⟩,
 ⟨some 58, .pick (.tmp 52) (.tmp 57) (.const (.bool false)), 4, .always⟩,
 ⟨some 59, .move (.tmp 58), 4, .always⟩,
 ⟨some 60, .move (.tmp 5), 23, .tmp 59 true⟩,
 ⟨some 61, .call { callee := .builtin .len, args := #[.tmp 60], argTypes := #[23] }, 3, .tmp 59 true⟩,
 ⟨some 62, .binOp .eql 3 (.tmp 61) (.const (.int .i64 2)) 3, 4, .tmp 59 true⟩,
 ⟨some 63, .pick (.tmp 59) (.tmp 62) (.const (.bool false)), 4, .always⟩,
 ⟨some 64, .move (.tmp 63), 4, .always⟩,
 ⟨some 65, .move (.tmp 7), 22, .tmp 64 true⟩,
 ⟨some 66, .call { callee := .builtin .len, args := #[.tmp 65], argTypes := #[22] }, 3, .tmp 64 true⟩,
 ⟨some 67, .binOp .eql 3 (.tmp 66) (.const (.int .i64 2)) 3, 4, .tmp 64 true⟩,
 ⟨some 68, .pick (.tmp 64) (.tmp 67) (.const (.bool false)), 4, .always⟩,
 ⟨some 69, .move (.tmp 68), 4, .always⟩,
 ⟨some 70, .move (.tmp 7), 22, .tmp 69 true⟩,
 ⟨some 71, .indexAddr 22 (.tmp 70) (.const (.int .i64 0)), 0, .tmp 69 true⟩,
 ⟨some 72, .load 3 (.tmp 71), 3, .tmp 69 true⟩,
 ⟨some 73, .binOp .eql 3 (.tmp 72) (.const (.int .i64 (-1))) 3, 4, .tmp 69 true⟩,
 ⟨some 74, .pick (.tmp 69) (.tmp 73) (.const (.bool false)), 4, .always⟩,
 ⟨some 75, .move (.tmp 74), 4, .always⟩,
 ⟨some 76, .move (.tmp 7), 22, .tmp 75 true⟩,
 ⟨some 77, .indexAddr 22 (.tmp 76) (.const (.int .i64 1)), 0, .tmp 75 true⟩,
 ⟨some 78, .load 3 (.tmp 77), 3, .tmp 75 true⟩,
 ⟨some 79, .binOp .eql 3 (.tmp 78) (.const (.int .i64 1)) 3, 4, .tmp 75 true⟩,
 ⟨some 80, .pick (.tmp 75) (.tmp 79) (.const (.bool false)), 4, .always⟩,
 ⟨some 0, .assign (.tmp 80), 4, .always⟩] [false, false, false, false, false, false, false, false, false, false, false, true, false, false, true, false, false, false, false, false, false, false, false, false, false, false, false, false, false, false, false, false, false, false, false, false, false, false, false, false] [0])
 (.ret)))))))
theorem w15 {args : List PV} {σ σ' : List Frm} {r : Ret} (hr : ∀ p, r = .val p → erV p = p) (h : wpP cfg s15 (QEndP cfg [.tmp 0] σ' r) ⟨initEnv args, fun _ => [], σ, ⟨fun _ => false, 0⟩⟩) : CallsV cfg 15 args σ r σ' :=
 callsV_of_p follows cfgT a15 (fn := Tryd.f15) (c := Tryd.f15.body.getD .skip) (by kernel_rfl) (by kernel_rfl) (by kernel_rfl) (by kernel_rfl) (by kernel_rfl) (sc := s15) (by kernel_rfl) [.tmp 0] (by kernel_rfl) hr h
def a16 : List Ann := [⟨[0], [], []⟩,
 ⟨[2], [], []⟩]
def s16 : SC := .seq (.ops [⟨some 2, .assign (.const (.bool false)), 4, .always⟩] [0])
 (.seq (.ops [⟨some 3, .move (.tmp 0), 22, .always⟩,
 ⟨some 4, .call { callee := .builtin .len, args := #[.tmp 3], argTypes := #[22] }, 3, .always⟩,
 ⟨some 5, .binOp .leq 3 (.tmp 4) (.const (.int .i64 500)) 3, 4, .always⟩,
 ⟨some 2, .assign (.tmp 5), 4, .always⟩] [2])
 (.ret))
theorem w16 {args : List PV} {σ σ' : List Frm} {r : Ret} (hr : ∀ p, r = .val p → erV p = p) (h : wpP cfg s16 (QEndP cfg [.tmp 2] σ' r) ⟨initEnv args, fun _ => [], σ, ⟨fun _ => false, 0⟩⟩) : CallsV cfg 16 args σ r σ' :=
 callsV_of_p follows cfgT a16 (fn := Tryd.f16) (c := Tryd.f16.body.getD .skip) (by kernel_rfl) (by kernel_rfl) (by kernel_rfl) (by kernel_rfl) (by kernel_rfl) (sc := s16) (by kernel_rfl) [.tmp 2] (by kernel_rfl) hr h
def a17 : List Ann := [⟨[0], [], []⟩,
 ⟨[0], [], []⟩]
def s17 : SC := .seq (.ops [⟨some 0, .alloc 35, 0, .always⟩] [0])
 (.seq (.ops [⟨some 1, .build 35 #[], 35, .always⟩,
 ⟨none, .store 35 (.tmp 0) (.tmp 1), 0, .always⟩] [0])
 (.ret))
theorem w17 {args : List PV} {σ σ' : List Frm} {r : Ret} (hr : ∀ p, r = .val p → erV p = p) (h : wpP cfg s17 (QEndP cfg [.cell 0 35] σ' r) ⟨initEnv args, fun _ => [], σ, ⟨fun _ => false, 0⟩⟩) : CallsV cfg 17 args σ r σ' :=
 callsV_of_p follows cfgT a17 (fn := Tryd.f17) (c := Tryd.f17.body.getD .skip) (by kernel_rfl) (by kernel_rfl) (by kernel_rfl) (by kernel_rfl) (by kernel_rfl) (sc := s17) (by kernel_rfl) [.cell 0 35] (by kernel_rfl) hr h
def a20 : List Ann := [⟨[1], [], []⟩,
 ⟨[2], [], []⟩]
def s20 : SC := .seq (.ops [⟨some 1, .box 35 (.tmp 0), 0, .always⟩,
 ⟨some 2, .assign (.const (.bool false)), 4, .always⟩] [1])
 (.seq (.ops [⟨some 3, .fieldAddr 35 (.tmp 1) 0, 0, .always⟩,
 ⟨some 4, .load 3 (.tmp 3), 3, .always⟩,
 ⟨some 5, .binOp .leq 3 (.tmp 4) (.const (.int .i64 20000)) 3, 4, .always⟩,
 ⟨some 2, .assign (.tmp 5), 4, .always⟩] [2])
 (.ret))
theorem w20 {args : List PV} {σ σ' : List Frm} {r : Ret} (hr : ∀ p, r = .val p → erV p = p) (h : wpP cfg s20 (QEndP cfg [.tmp 2] σ' r) ⟨initEnv args, fun _ => [], σ, ⟨fun _ => false, 0⟩⟩) : CallsV cfg 20 args σ r σ' :=
 callsV_of_p follows cfgT a20 (fn := Tryd.f20) (c := Tryd.f20.body.getD .skip) (by kernel_rfl) (by kernel_rfl) (by kernel_rfl) (by kernel_rfl) (by kernel_rfl) (sc := s20) (by kernel_rfl) [.tmp 2] (by kernel_rfl) hr h
def a124 : List Ann := [⟨[1, 2], [], []⟩,
 ⟨[1, 2, 5], [], []⟩,
 ⟨[1, 2, 5, 6], [], []⟩,
 ⟨[1, 2, 5, 6, 16], [], []⟩,
 ⟨[1, 2, 5, 6], [], []⟩,
 ⟨[1, 2, 5, 6], [], []⟩,
 ⟨[4], [], []⟩]
def s124 : SC := .seq (.ops [⟨some 2, .box 25 (.tmp 0), 0, .always⟩,
 ⟨some 4, .assign (.const (.int .i64 0)), 3, .always⟩] [1, 2])
 (.seq (.ops [⟨some 5, .assign (.const (.int .i64 1)), 3, .always⟩] [1, 2, 5])
 (.seq (.seq (.ops [⟨some 6, .assign (.const (.int .i64 0)), 3, .always⟩] [1, 2, 5, 6])
 (.block 0
 (.loop
 (.seq (.seq (.ops [⟨some 7, .move (.tmp 6), 3, .always⟩,
 ⟨some 8, .fieldAddr 25 (.tmp 2) 1, 0, .always⟩,
 ⟨some 9, .load 23 (.tmp 8), 23, .always⟩,
 ⟨some 10, .call { callee := .builtin .len, args := #[.tmp 9], argTypes := #[23] }, 3, .always⟩,
 ⟨some 11, .binOp .lss 3 (.tmp 7) (.tmp 10) 3, 4, .always⟩,
 ⟨some 12, .move (.tmp 11), 4, .always⟩,
 ⟨some 13, .move (.tmp 5), 3, .tmp 12 true⟩,
 ⟨some 14, .move (.tmp 1), 3, .tmp 12 true⟩,
 ⟨some 15, .binOp .leq 3 (.tmp 13) (.tmp 14) 3, 4, .tmp 12 true⟩,
 ⟨some 16, .pick (.tmp 12) (.tmp 15) (.const (.bool false)), 4, .always⟩] [1, 2, 5, 6, 16])
 (.cond (.tmp 16)
 (.skip)
 (.exit 0)))
 (.seq (.block 1
 (.ops [⟨some 19, .move (.tmp 5), 3, .always⟩,
 ⟨some 20, .fieldAddr 25 (.tmp 2) 1, 0, .always⟩,
 ⟨some 21, .load 23 (.tmp 20), 23, .always⟩,
 ⟨some 22, .move (.tmp 6), 3, .always⟩,
 ⟨some 23, .indexAddr 23 (.tmp 21) (.tmp 22), 0, .always⟩,
 ⟨some 24, .load 25 (.tmp 23), 25, .always⟩,
 ⟨some 25, .move (.tmp 1), 3, .always⟩,
 ⟨some 26, .move (.tmp 5), 3, .always⟩,
 ⟨some 27, .binOp .sub 3 (.tmp 25) (.tmp 26) 3, 3, .always⟩,
 ⟨some 28, .call { callee := .value (.func 124), args := #[.tmp 24, .tmp 27], argTypes := #[25, 3] }, 3, .always⟩,
 ⟨some 29, .binOp .add 3 (.tmp 19) (.tmp 28) 3, 3, .always⟩,
 ⟨some 5, .assign (.tmp 29), 3, .always⟩] [1, 2, 5, 6]))
 (.ops [⟨some 17, .move (.tmp 6), 3, .always⟩,
 ⟨some 18, .binOp .add 3 (.tmp 17) (.const (.int .i64 1)) 3, 3, .always⟩,
 ⟨some 6, .assign (.tmp 18), 3, .always⟩] [1, 2, 5, 6]))))))
 (.seq (.ops [⟨some 30, .move (.tmp 5), 3, .always⟩,
 ⟨some 4, .assign (.tmp 30), 3, .always⟩] [4])
 (.ret))))
theorem w124 {args : List PV} {σ σ' : List Frm} {r : Ret} (hr : ∀ p, r = .val p → erV p = p) (h : wpP cfg s124 (QEndP cfg [.tmp 4] σ' r) ⟨initEnv args, fun _ => [], σ, ⟨fun _ => false, 0⟩⟩) : CallsV cfg 124 args σ r σ' :=
 callsV_of_p follows cfgT a124 (fn := Tryd.f124) (c := Tryd.f124.body.getD .skip) (by kernel_rfl) (by kernel_rfl) (by kernel_rfl) (by kernel_rfl) (by kernel_rfl) (sc := s124) (by kernel_rfl) [.tmp 4] (by kernel_rfl) hr h
def a125 : List Ann := [⟨[1, 2], [], []⟩,
 ⟨[1, 2, 5], [], []⟩,
 ⟨[1, 2, 5, 6], [], []⟩,
 ⟨[1, 2, 5, 6, 22], [], []⟩,
 ⟨[1, 2, 5, 6], [], []⟩,
 ⟨[1, 2, 5, 6], [], []⟩,
 ⟨[4], [], []⟩]
def s125 : SC := .seq (.ops [⟨some 2, .box 62 (.tmp 0), 0, .always⟩,
 ⟨some 4, .assign (.const (.int .i64 0)), 3, .always⟩] [1, 2])
 (.seq (.ops [⟨some 7, .fieldAddr 62 (.tmp 2) 2, 0, .always⟩,
 ⟨some 8, .load 25 (.tmp 7), 25, .always⟩,
 ⟨some 9, .move (.tmp 1), 3, .always⟩,
 ⟨some 10, .binOp .sub 3 (.tmp 9) (.const (.int .i64 1)) 3, 3, .always⟩,
 ⟨some 11, .call { callee := .value (.func 124), args := #[.tmp 8, .tmp 10], argTypes := #[25, 3] }, 3, .always⟩,
 ⟨some 12, .binOp .add 3 (.const (.int .i64 1)) (.tmp 11) 3, 3, .always⟩,
 ⟨some 5, .assign (.tmp 12), 3, .always⟩] [1, 2, 5])
 (.seq (.seq (.ops [⟨some 6, .assign (.const (.int .i64 0)), 3, .always⟩] [1, 2, 5, 6])
 (.block 0
 (.loop
 (.seq (.seq (.ops [⟨some 13, .move (.tmp 6), 3, .always⟩,
 ⟨some 14, .fieldAddr 62 (.tmp 2) 3, 0, .always⟩,
 ⟨some 15, .load 26 (.tmp 14), 26, .always⟩,
 ⟨some 16, .call { callee := .builtin .len, args := #[.tmp 15], argTypes := #[26] }, 3, .always⟩,
 ⟨some 17, .binOp .lss 3 (.tmp 13) (.tmp 16) 3, 4, .always⟩,
 ⟨some 18, .move (.tmp 17), 4, .always⟩,
 ⟨some 19, .move (.tmp 5), 3, .tmp 18 true⟩,
 ⟨some 20, .move (.tmp 1), 3, .tmp 18 true⟩,
 ⟨some 21, .binOp .leq 3 (.tmp 19) (.tmp 20) 3, 4, .tmp 18 true⟩,
 ⟨some 22, .pick (.tmp 18) (.tmp 21) (.const (.bool false)), 4, .always⟩] [1, 2, 5, 6, 22])
 (.cond (.tmp 22)
 (.skip)
 (.exit 0)))
 (.seq (.block 1
 (.ops [⟨some 25, .move (.tmp 5), 3, .always⟩,
 ⟨some 26, .fieldAddr 62 (.tmp 2) 3, 0, .always⟩,
 ⟨some 27, .load 26 (.tmp 26), 26, .always⟩,
 ⟨some 28, .move (.tmp 6), 3, .always⟩,
 ⟨some 29, .indexAddr 26 (.tmp 27) (.tmp 28), 0, .always⟩,
 ⟨some 30, .load 62 (.tmp 29), 62, .always⟩,
 ⟨some 31, .move (.tmp 1), 3, .always⟩,
 ⟨some 32, .move (.tmp 5), 3, .always⟩,
 ⟨some 33, .binOp .sub 3 (.tmp 31) (.tmp 32) 3, 3, .always⟩,
 ⟨some 34, .call { callee := .value (.func 125), args := #[.tmp 30, .tmp 33], argTypes := #[62, 3] }, 3, .always⟩,
 ⟨some 35, .binOp .add 3 (.tmp 25) (.tmp 34) 3, 3, .always⟩,
 ⟨some 5, .assign (.tmp 35), 3, .always⟩] [1, 2, 5, 6]))
 (.ops [⟨some 23, .move (.tmp 6), 3, .always⟩,
 ⟨some 24, .binOp .add 3 (.tmp 23) (.const (.int .i64 1)) 3, 3, .always⟩,
 ⟨some 6, .assign (.tmp 24), 3, .always⟩] [1, 2, 5, 6]))))))
 (.seq (.ops [⟨some 36, .move (.tmp 5), 3, .always⟩,
 ⟨some 4, .assign (.tmp 36), 3, .always⟩] [4])
 (.ret))))
theorem w125 {args : List PV} {σ σ' : List Frm} {r : Ret} (hr : ∀ p, r = .val p → erV p = p) (h : wpP cfg s125 (QEndP cfg [.tmp 4] σ' r) ⟨initEnv args, fun _ => [], σ, ⟨fun _ => false, 0⟩⟩) : CallsV cfg 125 args σ r σ' :=
 callsV_of_p follows cfgT a125 (fn := Tryd.f125) (c := Tryd.f125.body.getD .skip) (by kernel_rfl) (by kernel_rfl) (by kernel_rfl) (by kernel_rfl) (by kernel_rfl) (sc := s125) (by kernel_rfl) [.tmp 4] (by kernel_rfl) hr h
def a70 : List Ann := [⟨[1, 2], [], []⟩,
 ⟨[1, 2, 5], [], []⟩,
 ⟨[1, 2, 5, 6], [], []⟩,
 ⟨[1, 2, 5, 6, 23], [], []⟩,
 ⟨[1, 2, 5, 6], [], []⟩,
 ⟨[1, 2, 5, 6], [], []⟩,
 ⟨[1, 2, 5, 7], [], []⟩,
 ⟨[1, 2, 5, 7, 46], [], []⟩,
 ⟨[1, 2, 5, 7], [], []⟩,
 ⟨[1, 2, 5, 7], [], []⟩,
 ⟨[4], [], []⟩]
def s70 : SC := .seq (.ops [⟨some 2, .box 29 (.tmp 0), 0, .always⟩,
 ⟨some 4, .assign (.const (.int .i64 0)), 3, .always⟩] [1, 2])
 (.seq (.ops [⟨some 8, .fieldAddr 29 (.tmp 2) 1, 0, .always⟩,
 ⟨some 9, .load 25 (.tmp 8), 25, .always⟩,
 ⟨some 10, .move (.tmp 1), 3, .always⟩,
 ⟨some 11, .binOp .sub 3 (.tmp 10) (.const (.int .i64 1)) 3, 3, .always⟩,
 ⟨some 12, .call { callee := .value (.func 124), args := #[.tmp 9, .tmp 11], argTypes := #[25, 3] }, 3, .always⟩,
 ⟨some 13, .binOp .add 3 (.const (.int .i64 1)) (.tmp 12) 3, 3, .always⟩,
 ⟨some 5, .assign (.tmp 13), 3, .always⟩] [1, 2, 5])
 (.seq (.seq (.ops [⟨some 6, .assign (.const (.int .i64 0)), 3, .always⟩] [1, 2, 5, 6])
 (.block 0
 (.loop
 (.seq (.seq (.ops [⟨some 14, .move (.tmp 6), 3, .always⟩,
 ⟨some 15, .fieldAddr 29 (.tmp 2) 2, 0, .always⟩,
 ⟨some 16, .load 26 (.tmp 15), 26, .always⟩,
 ⟨some 17, .call { callee := .builtin .len, args := #[.tmp 16], argTypes := #[26] }, 3, .always⟩,
 ⟨some 18, .binOp .lss 3 (.tmp 14) (.tmp 17) 3, 4, .always⟩,
 ⟨some 19, .move (.tmp 18), 4, .always⟩,
 ⟨some 20, .move (.tmp 5), 3, .tmp 19 true⟩,
 ⟨some 21, .move (.tmp 1), 3, .tmp 19 true⟩,
 ⟨some 22, .binOp .leq 3 (.tmp 20) (.tmp 21) 3, 4, .tmp 19 true⟩,
 ⟨some 23, .pick (.tmp 19) (.tmp 22) (.const (.bool false)), 4, .always⟩] [1, 2, 5, 6, 23])
 (.cond (.tmp 23)
 (.skip)
 (.exit 0)))
 (.seq (.block 1
 (.ops [⟨some 26, .move (.tmp 5), 3, .always⟩,
 ⟨some 27, .fieldAddr 29 (.tmp 2) 2, 0, .always⟩,
 ⟨some 28, .load 26 (.tmp 27), 26, .always⟩,
 ⟨some 29, .move (.tmp 6), 3, .always⟩,
 ⟨some 30, .indexAddr 26 (.tmp 28) (.tmp 29), 0, .always⟩,
 ⟨some 31, .load 62 (.tmp 30), 62, .always⟩,
 ⟨some 32, .move (.tmp 1), 3, .always⟩,
 ⟨some 33, .move (.tmp 5), 3, .always⟩,
 ⟨some 34, .binOp .sub 3 (.tmp 32) (.tmp 33) 3, 3, .always⟩,
 ⟨some 35, .call { callee := .value (.func 125), args := #[.tmp 31, .tmp 34], argTypes := #[62, 3] }, 3, .always⟩,
 ⟨some 36, .binOp .add 3 (.tmp 26) (.tmp 35) 3, 3, .always⟩,
 ⟨some 5, .assign (.tmp 36), 3, .always⟩] [1, 2, 5, 6]))
 (.ops [⟨some 24, .move (.tmp 6), 3, .always⟩,
 ⟨some 25, .binOp .add 3 (.tmp 24) (.const (.int .i64 1)) 3, 3, .always⟩,
 ⟨some 6, .assign (.tmp 25), 3, .always⟩] [1, 2, 5, 6]))))))
 (.seq (.seq (.ops [⟨some 7, .assign (.const (.int .i64 0)), 3, .always⟩] [1, 2, 5, 7])
 (.block 2
 (.loop
 (.seq (.seq (.ops [⟨some 37, .move (.tmp 7), 3, .always⟩,
 ⟨some 38, .fieldAddr 29 (.tmp 2) 3, 0, .always⟩,
 ⟨some 39, .load 27 (.tmp 38), 27, .always⟩,
 ⟨some 40, .call { callee := .builtin .len, args := #[.tmp 39], argTypes := #[27] }, 3, .always⟩,
 ⟨some 41, .binOp .lss 3 (.tmp 37) (.tmp 40) 3, 4, .always⟩,
 ⟨some 42, .move (.tmp 41), 4, .always⟩,
 ⟨some 43, .move (.tmp 5), 3, .tmp 42 true⟩,
 ⟨some 44, .move (.tmp 1), 3, .tmp 42 true⟩,
 ⟨some 45, .binOp .leq 3 (.tmp 43) (.tmp 44) 3, 4, .tmp 42 true⟩,
 ⟨some 46, .pick (.tmp 42) (.tmp 45) (.const (.bool false)), 4, .always⟩] [1, 2, 5, 7, 46])
 (.cond (.tmp 46)
 (.skip)
 (.exit 2)))
 (.seq (.block 3
 (.ops [⟨some 49, .move (.tmp 5), 3, .always⟩,
 ⟨some 50, .fieldAddr 29 (.tmp 2) 3, 0, .always⟩,
 ⟨some 51, .load 27 (.tmp 50), 27, .always⟩,
 ⟨some 52, .move (.tmp 7), 3, .always⟩,
 ⟨some 53, .indexAddr 27 (.tmp 51) (.tmp 52), 0, .always⟩,
 ⟨some 54, .load 29 (.tmp 53), 29, .always⟩,
 ⟨some 55, .move (.tmp 1), 3, .always⟩,
 ⟨some 56, .move (.tmp 5), 3, .always⟩,
 ⟨some 57, .binOp .sub 3 (.tmp 55) (.tmp 56) 3, 3, .always⟩,
 ⟨some 58, .call { callee := .value (.func 70), args := #[.tmp 54, .tmp 57], argTypes := #[29, 3] }, 3, .always⟩,
 ⟨some 59, .binOp .add 3 (.tmp 49) (.tmp 58) 3, 3, .always⟩,
 ⟨some 5, .assign (.tmp 59), 3, .always⟩] [1, 2, 5, 7]))
 (.ops [⟨some 47, .move (.tmp 7), 3, .always⟩,
 ⟨some 48, .binOp .add 3 (.tmp 47) (.const (.int .i64 1)) 3, 3, .always⟩,
 ⟨some 7, .assign (.tmp 48), 3, .always⟩] [1, 2, 5, 7]))))))
 (.seq (.ops [⟨some 60, .move (.tmp 5), 3, .always⟩,
 ⟨some 4, .assign (.tmp 60), 3, .always⟩] [4])
 (.ret)))))
theorem w70 {args : List PV} {σ σ' : List Frm} {r : Ret} (hr : ∀ p, r = .val p → erV p = p) (h : wpP cfg s70 (QEndP cfg [.tmp 4] σ' r) ⟨initEnv args, fun _ => [], σ, ⟨fun _ => false, 0⟩⟩) : CallsV cfg 70 args σ r σ' :=
 callsV_of_p follows cfgT a70 (fn := Tryd.f70) (c := Tryd.f70.body.getD .skip) (by kernel_rfl) (by kernel_rfl) (by kernel_rfl) (by kernel_rfl) (by kernel_rfl) (sc := s70) (by kernel_rfl) [.tmp 4] (by kernel_rfl) hr h
def a18 : List Ann := [⟨[1, 2, 4], [], []⟩,
 ⟨[1, 2, 4, 5], [], []⟩,
 ⟨[1, 2, 4, 5, 13], [], []⟩,
 ⟨[1, 2, 4, 5], [], []⟩,
 ⟨[1, 2, 4, 5], [0, 1, 0, 0, 12, 28, 60, 127, 255, 511], [false, true, false, false, false, false, true, false, false, false]⟩,
 ⟨[4], [], []⟩]
def s18 : SC := .seq (.ops [⟨some 2, .box 35 (.tmp 0), 0, .always⟩,
 ⟨some 4, .alloc 35, 0, .always⟩] [1, 2, 4])
 (.seq (.seq (.ops [⟨some 5, .assign (.const (.int .i64 0)), 3, .always⟩] [1, 2, 4, 5])
 (.block 0
 (.loop
 (.seq (.seq (.ops [⟨some 6, .move (.tmp 5), 3, .always⟩,
 ⟨some 7, .move (.tmp 1), 27, .always⟩,
 ⟨some 8, .call { callee := .builtin .len, args := #[.tmp 7], argTypes := #[27] }, 3, .always⟩,
 ⟨some 9, .binOp .lss 3 (.tmp 6) (.tmp 8) 3, 4, .always⟩,
 ⟨some 10, .move (.tmp 9), 4, .always⟩,
 ⟨some 11, .load 35 (.tmp 2), 35, .tmp 10 true⟩,
 ⟨some 12, .call { callee := .value (.func 20), args := #[.tmp 11], argTypes := #[35] }, 4, .tmp 10 true⟩,
 ⟨some 13, .pick (.tmp 10) (.tmp 12) (.const (.bool false)), 4, .always⟩] [1, 2, 4, 5, 13])
 (.cond (.tmp 13)
 (.skip)
 (.exit 0)))
 (.seq (.block 1
 (.draw [⟨some 16, .fieldAddr 35 (.tmp 2) 0, 0, .always⟩,
 ⟨some 17, .load 3 (.tmp 16), 3, .always⟩,
 ⟨some 18, .move (.tmp 1), 27, .always⟩,
 ⟨some 19, .move (.tmp 5), 3, .always⟩,
 ⟨some 20, .indexAddr 27 (.tmp 18) (.tmp 19), 0, .always⟩,
 ⟨some 21, .load 29 (.tmp 20), 29, .always⟩,
 ⟨some 22, .call { callee := .value (.func 70), args := #[.tmp 21, .const (.int .i64 20000)], argTypes := #[29, 3] }, 3, .always⟩,
 ⟨some 23, .binOp .add 3 (.tmp 17) (.tmp 22) 3, 3, .always⟩,
 ⟨some 24, .fieldAddr 35 (.tmp 2) 0, 0, .always⟩,
 ⟨none, .store 3 (.tmp 24) (.tmp 23), 0, .always⟩] [false, true, false, false, false, false, true, false, false, false] [1, 2, 4, 5]))
 (.ops [⟨some 14, .move (.tmp 5), 3, .always⟩,
 ⟨some 15, .binOp .add 3 (.tmp 14) (.const (.int .i64 1)) 3, 3, .always⟩,
 ⟨some 5, .assign (.tmp 15), 3, .always⟩] [1, 2, 4, 5]))))))
 (.seq (.ops [⟨some 25, .load 35 (.tmp 2), 35, .always⟩,
 ⟨none, .store 35 (.tmp 4) (.tmp 25), 0, .always⟩] [4])
 (.ret)))
theorem w18 {args : List PV} {σ σ' : List Frm} {r : Ret} (hr : ∀ p, r = .val p → erV p = p) (h : wpP cfg s18 (QEndP cfg [.cell 4 35] σ' r) ⟨initEnv args, fun _ => [], σ, ⟨fun _ => false, 0⟩⟩) : CallsV cfg 18 args σ r σ' :=
 callsV_of_p follows cfgT a18 (fn := Tryd.f18) (c := Tryd.f18.body.getD .skip) (by kernel_rfl) (by kernel_rfl) (by kernel_rfl) (by kernel_rfl) (by kernel_rfl) (sc := s18) (by kernel_rfl) [.cell 4 35] (by kernel_rfl) hr h
def a71 : List Ann := [⟨[1, 2, 4], [], []⟩,
 ⟨[1, 2, 4, 5], [], []⟩,
 ⟨[1, 2, 4, 5, 13], [], []⟩,
 ⟨[1, 2, 4, 5], [], []⟩,
 ⟨[1, 2, 4, 5], [0, 1, 0, 0, 12, 28, 60, 127, 255, 511], [false, true, false, false, false, false, true, false, false, false]⟩,
 ⟨[4], [], []⟩]
def s71 : SC := .seq (.ops [⟨some 2, .box 35 (.tmp 0), 0, .always⟩,
 ⟨some 4, .alloc 35, 0, .always⟩] [1, 2, 4])
 (.seq (.seq (.ops [⟨some 5, .assign (.const (.int .i64 0)), 3, .always⟩] [1, 2, 4, 5])
 (.block 0
 (.loop
 (.seq (.seq (.ops [⟨some 6, .move (.tmp 5), 3, .always⟩,
 ⟨some 7, .move (.tmp 1), 23, .always⟩,
 ⟨some 8, .call { callee := .builtin .len, args := #[.tmp 7], argTypes := #[23] }, 3, .always⟩,
 ⟨some 9, .binOp .lss 3 (.tmp 6) (.tmp 8) 3, 4, .always⟩,
 ⟨some 10, .move (.tmp 9), 4, .always⟩,
 ⟨some 11, .load 35 (.tmp 2), 35, .tmp 10 true⟩,
 ⟨some 12, .call { callee := .value (.func 20), args := #[.tmp 11], argTypes := #[35] }, 4, .tmp 10 true⟩,
 ⟨some 13, .pick (.tmp 10) (.tmp 12) (.const (.bool false)), 4, .always⟩] [1, 2, 4, 5, 13])
 (.cond (.tmp 13)
 (.skip)
 (.exit 0)))
 (.seq (.block 1
 (.draw [⟨some 16, .fieldAddr 35 (.tmp 2) 0, 0, .always⟩,
 ⟨some 17, .load 3 (.tmp 16), 3, .always⟩,
 ⟨some 18, .move (.tmp 1), 23, .always⟩,
 ⟨some 19, .move (.tmp 5), 3, .always⟩,
 ⟨some 20, .indexAddr 23 (.tmp 18) (.tmp 19), 0, .always⟩,
 ⟨some 21, .load 25 (.tmp 20), 25, .always⟩,
 ⟨some 22, .call { callee := .value (.func 124), args := #[.tmp 21, .const (.int .i64 20000)], argTypes := #[25, 3] }, 3, .always⟩,
 ⟨some 23, .binOp .add 3 (.tmp 17) (.tmp 22) 3, 3, .always⟩,
 ⟨some 24, .fieldAddr 35 (.tmp 2) 0, 0, .always⟩,
 ⟨none, .store 3 (.tmp 24) (.tmp 23), 0, .always⟩] [false, true, false, false, false, false, true, false, false, false] [1, 2, 4, 5]))
 (.ops [⟨some 14, .move (.tmp 5), 3, .always⟩,
 ⟨some 15, .binOp .add 3 (.tmp 14) (.const (.int .i64 1)) 3, 3, .always⟩,
 ⟨some 5, .assign (.tmp 15), 3, .always⟩] [1, 2, 4, 5]))))))
 (.seq (.ops [⟨some 25, .load 35 (.tmp 2), 35, .always⟩,
 ⟨none, .store 35 (.tmp 4) (.tmp 25), 0, .always⟩] [4])
 (.ret)))
theorem w71 {args : List PV} {σ σ' : List Frm} {r : Ret} (hr : ∀ p, r = .val p → erV p = p) (h : wpP cfg s71 (QEndP cfg [.cell 4 35] σ' r) ⟨initEnv args, fun _ => [], σ, ⟨fun _ => false, 0⟩⟩) : CallsV cfg 71 args σ r σ' :=
 callsV_of_p follows cfgT a71 (fn := Tryd.f71) (c := Tryd.f71.body.getD .skip) (by kernel_rfl) (by kernel_rfl) (by kernel_rfl) (by kernel_rfl) (by kernel_rfl) (sc := s71) (by kernel_rfl) [.cell 4 35] (by kernel_rfl) hr h
def a19 : List Ann := [⟨[2, 3, 4], [], []⟩,
 ⟨[4], [0, 0, 2, 7, 0, 16, 63, 127], [false, false, false, true, false, true, false, false]⟩]
def s19 : SC := .seq (.ops [⟨some 2, .box 35 (.tmp 0), 0, .always⟩,
 ⟨some 3, .box 31 (.tmp 1), 0, .always⟩,
 ⟨some 4, .alloc 35, 0, .always⟩] [2, 3, 4])
 (.seq (.draw [⟨some 5, .load 35 (.tmp 2), 35, .always⟩,
 ⟨some 6, .fieldAddr 31 (.tmp 3) 0, 0, .always⟩,
 ⟨some 7, .load 23 (.tmp 6), 23, .always⟩,
 ⟨some 8, .call { callee := .value (.func 71), args := #[.tmp 5, .tmp 7], argTypes := #[35, 23] }, 35, .always⟩,
 ⟨some 9, .fieldAddr 31 (.tmp 3) 1, 0, .always⟩,
 ⟨some 10, .load 27 (.tmp 9), 27, .always⟩,
 ⟨some 11, .call { callee := .value (.func 18), args := #[.tmp 8, .tmp 10], argTypes := #[35, 27] }, 35, .always⟩,
 ⟨none, .store 35 (.tmp 4) (.tmp 11), 0, .always⟩] [false, false, false, true, false, true, false, false] [4])
 (.ret))
theorem w19 {args : List PV} {σ σ' : List Frm} {r : Ret} (hr : ∀ p, r = .val p → erV p = p) (h : wpP cfg s19 (QEndP cfg [.cell 4 35] σ' r) ⟨initEnv args, fun _ => [], σ, ⟨fun _ => false, 0⟩⟩) : CallsV cfg 19 args σ r σ' :=
 callsV_of_p follows cfgT a19 (fn := Tryd.f19) (c := Tryd.f19.body.getD .skip) (by kernel_rfl) (by kernel_rfl) (by kernel_rfl) (by kernel_rfl) (by kernel_rfl) (sc := s19) (by kernel_rfl) [.cell 4 35] (by kernel_rfl) hr h
def a21 : List Ann := [⟨[0], [], []⟩,
 ⟨[2], [], []⟩]
def s21 : SC := .seq (.ops [⟨some 2, .assign (.const (.pointer none)), 39, .always⟩] [0])
 (.seq (.ops [⟨some 3, .move (.tmp 0), 22, .always⟩,
 ⟨some 4, .build 97 #[(0, .tmp 3)], 97, .always⟩,
 ⟨some 5, .box 97 (.tmp 4), 39, .always⟩,
 ⟨some 2, .assign (.tmp 5), 39, .always⟩] [2])
 (.ret))
theorem w21 {args : List PV} {σ σ' : List Frm} {r : Ret} (hr : ∀ p, r = .val p → erV p = p) (h : wpP cfg s21 (QEndP cfg [.tmp 2] σ' r) ⟨initEnv args, fun _ => [], σ, ⟨fun _ => false, 0⟩⟩) : CallsV cfg 21 args σ r σ' :=
 callsV_of_p follows cfgT a21 (fn := Tryd.f21) (c := Tryd.f21.body.getD .skip) (by kernel_rfl) (by kernel_rfl) (by kernel_rfl) (by kernel_rfl) (by kernel_rfl) (sc := s21) (by kernel_rfl) [.tmp 2] (by kernel_rfl) hr h
def a65 : List Ann := [⟨[0, 1], [], []⟩,
 ⟨[4], [], []⟩]
def s65 : SC := .seq (.ops [⟨some 4, .assign (.const (.int .i64 0)), 3, .always⟩] [0, 1])
 (.seq (.ops [⟨some 5, .move (.tmp 0), 3, .always⟩,
 ⟨some 6, .move (.tmp 1), 3, .always⟩,
 ⟨some 7, .binOp .rem 3 (.tmp 5) (.tmp 6) 3, 3, .always⟩,
 ⟨some 8, .move (.tmp 1), 3, .always⟩,
 ⟨some 9, .binOp .add 3 (.tmp 7) (.tmp 8) 3, 3, .always⟩,
 ⟨some 10, .move (.tmp 1), 3, .always⟩,
 ⟨some 11, .binOp .rem 3 (.tmp 9) (.tmp 10) 3, 3, .always⟩,
 ⟨some 4, .assign (.tmp 11), 3, .always⟩] [4])
 (.ret))
theorem w65 {args : List PV} {σ σ' : List Frm} {r : Ret} (hr : ∀ p, r = .val p → erV p = p) (h : wpP cfg s65 (QEndP cfg [.tmp 4] σ' r) ⟨initEnv args, fun _ => [], σ, ⟨fun _ => false, 0⟩⟩) : CallsV cfg 65 args σ r σ' :=
 callsV_of_p follows cfgT a65 (fn := Tryd.f65) (c := Tryd.f65.body.getD .skip) (by kernel_rfl) (by kernel_rfl) (by kernel_rfl) (by kernel_rfl) (by kernel_rfl) (sc := s65) (by kernel_rfl) [.tmp 4] (by kernel_rfl) hr h
def a36 : List Ann := [⟨[0, 1], [], []⟩,
 ⟨[0, 1, 19], [0, 1, 3, 7, 15, 31, 63, 7, 135, 391, 903, 1927, 4095, 8191], [false, false, false, false, false, false, false, false, false, false, false, false, false, false]⟩,
 ⟨[4], [], []⟩,
 ⟨[0, 1, 5], [0, 1, 3, 7, 0, 16, 48, 112, 255, 511, 1023], [false, false, false, false, false, false, false, false, false, false, false]⟩,
 ⟨[1, 5], [], []⟩,
 ⟨[4], [], []⟩]
def s36 : SC := .seq (.ops [⟨some 4, .assign (.const (.int .i64 0)), 3, .always⟩] [0, 1])
 (.seq (.seq (.draw [⟨some 6, .move (.tmp 1), 3, .always⟩,
 ⟨some 7, .binOp .lss 3 (.tmp 6) (.const (.int .i64 1)) 3, 4, .always⟩,
 ⟨some 8, .move (.tmp 7), 4, .always⟩,
 ⟨some 9, .move (.tmp 0), 39, .tmp 8 false⟩,
 ⟨some 10, .nilCheck (.tmp 9), 0, .tmp 8 false⟩,
 ⟨some 11, .fieldAddr 97 (.tmp 10) 1, 0, .tmp 8 false⟩,
 ⟨some 12, .load 3 (.tmp 11), 3, .tmp 8 false⟩,
 ⟨some 13, .move (.tmp 0), 39, .tmp 8 false⟩,
 ⟨some 14, .nilCheck (.tmp 13), 0, .tmp 8 false⟩,
 ⟨some 15, .fieldAddr 97 (.tmp 14) 0, 0, .tmp 8 false⟩,
 ⟨some 16, .load 22 (.tmp 15), 22, .tmp 8 false⟩,
 ⟨some 17, .call { callee := .builtin .len, args := #[.tmp 16], argTypes := #[22] }, 3, .tmp 8 false⟩,
 ⟨some 18, .binOp .geq 3 (.tmp 12) (.tmp 17) 3, 4, .tmp 8 false⟩,
 ⟨some 19, .pick (.tmp 8) (.const (.bool true)) (.tmp 18), 4, .always⟩] [false, false, false, false, false, false, false, false, false, false, false, false, false, false] [0, 1, 19])
 (.cond (.tmp 19)
 (.seq (.ops [⟨some 4, .assign (.const (.int .i64 0)), 3, .always⟩] [4])
 (.ret))
 (.skip)))
 (.seq (.draw [⟨some 20, .move (.tmp 0), 39, .always⟩,
 ⟨some 21, .nilCheck (.tmp 20), 0, .always⟩,
 ⟨some 22, .fieldAddr 97 (.tmp 21) 0, 0, .always⟩,
 ⟨some 23, .load 22 (.tmp 22), 22, .always⟩,
 ⟨some 24, .move (.tmp 0), 39, .always⟩,
 ⟨some 25, .nilCheck (.tmp 24), 0, .always⟩,
 ⟨some 26, .fieldAddr 97 (.tmp 25) 1, 0, .always⟩,
 ⟨some 27, .load 3 (.tmp 26), 3, .always⟩,
 ⟨some 28, .indexAddr 22 (.tmp 23) (.tmp 27), 0, .always⟩,
 ⟨some 29, .load 3 (.tmp 28), 3, .always⟩,
 ⟨some 5, .assign (.tmp 29), 3, .always⟩] [false, false, false, false, false, false, false, false, false, false, false] [0, 1, 5])
 (.seq (.ops [⟨some 30, .move (.tmp 0), 39, .always⟩,
 ⟨some 31, .nilCheck (.tmp 30), 0, .always⟩,
 ⟨some 32, .fieldAddr 97 (.tmp 31) 1, 0, .always⟩,
 ⟨some 33, .load 3 (.tmp 32), 3, .always⟩,
 ⟨some 34, .binOp .add 3 (.tmp 33) (.const (.int .i64 1)) 3, 3, .always⟩,
 ⟨some 35, .nilCheck (.tmp 30), 0, .always⟩,
 ⟨some 36, .fieldAddr 97 (.tmp 35) 1, 0, .always⟩,
 ⟨none, .store 3 (.tmp 36) (.tmp 34), 0, .always⟩] [1, 5])
 (.seq (.ops [⟨some 37, .move (.tmp 5), 3, .always⟩,
 ⟨some 38, .move (.tmp 1), 3, .always⟩,
 ⟨some 39, .call { callee := .value (.func 65), args := #[.tmp 37, .tmp 38], argTypes := #[3, 3] }, 3, .always⟩,
 ⟨some 4, .assign (.tmp 39), 3, .always⟩] [4])
 (.ret)))))
theorem w36 {args : List PV} {σ σ' : List Frm} {r : Ret} (hr : ∀ p, r = .val p → erV p = p) (h : wpP cfg s36 (QEndP cfg [.tmp 4] σ' r) ⟨initEnv args, fun _ => [], σ, ⟨fun _ => false, 0⟩⟩) : CallsV cfg 36 args σ r σ' :=
 callsV_of_p follows cfgT a36 (fn := Tryd.f36) (c := Tryd.f36.body.getD .skip) (by kernel_rfl) (by kernel_rfl) (by kernel_rfl) (by kernel_rfl) (by kernel_rfl) (sc := s36) (by kernel_rfl) [.tmp 4] (by kernel_rfl) hr h
def a73 : List Ann := [⟨[0], [], []⟩,
 ⟨[0], [], []⟩]
def s73 : SC := .seq (.ops [⟨some 0, .alloc 25, 0, .always⟩] [0])
 (.seq (.ops [⟨some 1, .build 25 #[(0, .const (.int .i64 1))], 25, .always⟩,
 ⟨none, .store 25 (.tmp 0) (.tmp 1), 0, .always⟩] [0])
 (.ret))
theorem w73 {args : List PV} {σ σ' : List Frm} {r : Ret} (hr : ∀ p, r = .val p → erV p = p) (h : wpP cfg s73 (QEndP cfg [.cell 0 25] σ' r) ⟨initEnv args, fun _ => [], σ, ⟨fun _ => false, 0⟩⟩) : CallsV cfg 73 args σ r σ' :=
 callsV_of_p follows cfgT a73 (fn := Tryd.f73) (c := Tryd.f73.body.getD .skip) (by kernel_rfl) (by kernel_rfl) (by kernel_rfl) (by kernel_rfl) (by kernel_rfl) (sc := s73) (by kernel_rfl) [.cell 0 25] (by kernel_rfl) hr h
def a95 : List Ann := [⟨[0], [], []⟩,
 ⟨[0], [], []⟩]
def s95 : SC := .seq (.ops [⟨some 0, .alloc 25, 0, .always⟩] [0])
 (.seq (.ops [⟨some 1, .build 25 #[(0, .const (.int .i64 2))], 25, .always⟩,
 ⟨none, .store 25 (.tmp 0) (.tmp 1), 0, .always⟩] [0])
 (.ret))
theorem w95 {args : List PV} {σ σ' : List Frm} {r : Ret} (hr : ∀ p, r = .val p → erV p = p) (h : wpP cfg s95 (QEndP cfg [.cell 0 25] σ' r) ⟨initEnv args, fun _ => [], σ, ⟨fun _ => false, 0⟩⟩) : CallsV cfg 95 args σ r σ' :=
 callsV_of_p follows cfgT a95 (fn := Tryd.f95) (c := Tryd.f95.body.getD .skip) (by kernel_rfl) (by kernel_rfl) (by kernel_rfl) (by kernel_rfl) (by kernel_rfl) (sc := s95) (by kernel_rfl) [.cell 0 25] (by kernel_rfl) hr h
def a100 : List Ann := [⟨[0], [], []⟩,
 ⟨[0], [], []⟩]
def s100 : SC := .seq (.ops [⟨some 0, .alloc 25, 0, .always⟩] [0])
 (.seq (.ops [⟨some 1, .build 25 #[(0, .const (.int .i64 5))], 25, .always⟩,
 ⟨none, .store 25 (.tmp 0) (.tmp 1), 0, .always⟩] [0])
 (.ret))
theorem w100 {args : List PV} {σ σ' : List Frm} {r : Ret} (hr : ∀ p, r = .val p → erV p = p) (h : wpP cfg s100 (QEndP cfg [.cell 0 25] σ' r) ⟨initEnv args, fun _ => [], σ, ⟨fun _ => false, 0⟩⟩) : CallsV cfg 100 args σ r σ' :=
 callsV_of_p follows cfgT a100 (fn := Tryd.f100) (c := Tryd.f100.body.getD .skip) (by kernel_rfl) (by kernel_rfl) (by kernel_rfl) (by kernel_rfl) (by kernel_rfl) (sc := s100) (by kernel_rfl) [.cell 0 25] (by kernel_rfl) hr h
def a101 : List Ann := [⟨[2, 3, 4], [], []⟩,
 ⟨[4], [0, 1, 0, 7, 15, 31, 63], [false, true, true, false, false, false, false]⟩]
def s101 : SC := .seq (.ops [⟨some 2, .box 25 (.tmp 0), 0, .always⟩,
 ⟨some 3, .box 25 (.tmp 1), 0, .always⟩,
 ⟨some 4, .alloc 25, 0, .always⟩] [2, 3, 4])
 (.seq (.draw [⟨some 5, .load 25 (.tmp 2), 25, .always⟩,
 ⟨some 6, .call { callee := .value (.func 105), args := #[.tmp 5], argTypes := #[25] }, 25, .always⟩,
 ⟨some 7, .load 25 (.tmp 3), 25, .always⟩,
 ⟨some 8, .call { callee := .value (.func 105), args := #[.tmp 7], argTypes := #[25] }, 25, .always⟩,
 ⟨some 9, .buildSlice 23 2 #[(0, .tmp 6), (1, .tmp 8)], 23, .always⟩,
 ⟨some 10, .build 25 #[(0, .const (.int .i64 3)), (1, .tmp 9)], 25, .always⟩,
 ⟨none, .store 25 (.tmp 4) (.tmp 10), 0, .always⟩] [false, true, true, false, false, false, false] [4])
 (.ret))
theorem w101 {args : List PV} {σ σ' : List Frm} {r : Ret} (hr : ∀ p, r = .val p → erV p = p) (h : wpP cfg s101 (QEndP cfg [.cell 4 25] σ' r) ⟨initEnv args, fun _ => [], σ, ⟨fun _ => false, 0⟩⟩) : CallsV cfg 101 args σ r σ' :=
 callsV_of_p follows cfgT a101 (fn := Tryd.f101) (c := Tryd.f101.body.getD .skip) (by kernel_rfl) (by kernel_rfl) (by kernel_rfl) (by kernel_rfl) (by kernel_rfl) (sc := s101) (by kernel_rfl) [.cell 4 25] (by kernel_rfl) hr h
def a102 : List Ann := [⟨[2, 3, 4], [], []⟩,
 ⟨[4], [0, 1, 0, 7, 15, 31, 63], [false, true, true, false, false, false, false]⟩]
def s102 : SC := .seq (.ops [⟨some 2, .box 25 (.tmp 0), 0, .always⟩,
 ⟨some 3, .box 25 (.tmp 1), 0, .always⟩,
 ⟨some 4, .alloc 25, 0, .always⟩] [2, 3, 4])
 (.seq (.draw [⟨some 5, .load 25 (.tmp 2), 25, .always⟩,
 ⟨some 6, .call { callee := .value (.func 105), args := #[.tmp 5], argTypes := #[25] }, 25, .always⟩,
 ⟨some 7, .load 25 (.tmp 3), 25, .always⟩,
 ⟨some 8, .call { callee := .value (.func 105), args := #[.tmp 7], argTypes := #[25] }, 25, .always⟩,
 ⟨some 9, .buildSlice 23 2 #[(0, .tmp 6), (1, .tmp 8)], 23, .always⟩,
 ⟨some 10, .build 25 #[(0, .const (.int .i64 4)), (1, .tmp 9)], 25, .always⟩,
 ⟨none, .store 25 (.tmp 4) (.tmp 10), 0, .always⟩] [false, true, true, false, false, false, false] [4])
 (.ret))
theorem w102 {args : List PV} {σ σ' : List Frm} {r : Ret} (hr : ∀ p, r = .val p → erV p = p) (h : wpP cfg s102 (QEndP cfg [.cell 4 25] σ' r) ⟨initEnv args, fun _ => [], σ, ⟨fun _ => false, 0⟩⟩) : CallsV cfg 102 args σ r σ' :=
 callsV_of_p follows cfgT a102 (fn := Tryd.f102) (c := Tryd.f102.body.getD .skip) (by kernel_rfl) (by kernel_rfl) (by kernel_rfl) (by kernel_rfl) (by kernel_rfl) (sc := s102) (by kernel_rfl) [.cell 4 25] (by kernel_rfl) hr h
def a42 : List Ann := [⟨[0, 1, 4], [], []⟩,
 ⟨[0, 1, 4, 6], [], []⟩,
 ⟨[0, 1, 4, 6, 7], [], []⟩,
 ⟨[0, 1, 4, 6, 7], [], []⟩,
 ⟨[0, 1, 4, 6, 7], [], []⟩,
 ⟨[4], [], []⟩,
 ⟨[0, 1, 4, 6, 12], [], []⟩,
 ⟨[4], [], []⟩,
 ⟨[0, 1, 4, 6, 15], [], []⟩,
 ⟨[4], [], []⟩,
 ⟨[0, 1, 4, 6, 18], [], []⟩,
 ⟨[0, 1, 4, 21], [], []⟩,
 ⟨[4], [], []⟩,
 ⟨[0, 1, 4, 31], [], []⟩,
 ⟨[0, 1, 4, 34], [], []⟩,
 ⟨[4], [], []⟩,
 ⟨[4], [], []⟩]
def s42 : SC := .seq (.ops [⟨some 4, .alloc 25, 0, .always⟩] [0, 1, 4])
 (.seq (.seq (.ops [⟨some 5, .move (.tmp 0), 39, .always⟩,
 ⟨some 6, .call { callee := .value (.func 36), args := #[.tmp 5, .const (.int .i64 7)], argTypes := #[39, 3] }, 3, .always⟩] [0, 1, 4, 6])
 (.block 0
 (.seq (.seq (.ops [⟨some 8, .binOp .eql 3 (.tmp 6) (.const (.int .i64 0)) 3, 4, .always⟩,
 ⟨some 7, .assign (.tmp 8), 4, .always⟩] [0, 1, 4, 6, 7])
 (.cond (.tmp 7)
 (.skip)
 (.seq (.ops [⟨some 9, .binOp .eql 3 (.tmp 6) (.const (.int .i64 1)) 3, 4, .always⟩,
 ⟨some 7, .assign (.tmp 9), 4, .always⟩] [0, 1, 4, 6, 7])
 (.cond (.tmp 7)
 (.skip)
 (.ops [⟨some 10, .binOp .eql 3 (.tmp 6) (.const (.int .i64 2)) 3, 4, .always⟩,
 ⟨some 7, .assign (.tmp 10), 4, .always⟩] [0, 1, 4, 6, 7])))))
 (.cond (.tmp 7)
 (.seq (.ops [⟨some 11, .call { callee := .value (.func 73), args := #[], argTypes := #[] }, 25, .always⟩,
 ⟨none, .store 25 (.tmp 4) (.tmp 11), 0, .always⟩] [4])
 (.ret))
 (.seq (.ops [⟨some 13, .binOp .eql 3 (.tmp 6) (.const (.int .i64 3)) 3, 4, .always⟩,
 ⟨some 12, .assign (.tmp 13), 4, .always⟩] [0, 1, 4, 6, 12])
 (.cond (.tmp 12)
 (.seq (.ops [⟨some 14, .call { callee := .value (.func 95), args := #[], argTypes := #[] }, 25, .always⟩,
 ⟨none, .store 25 (.tmp 4) (.tmp 14), 0, .always⟩] [4])
 (.ret))
 (.seq (.ops [⟨some 16, .binOp .eql 3 (.tmp 6) (.const (.int .i64 4)) 3, 4, .always⟩,
 ⟨some 15, .assign (.tmp 16), 4, .always⟩] [0, 1, 4, 6, 15])
 (.cond (.tmp 15)
 (.seq (.ops [⟨some 17, .call { callee := .value (.func 100), args := #[], argTypes := #[] }, 25, .always⟩,
 ⟨none, .store 25 (.tmp 4) (.tmp 17), 0, .always⟩] [4])
 (.ret))
 (.seq (.ops [⟨some 19, .binOp .eql 3 (.tmp 6) (.const (.int .i64 5)) 3, 4, .always⟩,
 ⟨some 18, .assign (.tmp 19), 4, .always⟩] [0, 1, 4, 6, 18])
 (.cond (.tmp 18)
 (.seq (.ops [⟨some 20, .move (.tmp 1), 3, .always⟩,
 ⟨some 21, .binOp .gtr 3 (.tmp 20) (.const (.int .i64 0)) 3, 4, .always⟩] [0, 1, 4, 21])
 (.cond (.tmp 21)
 (.seq (.ops [⟨some 22, .move (.tmp 0), 39, .always⟩,
 ⟨some 23, .move (.tmp 1), 3, .always⟩,
 ⟨some 24, .binOp .sub 3 (.tmp 23) (.const (.int .i64 1)) 3, 3, .always⟩,
 ⟨some 25, .call { callee := .value (.func 42), args := #[.tmp 22, .tmp 24], argTypes := #[39, 3] }, 25, .always⟩,
 ⟨some 26, .move (.tmp 0), 39, .always⟩,
 ⟨some 27, .move (.tmp 1), 3, .always⟩,
 ⟨some 28, .binOp .sub 3 (.tmp 27) (.const (.int .i64 1)) 3, 3, .always⟩,
 ⟨some 29, .call { callee := .value (.func 42), args := #[.tmp 26, .tmp 28], argTypes := #[39, 3] }, 25, .always⟩,
 ⟨some 30, .call { callee := .value (.func 101), args := #[.tmp 25, .tmp 29], argTypes := #[25, 25] }, 25, .always⟩,
 ⟨none, .store 25 (.tmp 4) (.tmp 30), 0, .always⟩] [4])
 (.ret))
 (.skip)))
 (.seq (.ops [⟨some 32, .binOp .eql 3 (.tmp 6) (.const (.int .i64 6)) 3, 4, .always⟩,
 ⟨some 31, .assign (.tmp 32), 4, .always⟩] [0, 1, 4, 31])
 (.cond (.tmp 31)
 (.seq (.ops [⟨some 33, .move (.tmp 1), 3, .always⟩,
 ⟨some 34, .binOp .gtr 3 (.tmp 33) (.const (.int .i64 0)) 3, 4, .always⟩] [0, 1, 4, 34])
 (.cond (.tmp 34)
 (.seq (.ops [⟨some 35, .move (.tmp 0), 39, .always⟩,
 ⟨some 36, .move (.tmp 1), 3, .always⟩,
 ⟨some 37, .binOp .sub 3 (.tmp 36) (.const (.int .i64 1)) 3, 3, .always⟩,
 ⟨some 38, .call { callee := .value (.func 42), args := #[.tmp 35, .tmp 37], argTypes := #[39, 3] }, 25, .always⟩,
 ⟨some 39, .move (.tmp 0), 39, .always⟩,
 ⟨some 40, .move (.tmp 1), 3, .always⟩,
 ⟨some 41, .binOp .sub 3 (.tmp 40) (.const (.int .i64 1)) 3, 3, .always⟩,
 ⟨some 42, .call { callee := .value (.func 42), args := #[.tmp 39, .tmp 41], argTypes := #[39, 3] }, 25, .always⟩,
 ⟨some 43, .call { callee := .value (.func 102), args := #[.tmp 38, .tmp 42], argTypes := #[25, 25] }, 25, .always⟩,
 ⟨none, .store 25 (.tmp 4) (.tmp 43), 0, .always⟩] [4])
 (.ret))
 (.skip)))
 (.skip)))))))))))))
 (.seq (.ops [⟨some 44, .call { callee := .value (.func 73), args := #[], argTypes := #[] }, 25, .always⟩,
 ⟨none, .store 25 (.tmp 4) (.tmp 44), 0, .always⟩] [4])
 (.ret)))
theorem w42 {args : List PV} {σ σ' : List Frm} {r : Ret} (hr : ∀ p, r = .val p → erV p = p) (h : wpP cfg s42 (QEndP cfg [.cell 4 25] σ' r) ⟨initEnv args, fun _ => [], σ, ⟨fun _ => false, 0⟩⟩) : CallsV cfg 42 args σ r σ' :=
 callsV_of_p follows cfgT a42 (fn := Tryd.f42) (c := Tryd.f42.body.getD .skip) (by kernel_rfl) (by kernel_rfl) (by kernel_rfl) (by kernel_rfl) (by kernel_rfl) (sc := s42) (by kernel_rfl) [.cell 4 25] (by kernel_rfl) hr h
def a57 : List Ann := [⟨[0, 2, 4, 6], [], []⟩,
 ⟨[4, 6, 7], [], []⟩,
 ⟨[6, 7], [], []⟩,
 ⟨[6], [], []⟩]
def s57 : SC := .seq (.ops [⟨some 4, .box 25 (.tmp 1), 0, .always⟩,
 ⟨some 6, .alloc 62, 0, .always⟩] [0, 2, 4, 6])
 (.seq (.ops [⟨some 8, .move (.tmp 0), 3, .always⟩,
 ⟨some 9, .move (.tmp 2), 26, .always⟩,
 ⟨some 10, .call { callee := .value (.func 56), args := #[.tmp 8, .tmp 9], argTypes := #[3, 26] }, 62, .always⟩,
 ⟨some 7, .alloc 62, 0, .always⟩,
 ⟨none, .store 62 (.tmp 7) (.tmp 10), 0, .always⟩] [4, 6, 7])
 (.seq (.ops [⟨some 11, .load 25 (.tmp 4), 25, .always⟩,
 ⟨some 12, .call { callee := .value (.func 105), args := #[.tmp 11], argTypes := #[25] }, 25, .always⟩,
 ⟨some 13, .fieldAddr 62 (.tmp 7) 2, 0, .always⟩,
 ⟨none, .store 25 (.tmp 13) (.tmp 12), 0, .always⟩] [6, 7])
 (.seq (.ops [⟨some 14, .load 62 (.tmp 7), 62, .always⟩,
 ⟨none, .store 62 (.tmp 6) (.tmp 14), 0, .always⟩] [6])
 (.ret))))
theorem w57 {args : List PV} {σ σ' : List Frm} {r : Ret} (hr : ∀ p, r = .val p → erV p = p) (h : wpP cfg s57 (QEndP cfg [.cell 6 62] σ' r) ⟨initEnv args, fun _ => [], σ, ⟨fun _ => false, 0⟩⟩) : CallsV cfg 57 args σ r σ' :=
 callsV_of_p follows cfgT a57 (fn := Tryd.f57) (c := Tryd.f57.body.getD .skip) (by kernel_rfl) (by kernel_rfl) (by kernel_rfl) (by kernel_rfl) (by kernel_rfl) (sc := s57) (by kernel_rfl) [.cell 6 62] (by kernel_rfl) hr h
def a72 : List Ann := [⟨[0, 1], [], []⟩,
 ⟨[4], [], []⟩]
def s72 : SC := .seq (.ops [⟨some 4, .assign (.const (.slice none 0 0)), 23, .always⟩] [0, 1])
 (.seq (.ops [⟨some 5, .move (.tmp 0), 23, .always⟩,
 ⟨some 6, .call { callee := .builtin .append, args := #[.const (.slice none 0 0), .tmp 5], argTypes := #[23, 23] }, 23, .always⟩,
 ⟨some 7, .move (.tmp 1), 23, .always⟩,
 ⟨some 8, .call { callee := .builtin .append, args := #[.tmp 6, .tmp 7], argTypes := #[23, 23] }, 23, .always⟩,
 ⟨some 4, .assign (.tmp 8), 23, .always⟩] [4])
 (.ret))
theorem w72 {args : List PV} {σ σ' : List Frm} {r : Ret} (hr : ∀ p, r = .val p → erV p = p) (h : wpP cfg s72 (QEndP cfg [.tmp 4] σ' r) ⟨initEnv args, fun _ => [], σ, ⟨fun _ => false, 0⟩⟩) : CallsV cfg 72 args σ r σ' :=
 callsV_of_p follows cfgT a72 (fn := Tryd.f72) (c := Tryd.f72.body.getD .skip) (by kernel_rfl) (by kernel_rfl) (by kernel_rfl) (by kernel_rfl) (by kernel_rfl) (sc := s72) (by kernel_rfl) [.tmp 4] (by kernel_rfl) hr h
def a92 : List Ann := [⟨[0, 3], [], []⟩,
 ⟨[0, 3, 5], [], []⟩,
 ⟨[0, 3, 5, 8, 9], [], []⟩,
 ⟨[0, 3, 5, 8, 9, 10], [], []⟩,
 ⟨[0, 3, 5, 6, 8, 9], [], []⟩,
 ⟨[0, 3, 5, 6, 8, 9, 21], [0, 0, 2, 6, 0, 30, 63, 127, 0, 511], [false, false, false, false, false, false, false, false, false, false]⟩,
 ⟨[0, 3, 5, 8, 9], [], []⟩,
 ⟨[0, 3, 5, 8, 9], [], []⟩,
 ⟨[4], [], []⟩]
def s92 : SC := .seq (.ops [⟨some 3, .box 25 (.tmp 1), 0, .always⟩,
 ⟨some 4, .assign (.const (.slice none 0 0)), 22, .always⟩] [0, 3])
 (.seq (.ops [⟨some 5, .assign (.const (.slice none 0 0)), 22, .always⟩] [0, 3, 5])
 (.seq (.seq (.ops [⟨some 7, .move (.tmp 0), 23, .always⟩,
 ⟨some 8, .call { callee := .builtin .len, args := #[.tmp 7], argTypes := #[23] }, 3, .always⟩,
 ⟨some 9, .move (.const (.int .i64 0)), 3, .always⟩] [0, 3, 5, 8, 9])
 (.block 0
 (.loop
 (.seq (.ops [⟨some 10, .binOp .lss 3 (.tmp 9) (.tmp 8) 3, 0, .always⟩] [0, 3, 5, 8, 9, 10])
 (.seq (.cond (.tmp 10)
 (.skip)
 (.exit 0))
 (.seq (.block 1
 (.seq (.ops [⟨some 11, .move (.tmp 9), 3, .always⟩,
 ⟨some 6, .assign (.tmp 11), 3, .always⟩] [0, 3, 5, 6, 8, 9])
 (.seq (.draw [⟨some 12, .move (.tmp 0), 23, .always⟩,
 ⟨some 13, .move (.tmp 0), 23, .always⟩,
 ⟨some 14, .call { callee := .builtin .len, args := #[.tmp 13], argTypes := #[23] }, 3, .always⟩,
 ⟨some 15, .binOp .sub 3 (.tmp 14) (.const (.int .i64 1)) 3, 3, .always⟩,
 ⟨some 16, .move (.tmp 6), 3, .always⟩,
 ⟨some 17, .binOp .sub 3 (.tmp 15) (.tmp 16) 3, 3, .always⟩,
 ⟨some 18, .indexAddr 23 (.tmp 12) (.tmp 17), 0, .always⟩,
 ⟨some 19, .load 25 (.tmp 18), 25, .always⟩,
 ⟨some 20, .load 25 (.tmp 3), 25, .always⟩,
 ⟨some 21, .call { callee := .value (.func 26), args := #[.tmp 19, .tmp 20], argTypes := #[25, 25] }, 4, .always⟩] [false, false, false, false, false, false, false, false, false, false] [0, 3, 5, 6, 8, 9, 21])
 (.cond (.tmp 21)
 (.ops [⟨some 22, .move (.tmp 5), 22, .always⟩,
 ⟨some 23, .move (.tmp 6), 3, .always⟩,
 ⟨some 24, .buildSlice 22 1 #[(0, .tmp 23)], 22, .always⟩,
 ⟨some 25, .call { callee := .builtin .append, args := #[.tmp 22, .tmp 24], argTypes := #[22, 22] }, 22, .always⟩,
 ⟨some 5, .assign (.tmp 25), 22, .always⟩] [0, 3, 5, 8, 9])
 (.skip)))))
 (.ops [⟨some 26, .binOp .add 3 (.tmp 9) (.const (.int .i64 1)) 3, 3, .always⟩,
 ⟨some 9, .move (.tmp 26), 3, .always⟩] [0, 3, 5, 8, 9])))))))
 (.seq (.ops [⟨some 27, .move (.tmp 5), 22, .always⟩,
 ⟨some 4, .assign (.tmp 27), 22, .always⟩] [4])
 (.ret))))
theorem w92 {args : List PV} {σ σ' : List Frm} {r : Ret} (hr : ∀ p, r = .val p → erV p = p) (h : wpP cfg s92 (QEndP cfg [.tmp 4] σ' r) ⟨initEnv args, fun _ => [], σ, ⟨fun _ => false, 0⟩⟩) : CallsV cfg 92 args σ r σ' :=
 callsV_of_p follows cfgT a92 (fn := Tryd.f92) (c := Tryd.f92.body.getD .skip) (by kernel_rfl) (by kernel_rfl) (by kernel_rfl) (by kernel_rfl) (by kernel_rfl) (sc := s92) (by kernel_rfl) [.tmp 4] (by kernel_rfl) hr h
def a93 : List Ann := [⟨[0, 2], [], []⟩,
 ⟨[2], [], []⟩]
def s93 : SC := .seq (.ops [⟨some 2, .alloc 62, 0, .always⟩] [0, 2])
 (.seq (.ops [⟨some 3, .move (.tmp 0), 3, .always⟩,
 ⟨some 4, .build 62 #[(0, .const (.int .i64 1)), (1, .tmp 3)], 62, .always⟩,
 ⟨none, .store 62 (.tmp 2) (.tmp 4), 0, .always⟩] [2])
 (.ret))
theorem w93 {args : List PV} {σ σ' : List Frm} {r : Ret} (hr : ∀ p, r = .val p → erV p = p) (h : wpP cfg s93 (QEndP cfg [.cell 2 62] σ' r) ⟨initEnv args, fun _ => [], σ, ⟨fun _ => false, 0⟩⟩) : CallsV cfg 93 args σ r σ' :=
 callsV_of_p follows cfgT a93 (fn := Tryd.f93) (c := Tryd.f93.body.getD .skip) (by kernel_rfl) (by kernel_rfl) (by kernel_rfl) (by kernel_rfl) (by kernel_rfl) (sc := s93) (by kernel_rfl) [.cell 2 62] (by kernel_rfl) hr h
def a166 : List Ann := [⟨[0, 2], [], []⟩,
 ⟨[0, 2, 3], [], []⟩,
 ⟨[0, 2, 3, 6], [], []⟩,
 ⟨[0, 2, 3], [], []⟩,
 ⟨[0, 2, 3], [], []⟩,
 ⟨[2], [], []⟩]
def s166 : SC := .seq (.ops [⟨some 2, .alloc 62, 0, .always⟩] [0, 2])
 (.seq (.ops [⟨some 4, .call { callee := .value (.func 56), args := #[.const (.int .i64 4), .const (.slice none 0 0)], argTypes := #[3, 26] }, 62, .always⟩,
 ⟨some 3, .alloc 62, 0, .always⟩,
 ⟨none, .store 62 (.tmp 3) (.tmp 4), 0, .always⟩] [0, 2, 3])
 (.seq (.block 0
 (.loop
 (.seq (.seq (.ops [⟨some 5, .move (.tmp 0), 3, .always⟩,
 ⟨some 6, .binOp .gtr 3 (.tmp 5) (.const (.int .i64 0)) 3, 4, .always⟩] [0, 2, 3, 6])
 (.cond (.tmp 6)
 (.skip)
 (.exit 0)))
 (.seq (.block 1
 (.ops [⟨some 9, .load 62 (.tmp 3), 62, .always⟩,
 ⟨some 10, .buildSlice 26 1 #[(0, .tmp 9)], 26, .always⟩,
 ⟨some 11, .build 62 #[(0, .const (.int .i64 5)), (3, .tmp 10)], 62, .always⟩,
 ⟨none, .store 62 (.tmp 3) (.tmp 11), 0, .always⟩] [0, 2, 3]))
 (.ops [⟨some 7, .move (.tmp 0), 3, .always⟩,
 ⟨some 8, .binOp .sub 3 (.tmp 7) (.const (.int .i64 1)) 3, 3, .always⟩,
 ⟨some 0, .assign (.tmp 8), 3, .always⟩] [0, 2, 3])))))
 (.seq (.ops [⟨some 12, .load 62 (.tmp 3), 62, .always⟩,
 ⟨none, .store 62 (.tmp 2) (.tmp 12), 0, .always⟩] [2])
 (.ret))))
theorem w166 {args : List PV} {σ σ' : List Frm} {r : Ret} (hr : ∀ p, r = .val p → erV p = p) (h : wpP cfg s166 (QEndP cfg [.cell 2 62] σ' r) ⟨initEnv args, fun _ => [], σ, ⟨fun _ => false, 0⟩⟩) : CallsV cfg 166 args σ r σ' :=
 callsV_of_p follows cfgT a166 (fn := Tryd.f166) (c := Tryd.f166.body.getD .skip) (by kernel_rfl) (by kernel_rfl) (by kernel_rfl) (by kernel_rfl) (by kernel_rfl) (sc := s166) (by kernel_rfl) [.cell 2 62] (by kernel_rfl) hr h
def a138 : List Ann := [⟨[0, 2], [], []⟩,
 ⟨[0, 2, 5], [], []⟩,
 ⟨[2, 3], [], []⟩,
 ⟨[0, 2, 8], [], []⟩,
 ⟨[2, 3], [], []⟩,
 ⟨[2, 3], [], []⟩]
def s138 : SC := .seq (.ops [⟨some 2, .alloc 62, 0, .always⟩,
 ⟨some 3, .assign (.const (.int .i64 0)), 43, .always⟩] [0, 2])
 (.seq (.seq (.ops [⟨some 4, .move (.tmp 0), 3, .always⟩,
 ⟨some 5, .binOp .lss 3 (.tmp 4) (.const (.int .i64 0)) 3, 4, .always⟩] [0, 2, 5])
 (.cond (.tmp 5)
 (.seq (.ops [⟨some 6, .build 62 #[], 62, .always⟩,
 ⟨none, .store 62 (.tmp 2) (.tmp 6), 0, .always⟩,
 ⟨some 3, .assign (.const (.int .i64 1)), 43, .always⟩] [2, 3])
 (.ret))
 (.skip)))
 (.seq (.seq (.ops [⟨some 7, .move (.tmp 0), 3, .always⟩,
 ⟨some 8, .binOp .geq 3 (.tmp 7) (.const (.int .i64 4096)) 3, 4, .always⟩] [0, 2, 8])
 (.cond (.tmp 8)
 (.seq (.ops [⟨some 9, .build 62 #[], 62, .always⟩,
 ⟨none, .store 62 (.tmp 2) (.tmp 9), 0, .always⟩,
 ⟨some 3, .assign (.const (.int .i64 4)), 43, .always⟩] [2, 3])
 (.ret))
 (.skip)))
 (.seq (.ops [⟨some 10, .move (.tmp 0), 3, .always⟩,
 ⟨some 11, .call { callee := .value (.func 166), args := #[.tmp 10], argTypes := #[3] }, 62, .always⟩,
 ⟨none, .store 62 (.tmp 2) (.tmp 11), 0, .always⟩,
 ⟨some 3, .assign (.const (.int .i64 0)), 43, .always⟩] [2, 3])
 (.ret))))
theorem w138 {args : List PV} {σ σ' : List Frm} {r : Ret} (hr : ∀ p, r = .val p → erV p = p) (h : wpP cfg s138 (QEndP cfg [.cell 2 62, .tmp 3] σ' r) ⟨initEnv args, fun _ => [], σ, ⟨fun _ => false, 0⟩⟩) : CallsV cfg 138 args σ r σ' :=
 callsV_of_p follows cfgT a138 (fn := Tryd.f138) (c := Tryd.f138.body.getD .skip) (by kernel_rfl) (by kernel_rfl) (by kernel_rfl) (by kernel_rfl) (by kernel_rfl) (sc := s138) (by kernel_rfl) [.cell 2 62, .tmp 3] (by kernel_rfl) hr h
def a94 : List Ann := [⟨[0, 2], [], []⟩,
 ⟨[2, 3], [], []⟩,
 ⟨[2], [], []⟩]
def s94 : SC := .seq (.ops [⟨some 2, .alloc 62, 0, .always⟩] [0, 2])
 (.seq (.ops [⟨some 6, .move (.tmp 0), 3, .always⟩,
 ⟨some 7, .call { callee := .value (.func 138), args := #[.tmp 6], argTypes := #[3] }, 87, .always⟩,
 ⟨some 5, .move (.tmp 7), 87, .always⟩,
 ⟨some 8, .extract (.tmp 5) 0, 62, .always⟩,
 ⟨some 9, .extract (.tmp 5) 1, 43, .always⟩,
 ⟨some 3, .alloc 62, 0, .always⟩,
 ⟨none, .store 62 (.tmp 3) (.tmp 8), 0, .always⟩,
 ⟨some 4, .assign (.tmp 9), 43, .always⟩] [2, 3])
 (.seq (.ops [⟨some 10, .load 62 (.tmp 3), 62, .always⟩,
 ⟨none, .store 62 (.tmp 2) (.tmp 10), 0, .always⟩] [2])
 (.ret)))
theorem w94 {args : List PV} {σ σ' : List Frm} {r : Ret} (hr : ∀ p, r = .val p → erV p = p) (h : wpP cfg s94 (QEndP cfg [.cell 2 62] σ' r) ⟨initEnv args, fun _ => [], σ, ⟨fun _ => false, 0⟩⟩) : CallsV cfg 94 args σ r σ' :=
 callsV_of_p follows cfgT a94 (fn := Tryd.f94) (c := Tryd.f94.body.getD .skip) (by kernel_rfl) (by kernel_rfl) (by kernel_rfl) (by kernel_rfl) (by kernel_rfl) (sc := s94) (by kernel_rfl) [.cell 2 62] (by kernel_rfl) hr h
def a96 : List Ann := [⟨[1, 2, 4], [], []⟩,
 ⟨[2, 4, 7, 8, 9], [], []⟩,
 ⟨[2, 4, 7, 8, 9, 10], [], []⟩,
 ⟨[2, 4, 6, 7, 8, 9], [], []⟩,
 ⟨[2, 4, 7, 8, 9], [], []⟩,
 ⟨[2, 4, 7, 8, 9], [], []⟩,
 ⟨[4], [], []⟩]
def s96 : SC := .seq (.ops [⟨some 2, .box 62 (.tmp 0), 0, .always⟩,
 ⟨some 4, .alloc 62, 0, .always⟩] [1, 2, 4])
 (.seq (.seq (.ops [⟨some 7, .move (.tmp 1), 26, .always⟩,
 ⟨some 8, .call { callee := .builtin .len, args := #[.tmp 7], argTypes := #[26] }, 3, .always⟩,
 ⟨some 9, .move (.const (.int .i64 0)), 3, .always⟩] [2, 4, 7, 8, 9])
 (.block 0
 (.loop
 (.seq (.ops [⟨some 10, .binOp .lss 3 (.tmp 9) (.tmp 8) 3, 0, .always⟩] [2, 4, 7, 8, 9, 10])
 (.seq (.cond (.tmp 10)
 (.skip)
 (.exit 0))
 (.seq (.block 1
 (.seq (.ops [⟨some 11, .indexAddr 26 (.tmp 7) (.tmp 9), 0, .always⟩,
 ⟨some 12, .load 62 (.tmp 11), 62, .always⟩,
 ⟨some 6, .alloc 62, 0, .always⟩,
 ⟨none, .store 62 (.tmp 6) (.tmp 12), 0, .always⟩] [2, 4, 6, 7, 8, 9])
 (.ops [⟨some 13, .load 62 (.tmp 2), 62, .always⟩,
 ⟨some 14, .load 62 (.tmp 6), 62, .always⟩,
 ⟨some 15, .buildSlice 26 2 #[(0, .tmp 13), (1, .tmp 14)], 26, .always⟩,
 ⟨some 16, .call { callee := .value (.func 56), args := #[.const (.int .i64 3), .tmp 15], argTypes := #[3, 26] }, 62, .always⟩,
 ⟨none, .store 62 (.tmp 2) (.tmp 16), 0, .always⟩] [2, 4, 7, 8, 9])))
 (.ops [⟨some 17, .binOp .add 3 (.tmp 9) (.const (.int .i64 1)) 3, 3, .always⟩,
 ⟨some 9, .move (.tmp 17), 3, .always⟩] [2, 4, 7, 8, 9])))))))
 (.seq (.ops [⟨some 18, .load 62 (.tmp 2), 62, .always⟩,
 ⟨none, .store 62 (.tmp 4) (.tmp 18), 0, .always⟩] [4])
 (.ret)))
theorem w96 {args : List PV} {σ σ' : List Frm} {r : Ret} (hr : ∀ p, r = .val p → erV p = p) (h : wpP cfg s96 (QEndP cfg [.cell 4 62] σ' r) ⟨initEnv args, fun _ => [], σ, ⟨fun _ => false, 0⟩⟩) : CallsV cfg 96 args σ r σ' :=
 callsV_of_p follows cfgT a96 (fn := Tryd.f96) (c := Tryd.f96.body.getD .skip) (by kernel_rfl) (by kernel_rfl) (by kernel_rfl) (by kernel_rfl) (by kernel_rfl) (sc := s96) (by kernel_rfl) [.cell 4 62] (by kernel_rfl) hr h
def a139 : List Ann := [⟨[1, 2], [], []⟩,
 ⟨[2], [0, 0, 2, 7, 15], [true, true, false, false, false]⟩]
def s139 : SC := .seq (.ops [⟨some 1, .box 62 (.tmp 0), 0, .always⟩,
 ⟨some 2, .alloc 62, 0, .always⟩] [1, 2])
 (.seq (.draw [⟨some 3, .call { callee := .value (.func 73), args := #[], argTypes := #[] }, 25, .always⟩,
 ⟨some 4, .load 62 (.tmp 1), 62, .always⟩,
 ⟨some 5, .buildSlice 26 1 #[(0, .tmp 4)], 26, .always⟩,
 ⟨some 6, .call { callee := .value (.func 57), args := #[.const (.int .i64 2), .tmp 3, .tmp 5], argTypes := #[3, 25, 26] }, 62, .always⟩,
 ⟨none, .store 62 (.tmp 2) (.tmp 6), 0, .always⟩] [true, true, false, false, false] [2])
 (.ret))
theorem w139 {args : List PV} {σ σ' : List Frm} {r : Ret} (hr : ∀ p, r = .val p → erV p = p) (h : wpP cfg s139 (QEndP cfg [.cell 2 62] σ' r) ⟨initEnv args, fun _ => [], σ, ⟨fun _ => false, 0⟩⟩) : CallsV cfg 139 args σ r σ' :=
 callsV_of_p follows cfgT a139 (fn := Tryd.f139) (c := Tryd.f139.body.getD .skip) (by kernel_rfl) (by kernel_rfl) (by kernel_rfl) (by kernel_rfl) (by kernel_rfl) (sc := s139) (by kernel_rfl) [.cell 2 62] (by kernel_rfl) hr h
def a140 : List Ann := [⟨[3, 4, 5, 6], [], []⟩,
 ⟨[6], [0, 0, 0, 0, 14, 31, 63], [true, true, true, true, false, false, false]⟩]
def s140 : SC := .seq (.ops [⟨some 3, .box 62 (.tmp 0), 0, .always⟩,
 ⟨some 4, .box 62 (.tmp 1), 0, .always⟩,
 ⟨some 5, .box 62 (.tmp 2), 0, .always⟩,
 ⟨some 6, .alloc 62, 0, .always⟩] [3, 4, 5, 6])
 (.seq (.draw [⟨some 7, .call { callee := .value (.func 73), args := #[], argTypes := #[] }, 25, .always⟩,
 ⟨some 8, .load 62 (.tmp 3), 62, .always⟩,
 ⟨some 9, .load 62 (.tmp 4), 62, .always⟩,
 ⟨some 10, .load 62 (.tmp 5), 62, .always⟩,
 ⟨some 11, .buildSlice 26 3 #[(0, .tmp 8), (1, .tmp 9), (2, .tmp 10)], 26, .always⟩,
 ⟨some 12, .call { callee := .value (.func 57), args := #[.const (.int .i64 6), .tmp 7, .tmp 11], argTypes := #[3, 25, 26] }, 62, .always⟩,
 ⟨none, .store 62 (.tmp 6) (.tmp 12), 0, .always⟩] [true, true, true, true, false, false, false] [6])
 (.ret))
theorem w140 {args : List PV} {σ σ' : List Frm} {r : Ret} (hr : ∀ p, r = .val p → erV p = p) (h : wpP cfg s140 (QEndP cfg [.cell 6 62] σ' r) ⟨initEnv args, fun _ => [], σ, ⟨fun _ => false, 0⟩⟩) : CallsV cfg 140 args σ r σ' :=
 callsV_of_p follows cfgT a140 (fn := Tryd.f140) (c := Tryd.f140.body.getD .skip) (by kernel_rfl) (by kernel_rfl) (by kernel_rfl) (by kernel_rfl) (by kernel_rfl) (sc := s140) (by kernel_rfl) [.cell 6 62] (by kernel_rfl) hr h
def a97 : List Ann := [⟨[0], [], []⟩,
 ⟨[0], [], []⟩]
def s97 : SC := .seq (.ops [⟨some 0, .alloc 62, 0, .always⟩] [0])
 (.seq (.ops [⟨some 1, .call { callee := .value (.func 93), args := #[.const (.int .i64 1)], argTypes := #[3] }, 62, .always⟩,
 ⟨some 2, .call { callee := .value (.func 93), args := #[.const (.int .i64 0)], argTypes := #[3] }, 62, .always⟩,
 ⟨some 3, .buildSlice 26 1 #[(0, .tmp 2)], 26, .always⟩,
 ⟨some 4, .call { callee := .value (.func 56), args := #[.const (.int .i64 5), .tmp 3], argTypes := #[3, 26] }, 62, .always⟩,
 ⟨some 5, .call { callee := .value (.func 139), args := #[.tmp 4], argTypes := #[62] }, 62, .always⟩,
 ⟨some 6, .call { callee := .value (.func 139), args := #[.tmp 5], argTypes := #[62] }, 62, .always⟩,
 ⟨some 7, .call { callee := .value (.func 93), args := #[.const (.int .i64 0)], argTypes := #[3] }, 62, .always⟩,
 ⟨some 8, .call { callee := .value (.func 140), args := #[.tmp 1, .tmp 6, .tmp 7], argTypes := #[62, 62, 62] }, 62, .always⟩,
 ⟨some 9, .call { callee := .value (.func 139), args := #[.tmp 8], argTypes := #[62] }, 62, .always⟩,
 ⟨some 10, .call { callee := .value (.func 139), args := #[.tmp 9], argTypes := #[62] }, 62, .always⟩,
 ⟨none, .store 62 (.tmp 0) (.tmp 10), 0, .always⟩] [0])
 (.ret))
theorem w97 {args : List PV} {σ σ' : List Frm} {r : Ret} (hr : ∀ p, r = .val p → erV p = p) (h : wpP cfg s97 (QEndP cfg [.cell 0 62] σ' r) ⟨initEnv args, fun _ => [], σ, ⟨fun _ => false, 0⟩⟩) : CallsV cfg 97 args σ r σ' :=
 callsV_of_p follows cfgT a97 (fn := Tryd.f97) (c := Tryd.f97.body.getD .skip) (by kernel_rfl) (by kernel_rfl) (by kernel_rfl) (by kernel_rfl) (by kernel_rfl) (sc := s97) (by kernel_rfl) [.cell 0 62] (by kernel_rfl) hr h
def a141 : List Ann := [⟨[0], [], []⟩,
 ⟨[0], [], []⟩]
def s141 : SC := .seq (.ops [⟨some 0, .alloc 62, 0, .always⟩] [0])
 (.seq (.ops [⟨some 1, .call { callee := .value (.func 56), args := #[.const (.int .i64 4), .const (.slice none 0 0)], argTypes := #[3, 26] }, 62, .always⟩,
 ⟨some 2, .call { callee := .value (.func 93), args := #[.const (.int .i64 1)], argTypes := #[3] }, 62, .always⟩,
 ⟨some 3, .call { callee := .value (.func 139), args := #[.tmp 2], argTypes := #[62] }, 62, .always⟩,
 ⟨some 4, .call { callee := .value (.func 139), args := #[.tmp 3], argTypes := #[62] }, 62, .always⟩,
 ⟨some 5, .call { callee := .value (.func 93), args := #[.const (.int .i64 0)], argTypes := #[3] }, 62, .always⟩,
 ⟨some 6, .call { callee := .value (.func 140), args := #[.tmp 1, .tmp 4, .tmp 5], argTypes := #[62, 62, 62] }, 62, .always⟩,
 ⟨some 7, .call { callee := .value (.func 139), args := #[.tmp 6], argTypes := #[62] }, 62, .always⟩,
 ⟨none, .store 62 (.tmp 0) (.tmp 7), 0, .always⟩] [0])
 (.ret))
theorem w141 {args : List PV} {σ σ' : List Frm} {r : Ret} (hr : ∀ p, r = .val p → erV p = p) (h : wpP cfg s141 (QEndP cfg [.cell 0 62] σ' r) ⟨initEnv args, fun _ => [], σ, ⟨fun _ => false, 0⟩⟩) : CallsV cfg 141 args σ r σ' :=
 callsV_of_p follows cfgT a141 (fn := Tryd.f141) (c := Tryd.f141.body.getD .skip) (by kernel_rfl) (by kernel_rfl) (by kernel_rfl) (by kernel_rfl) (by kernel_rfl) (sc := s141) (by kernel_rfl) [.cell 0 62] (by kernel_rfl) hr h
def a98 : List Ann := [⟨[0], [], []⟩,
 ⟨[0], [], []⟩]
def s98 : SC := .seq (.ops [⟨some 0, .alloc 62, 0, .always⟩] [0])
 (.seq (.ops [⟨some 1, .call { callee := .value (.func 93), args := #[.const (.int .i64 1)], argTypes := #[3] }, 62, .always⟩,
 ⟨some 2, .call { callee := .value (.func 141), args := #[], argTypes := #[] }, 62, .always⟩,
 ⟨some 3, .call { callee := .value (.func 93), args := #[.const (.int .i64 0)], argTypes := #[3] }, 62, .always⟩,
 ⟨some 4, .buildSlice 26 2 #[(0, .tmp 2), (1, .tmp 3)], 26, .always⟩,
 ⟨some 5, .call { callee := .value (.func 56), args := #[.const (.int .i64 3), .tmp 4], argTypes := #[3, 26] }, 62, .always⟩,
 ⟨some 6, .call { callee := .value (.func 139), args := #[.tmp 5], argTypes := #[62] }, 62, .always⟩,
 ⟨some 7, .call { callee := .value (.func 139), args := #[.tmp 6], argTypes := #[62] }, 62, .always⟩,
 ⟨some 8, .call { callee := .value (.func 93), args := #[.const (.int .i64 0)], argTypes := #[3] }, 62, .always⟩,
 ⟨some 9, .call { callee := .value (.func 140), args := #[.tmp 1, .tmp 7, .tmp 8], argTypes := #[62, 62, 62] }, 62, .always⟩,
 ⟨some 10, .call { callee := .value (.func 139), args := #[.tmp 9], argTypes := #[62] }, 62, .always⟩,
 ⟨some 11, .call { callee := .value (.func 139), args := #[.tmp 10], argTypes := #[62] }, 62, .always⟩,
 ⟨none, .store 62 (.tmp 0) (.tmp 11), 0, .always⟩] [0])
 (.ret))
theorem w98 {args : List PV} {σ σ' : List Frm} {r : Ret} (hr : ∀ p, r = .val p → erV p = p) (h : wpP cfg s98 (QEndP cfg [.cell 0 62] σ' r) ⟨initEnv args, fun _ => [], σ, ⟨fun _ => false, 0⟩⟩) : CallsV cfg 98 args σ r σ' :=
 callsV_of_p follows cfgT a98 (fn := Tryd.f98) (c := Tryd.f98.body.getD .skip) (by kernel_rfl) (by kernel_rfl) (by kernel_rfl) (by kernel_rfl) (by kernel_rfl) (sc := s98) (by kernel_rfl) [.cell 0 62] (by kernel_rfl) hr h
def a38 : List Ann := [⟨[0, 1, 3, 6, 8], [], []⟩,
 ⟨[0, 1, 3, 6, 8, 9], [], []⟩,
 ⟨[0, 1, 3, 6, 8, 9, 27], [], []⟩,
 ⟨[8], [], []⟩,
 ⟨[0, 1, 3, 6, 8, 37], [], []⟩,
 ⟨[0, 1, 3, 6, 8, 39], [], []⟩,
 ⟨[0, 1, 3, 6, 8, 39, 40], [], []⟩,
 ⟨[0, 1, 3, 6, 8, 10], [], []⟩,
 ⟨[8], [0, 0, 0, 0, 8, 28, 0, 0, 128, 510, 1022, 2047, 0, 0, 0, 0, 32768, 131071, 262143, 524287, 1048575], [true, false, false, false, false, true, true, false, false, true, false, true, false, false, true, false, false, false, false, false, false]⟩,
 ⟨[0, 1, 3, 6, 8, 39, 64], [], []⟩,
 ⟨[0, 1, 3, 6, 8, 11], [], []⟩,
 ⟨[8], [0, 0, 0, 0, 8, 31, 0, 0, 0, 0, 512, 2047, 4095, 8191, 16383, 32767, 65535], [false, false, false, false, false, true, false, false, true, false, false, false, false, false, false, false, false]⟩,
 ⟨[0, 1, 3, 6, 8, 39, 84], [], []⟩,
 ⟨[0, 1, 3, 6, 8, 12], [0, 0, 0, 0, 1, 0, 49, 121, 0, 0, 512, 2045, 4093, 8191, 16383, 32767, 0, 131071], [true, true, false, false, true, true, false, true, true, false, false, true, false, true, false, true, true, false]⟩,
 ⟨[8], [0, 0, 0, 0, 0, 16, 62, 0, 0, 382, 894, 2046, 4095, 8191], [true, false, false, false, false, false, true, true, false, true, true, false, false, false]⟩,
 ⟨[0, 1, 3, 6, 8, 39, 115], [], []⟩,
 ⟨[0, 1, 3, 6, 8, 13], [0, 1, 0, 0, 0, 3, 35, 0, 227, 499, 0, 0, 2048, 8187, 16379, 32767, 65535, 131071, 262143, 524287, 0, 2097151], [true, true, true, false, false, true, true, true, false, true, true, false, false, true, false, true, false, true, false, true, true, false]⟩,
 ⟨[8], [0, 0, 0, 0, 0, 16, 62, 0, 0, 0, 126, 0, 2048, 8062, 16382, 32767, 65535], [true, false, false, false, false, false, true, true, false, false, true, false, false, true, false, false, false]⟩,
 ⟨[0, 1, 3, 6, 8, 39, 153], [], []⟩,
 ⟨[0, 1, 3, 6, 8, 14], [], []⟩,
 ⟨[8], [0, 0, 0, 0, 8, 31, 0, 0, 0, 0, 512, 2047, 4095, 8191, 16383, 32767, 65535], [false, false, false, false, false, true, false, false, true, false, false, false, false, false, false, false, false]⟩,
 ⟨[0, 1, 3, 6, 8, 173], [], []⟩,
 ⟨[0, 1, 3, 6, 8, 176, 177], [], []⟩,
 ⟨[0, 1, 3, 6, 8, 176, 177, 178], [], []⟩,
 ⟨[0, 1, 3, 6, 8, 15, 176, 177], [], []⟩,
 ⟨[0, 1, 3, 6, 8, 15, 16, 176, 177], [], []⟩,
 ⟨[0, 1, 3, 6, 8, 15, 16, 176, 177, 198], [0, 1, 3, 7, 15, 31, 63, 127, 15, 511, 1023], [false, false, false, false, false, false, false, false, false, false, false]⟩,
 ⟨[8], [0, 1, 0, 0, 0, 16, 48, 112, 0, 256, 1023, 2047, 4095, 8191], [false, true, false, false, false, true, false, true, false, false, false, false, false, false]⟩,
 ⟨[0, 1, 3, 6, 8, 176, 177], [], []⟩,
 ⟨[0, 1, 3, 6, 8, 214], [], []⟩,
 ⟨[0, 1, 3, 6, 8, 214, 215], [], []⟩,
 ⟨[0, 1, 3, 6, 8, 218], [], []⟩,
 ⟨[0, 1, 3, 6, 8, 220], [], []⟩,
 ⟨[0, 1, 3, 6, 8, 220, 221], [], []⟩,
 ⟨[8], [], []⟩,
 ⟨[0, 1, 3, 6, 8, 220, 231], [], []⟩,
 ⟨[8], [0, 0, 0, 0, 0, 16, 63, 0, 0, 0, 0, 1024, 4095, 8191, 16383, 32767], [true, false, false, true, false, false, true, false, false, true, false, false, false, false, false, false]⟩,
 ⟨[0, 1, 3, 6, 8, 248], [], []⟩,
 ⟨[8], [0, 0, 0, 0, 0, 16, 63, 0, 0, 0, 0, 1024, 4095, 8191, 16383, 32767], [true, false, false, true, false, false, true, false, false, true, false, false, false, false, false, false]⟩,
 ⟨[8], [], []⟩,
 ⟨[0, 1, 3, 6, 8, 214, 268], [], []⟩,
 ⟨[0, 1, 3, 6, 8, 276], [], []⟩,
 ⟨[8], [0, 0, 0, 0, 8, 31, 0, 0, 0, 0, 512, 2047, 4095, 8191, 16383], [false, false, true, false, false, true, false, false, true, false, false, false, false, false, false]⟩,
 ⟨[8], [], []⟩,
 ⟨[0, 1, 3, 6, 8, 214, 292], [], []⟩,
 ⟨[8], [0, 0, 0, 4, 12, 28, 0, 64, 255, 0, 0, 0, 2048, 6144, 14336, 0, 32768, 131071, 262143, 524287, 1048575], [false, false, false, false, false, false, false, false, true, false, false, false, true, false, true, false, false, false, false, false, false]⟩,
 ⟨[0, 1, 3, 6, 8, 314], [], []⟩,
 ⟨[8], [0, 1, 3, 7, 0, 0, 0, 64, 192, 448, 960, 2016, 0, 4096, 12288, 28672, 0, 65536, 262128, 524272, 1048575, 2097151], [false, true, false, true, false, false, false, false, false, false, false, true, false, true, false, true, false, false, true, false, false, false]⟩,
 ⟨[8], [], []⟩]
def s38 : SC := .seq (.ops [⟨some 6, .box 25 (.tmp 2), 0, .always⟩,
 ⟨some 8, .alloc 62, 0, .always⟩] [0, 1, 3, 6, 8])
 (.seq (.ops [⟨some 17, .move (.tmp 1), 23, .always⟩,
 ⟨some 18, .load 25 (.tmp 6), 25, .always⟩,
 ⟨some 19, .call { callee := .value (.func 92), args := #[.tmp 17, .tmp 18], argTypes := #[23, 25] }, 22, .always⟩,
 ⟨some 9, .assign (.tmp 19), 22, .always⟩] [0, 1, 3, 6, 8, 9])
 (.seq (.seq (.ops [⟨some 20, .move (.tmp 9), 22, .always⟩,
 ⟨some 21, .call { callee := .builtin .len, args := #[.tmp 20], argTypes := #[22] }, 3, .always⟩,
 ⟨some 22, .binOp .gtr 3 (.tmp 21) (.const (.int .i64 0)) 3, 4, .always⟩,
 ⟨some 23, .move (.tmp 22), 4, .always⟩,
 ⟨some 24, .move (.tmp 0), 39, .tmp 23 true⟩,
 ⟨some 25, .call { callee := .value (.func 36), args := #[.tmp 24, .const (.int .i64 3)], argTypes := #[39, 3] }, 3, .tmp 23 true⟩,
 ⟨some 26, .binOp .gtr 3 (.tmp 25) (.const (.int .i64 0)) 3, 4, .tmp 23 true⟩,
 ⟨some 27, .pick (.tmp 23) (.tmp 26) (.const (.bool false)), 4, .always⟩] [0, 1, 3, 6, 8, 9, 27])
 (.cond (.tmp 27)
 (.seq (.ops [⟨some 28, .move (.tmp 9), 22, .always⟩,
 ⟨some 29, .move (.tmp 0), 39, .always⟩,
 ⟨some 30, .move (.tmp 9), 22, .always⟩,
 ⟨some 31, .call { callee := .builtin .len, args := #[.tmp 30], argTypes := #[22] }, 3, .always⟩,
 ⟨some 32, .call { callee := .value (.func 36), args := #[.tmp 29, .tmp 31], argTypes := #[39, 3] }, 3, .always⟩,
 ⟨some 33, .indexAddr 22 (.tmp 28) (.tmp 32), 0, .always⟩,
 ⟨some 34, .load 3 (.tmp 33), 3, .always⟩,
 ⟨some 35, .call { callee := .value (.func 93), args := #[.tmp 34], argTypes := #[3] }, 62, .always⟩,
 ⟨none, .store 62 (.tmp 8) (.tmp 35), 0, .always⟩] [8])
 (.ret))
 (.skip)))
 (.seq (.seq (.ops [⟨some 36, .move (.tmp 3), 3, .always⟩,
 ⟨some 37, .binOp .gtr 3 (.tmp 36) (.const (.int .i64 0)) 3, 4, .always⟩] [0, 1, 3, 6, 8, 37])
 (.cond (.tmp 37)
 (.seq (.ops [⟨some 38, .move (.tmp 0), 39, .always⟩,
 ⟨some 39, .call { callee := .value (.func 36), args := #[.tmp 38, .const (.int .i64 8)], argTypes := #[39, 3] }, 3, .always⟩] [0, 1, 3, 6, 8, 39])
 (.block 0
 (.seq (.ops [⟨some 41, .binOp .eql 3 (.tmp 39) (.const (.int .i64 0)) 3, 4, .always⟩,
 ⟨some 40, .assign (.tmp 41), 4, .always⟩] [0, 1, 3, 6, 8, 39, 40])
 (.cond (.tmp 40)
 (.seq (.ops [⟨some 42, .move (.tmp 0), 39, .always⟩,
 ⟨some 43, .call { callee := .value (.func 42), args := #[.tmp 42, .const (.int .i64 0)], argTypes := #[39, 3] }, 25, .always⟩,
 ⟨some 10, .alloc 25, 0, .always⟩,
 ⟨none, .store 25 (.tmp 10) (.tmp 43), 0, .always⟩] [0, 1, 3, 6, 8, 10])
 (.seq (.draw [⟨some 44, .load 25 (.tmp 10), 25, .always⟩,
 ⟨some 45, .move (.tmp 0), 39, .always⟩,
 ⟨some 46, .move (.tmp 1), 23, .always⟩,
 ⟨some 47, .load 25 (.tmp 10), 25, .always⟩,
 ⟨some 48, .buildSlice 23 1 #[(0, .tmp 47)], 23, .always⟩,
 ⟨some 49, .call { callee := .value (.func 72), args := #[.tmp 46, .tmp 48], argTypes := #[23, 23] }, 23, .always⟩,
 ⟨some 50, .load 25 (.tmp 6), 25, .always⟩,
 ⟨some 51, .move (.tmp 3), 3, .always⟩,
 ⟨some 52, .binOp .sub 3 (.tmp 51) (.const (.int .i64 1)) 3, 3, .always⟩,
 ⟨some 53, .call { callee := .value (.func 38), args := #[.tmp 45, .tmp 49, .tmp 50, .tmp 52], argTypes := #[39, 23, 25, 3] }, 62, .always⟩,
 ⟨some 54, .buildSlice 26 1 #[(0, .tmp 53)], 26, .always⟩,
 ⟨some 55, .call { callee := .value (.func 57), args := #[.const (.int .i64 2), .tmp 44, .tmp 54], argTypes := #[3, 25, 26] }, 62, .always⟩,
 ⟨some 56, .move (.tmp 0), 39, .always⟩,
 ⟨some 57, .move (.tmp 1), 23, .always⟩,
 ⟨some 58, .load 25 (.tmp 10), 25, .always⟩,
 ⟨some 59, .move (.tmp 3), 3, .always⟩,
 ⟨some 60, .binOp .sub 3 (.tmp 59) (.const (.int .i64 1)) 3, 3, .always⟩,
 ⟨some 61, .call { callee := .value (.func 38), args := #[.tmp 56, .tmp 57, .tmp 58, .tmp 60], argTypes := #[39, 23, 25, 3] }, 62, .always⟩,
 ⟨some 62, .buildSlice 26 2 #[(0, .tmp 55), (1, .tmp 61)], 26, .always⟩,
 ⟨some 63, .call { callee := .value (.func 56), args := #[.const (.int .i64 3), .tmp 62], argTypes := #[3, 26] }, 62, .always⟩,
 ⟨none, .store 62 (.tmp 8) (.tmp 63), 0, .always⟩] [true, false, false, false, false, true, true, false, false, true, false, true, false, false, true, false, false, false, false, false, false] [8])
 (.ret)))
 (.seq (.ops [⟨some 65, .binOp .eql 3 (.tmp 39) (.const (.int .i64 1)) 3, 4, .always⟩,
 ⟨some 64, .assign (.tmp 65), 4, .always⟩] [0, 1, 3, 6, 8, 39, 64])
 (.cond (.tmp 64)
 (.seq (.ops [⟨some 66, .move (.tmp 0), 39, .always⟩,
 ⟨some 67, .call { callee := .value (.func 42), args := #[.tmp 66, .const (.int .i64 0)], argTypes := #[39, 3] }, 25, .always⟩,
 ⟨some 11, .alloc 25, 0, .always⟩,
 ⟨none, .store 25 (.tmp 11) (.tmp 67), 0, .always⟩] [0, 1, 3, 6, 8, 11])
 (.seq (.draw [⟨some 68, .move (.tmp 0), 39, .always⟩,
 ⟨some 69, .move (.tmp 1), 23, .always⟩,
 ⟨some 70, .load 25 (.tmp 6), 25, .always⟩,
 ⟨some 71, .move (.tmp 3), 3, .always⟩,
 ⟨some 72, .binOp .sub 3 (.tmp 71) (.const (.int .i64 1)) 3, 3, .always⟩,
 ⟨some 73, .call { callee := .value (.func 38), args := #[.tmp 68, .tmp 69, .tmp 70, .tmp 72], argTypes := #[39, 23, 25, 3] }, 62, .always⟩,
 ⟨some 74, .move (.tmp 0), 39, .always⟩,
 ⟨some 75, .move (.tmp 1), 23, .always⟩,
 ⟨some 76, .load 25 (.tmp 11), 25, .always⟩,
 ⟨some 77, .move (.tmp 3), 3, .always⟩,
 ⟨some 78, .binOp .sub 3 (.tmp 77) (.const (.int .i64 1)) 3, 3, .always⟩,
 ⟨some 79, .call { callee := .value (.func 38), args := #[.tmp 74, .tmp 75, .tmp 76, .tmp 78], argTypes := #[39, 23, 25, 3] }, 62, .always⟩,
 ⟨some 80, .buildSlice 26 2 #[(0, .tmp 73), (1, .tmp 79)], 26, .always⟩,
 ⟨some 81, .call { callee := .value (.func 56), args := #[.const (.int .i64 10), .tmp 80], argTypes := #[3, 26] }, 62, .always⟩,
 ⟨some 82, .buildSlice 26 1 #[(0, .tmp 81)], 26, .always⟩,
 ⟨some 83, .call { callee := .value (.func 56), args := #[.const (.int .i64 11), .tmp 82], argTypes := #[3, 26] }, 62, .always⟩,
 ⟨none, .store 62 (.tmp 8) (.tmp 83), 0, .always⟩] [false, false, false, false, false, true, false, false, true, false, false, false, false, false, false, false, false] [8])
 (.ret)))
 (.seq (.ops [⟨some 85, .binOp .eql 3 (.tmp 39) (.const (.int .i64 2)) 3, 4, .always⟩,
 ⟨some 84, .assign (.tmp 85), 4, .always⟩] [0, 1, 3, 6, 8, 39, 84])
 (.cond (.tmp 84)
 (.seq (.draw [⟨some 86, .call { callee := .value (.func 73), args := #[], argTypes := #[] }, 25, .always⟩,
 ⟨some 87, .load 25 (.tmp 6), 25, .always⟩,
 ⟨some 88, .move (.tmp 0), 39, .always⟩,
 ⟨some 89, .move (.tmp 1), 23, .always⟩,
 ⟨some 90, .call { callee := .value (.func 73), args := #[], argTypes := #[] }, 25, .always⟩,
 ⟨some 91, .load 25 (.tmp 6), 25, .always⟩,
 ⟨some 92, .buildSlice 23 2 #[(0, .tmp 90), (1, .tmp 91)], 23, .always⟩,
 ⟨some 93, .call { callee := .value (.func 72), args := #[.tmp 89, .tmp 92], argTypes := #[23, 23] }, 23, .always⟩,
 ⟨some 94, .load 25 (.tmp 6), 25, .always⟩,
 ⟨some 95, .move (.tmp 3), 3, .always⟩,
 ⟨some 96, .binOp .sub 3 (.tmp 95) (.const (.int .i64 1)) 3, 3, .always⟩,
 ⟨some 97, .call { callee := .value (.func 38), args := #[.tmp 88, .tmp 93, .tmp 94, .tmp 96], argTypes := #[39, 23, 25, 3] }, 62, .always⟩,
 ⟨some 98, .buildSlice 26 1 #[(0, .tmp 97)], 26, .always⟩,
 ⟨some 99, .call { callee := .value (.func 57), args := #[.const (.int .i64 2), .tmp 87, .tmp 98], argTypes := #[3, 25, 26] }, 62, .always⟩,
 ⟨some 100, .buildSlice 26 1 #[(0, .tmp 99)], 26, .always⟩,
 ⟨some 101, .call { callee := .value (.func 57), args := #[.const (.int .i64 2), .tmp 86, .tmp 100], argTypes := #[3, 25, 26] }, 62, .always⟩,
 ⟨some 12, .alloc 62, 0, .always⟩,
 ⟨none, .store 62 (.tmp 12) (.tmp 101), 0, .always⟩] [true, true, false, false, true, true, false, true, true, false, false, true, false, true, false, true, true, false] [0, 1, 3, 6, 8, 12])
 (.seq (.draw [⟨some 102, .load 25 (.tmp 6), 25, .always⟩,
 ⟨some 103, .move (.tmp 0), 39, .always⟩,
 ⟨some 104, .move (.tmp 1), 23, .always⟩,
 ⟨some 105, .load 25 (.tmp 6), 25, .always⟩,
 ⟨some 106, .move (.tmp 3), 3, .always⟩,
 ⟨some 107, .binOp .sub 3 (.tmp 106) (.const (.int .i64 1)) 3, 3, .always⟩,
 ⟨some 108, .call { callee := .value (.func 38), args := #[.tmp 103, .tmp 104, .tmp 105, .tmp 107], argTypes := #[39, 23, 25, 3] }, 62, .always⟩,
 ⟨some 109, .load 62 (.tmp 12), 62, .always⟩,
 ⟨some 110, .move (.tmp 0), 39, .always⟩,
 ⟨some 111, .call { callee := .value (.func 36), args := #[.tmp 110, .const (.int .i64 3)], argTypes := #[39, 3] }, 3, .always⟩,
 ⟨some 112, .call { callee := .value (.func 94), args := #[.tmp 111], argTypes := #[3] }, 62, .always⟩,
 ⟨some 113, .buildSlice 26 3 #[(0, .tmp 108), (1, .tmp 109), (2, .tmp 112)], 26, .always⟩,
 ⟨some 114, .call { callee := .value (.func 57), args := #[.const (.int .i64 6), .tmp 102, .tmp 113], argTypes := #[3, 25, 26] }, 62, .always⟩,
 ⟨none, .store 62 (.tmp 8) (.tmp 114), 0, .always⟩] [true, false, false, false, false, false, true, true, false, true, true, false, false, false] [8])
 (.ret)))
 (.seq (.ops [⟨some 116, .binOp .eql 3 (.tmp 39) (.const (.int .i64 3)) 3, 4, .always⟩,
 ⟨some 115, .assign (.tmp 116), 4, .always⟩] [0, 1, 3, 6, 8, 39, 115])
 (.cond (.tmp 115)
 (.seq (.draw [⟨some 117, .call { callee := .value (.func 73), args := #[], argTypes := #[] }, 25, .always⟩,
 ⟨some 118, .call { callee := .value (.func 95), args := #[], argTypes := #[] }, 25, .always⟩,
 ⟨some 119, .load 25 (.tmp 6), 25, .always⟩,
 ⟨some 120, .move (.tmp 0), 39, .always⟩,
 ⟨some 121, .move (.tmp 1), 23, .always⟩,
 ⟨some 122, .call { callee := .value (.func 73), args := #[], argTypes := #[] }, 25, .always⟩,
 ⟨some 123, .call { callee := .value (.func 95), args := #[], argTypes := #[] }, 25, .always⟩,
 ⟨some 124, .load 25 (.tmp 6), 25, .always⟩,
 ⟨some 125, .buildSlice 23 3 #[(0, .tmp 122), (1, .tmp 123), (2, .tmp 124)], 23, .always⟩,
 ⟨some 126, .call { callee := .value (.func 72), args := #[.tmp 121, .tmp 125], argTypes := #[23, 23] }, 23, .always⟩,
 ⟨some 127, .load 25 (.tmp 6), 25, .always⟩,
 ⟨some 128, .move (.tmp 3), 3, .always⟩,
 ⟨some 129, .binOp .sub 3 (.tmp 128) (.const (.int .i64 1)) 3, 3, .always⟩,
 ⟨some 130, .call { callee := .value (.func 38), args := #[.tmp 120, .tmp 126, .tmp 127, .tmp 129], argTypes := #[39, 23, 25, 3] }, 62, .always⟩,
 ⟨some 131, .buildSlice 26 1 #[(0, .tmp 130)], 26, .always⟩,
 ⟨some 132, .call { callee := .value (.func 57), args := #[.const (.int .i64 2), .tmp 119, .tmp 131], argTypes := #[3, 25, 26] }, 62, .always⟩,
 ⟨some 133, .buildSlice 26 1 #[(0, .tmp 132)], 26, .always⟩,
 ⟨some 134, .call { callee := .value (.func 57), args := #[.const (.int .i64 2), .tmp 118, .tmp 133], argTypes := #[3, 25, 26] }, 62, .always⟩,
 ⟨some 135, .buildSlice 26 1 #[(0, .tmp 134)], 26, .always⟩,
 ⟨some 136, .call { callee := .value (.func 57), args := #[.const (.int .i64 2), .tmp 117, .tmp 135], argTypes := #[3, 25, 26] }, 62, .always⟩,
 ⟨some 13, .alloc 62, 0, .always⟩,
 ⟨none, .store 62 (.tmp 13) (.tmp 136), 0, .always⟩] [true, true, true, false, false, true, true, true, false, true, true, false, false, true, false, true, false, true, false, true, true, false] [0, 1, 3, 6, 8, 13])
 (.seq (.draw [⟨some 137, .load 25 (.tmp 6), 25, .always⟩,
 ⟨some 138, .move (.tmp 0), 39, .always⟩,
 ⟨some 139, .move (.tmp 1), 23, .always⟩,
 ⟨some 140, .load 25 (.tmp 6), 25, .always⟩,
 ⟨some 141, .move (.tmp 3), 3, .always⟩,
 ⟨some 142, .binOp .sub 3 (.tmp 141) (.const (.int .i64 1)) 3, 3, .always⟩,
 ⟨some 143, .call { callee := .value (.func 38), args := #[.tmp 138, .tmp 139, .tmp 140, .tmp 142], argTypes := #[39, 23, 25, 3] }, 62, .always⟩,
 ⟨some 144, .load 62 (.tmp 13), 62, .always⟩,
 ⟨some 145, .move (.tmp 0), 39, .always⟩,
 ⟨some 146, .move (.tmp 1), 23, .always⟩,
 ⟨some 147, .call { callee := .value (.func 95), args := #[], argTypes := #[] }, 25, .always⟩,
 ⟨some 148, .move (.tmp 3), 3, .always⟩,
 ⟨some 149, .binOp .sub 3 (.tmp 148) (.const (.int .i64 1)) 3, 3, .always⟩,
 ⟨some 150, .call { callee := .value (.func 38), args := #[.tmp 145, .tmp 146, .tmp 147, .tmp 149], argTypes := #[39, 23, 25, 3] }, 62, .always⟩,
 ⟨some 151, .buildSlice 26 3 #[(0, .tmp 143), (1, .tmp 144), (2, .tmp 150)], 26, .always⟩,
 ⟨some 152, .call { callee := .value (.func 57), args := #[.const (.int .i64 9), .tmp 137, .tmp 151], argTypes := #[3, 25, 26] }, 62, .always⟩,
 ⟨none, .store 62 (.tmp 8) (.tmp 152), 0, .always⟩] [true, false, false, false, false, false, true, true, false, false, true, false, false, true, false, false, false] [8])
 (.ret)))
 (.seq (.ops [⟨some 154, .binOp .eql 3 (.tmp 39) (.const (.int .i64 4)) 3, 4, .always⟩,
 ⟨some 153, .assign (.tmp 154), 4, .always⟩] [0, 1, 3, 6, 8, 39, 153])
 (.cond (.tmp 153)
 (.seq (.ops [⟨some 155, .move (.tmp 0), 39, .always⟩,
 ⟨some 156, .call { callee := .value (.func 42), args := #[.tmp 155, .const (.int .i64 0)], argTypes := #[39, 3] }, 25, .always⟩,
 ⟨some 14, .alloc 25, 0, .always⟩,
 ⟨none, .store 25 (.tmp 14) (.tmp 156), 0, .always⟩] [0, 1, 3, 6, 8, 14])
 (.seq (.draw [⟨some 157, .move (.tmp 0), 39, .always⟩,
 ⟨some 158, .move (.tmp 1), 23, .always⟩,
 ⟨some 159, .load 25 (.tmp 14), 25, .always⟩,
 ⟨some 160, .move (.tmp 3), 3, .always⟩,
 ⟨some 161, .binOp .sub 3 (.tmp 160) (.const (.int .i64 1)) 3, 3, .always⟩,
 ⟨some 162, .call { callee := .value (.func 38), args := #[.tmp 157, .tmp 158, .tmp 159, .tmp 161], argTypes := #[39, 23, 25, 3] }, 62, .always⟩,
 ⟨some 163, .move (.tmp 0), 39, .always⟩,
 ⟨some 164, .move (.tmp 1), 23, .always⟩,
 ⟨some 165, .load 25 (.tmp 6), 25, .always⟩,
 ⟨some 166, .move (.tmp 3), 3, .always⟩,
 ⟨some 167, .binOp .sub 3 (.tmp 166) (.const (.int .i64 1)) 3, 3, .always⟩,
 ⟨some 168, .call { callee := .value (.func 38), args := #[.tmp 163, .tmp 164, .tmp 165, .tmp 167], argTypes := #[39, 23, 25, 3] }, 62, .always⟩,
 ⟨some 169, .buildSlice 26 2 #[(0, .tmp 162), (1, .tmp 168)], 26, .always⟩,
 ⟨some 170, .call { callee := .value (.func 56), args := #[.const (.int .i64 10), .tmp 169], argTypes := #[3, 26] }, 62, .always⟩,
 ⟨some 171, .buildSlice 26 1 #[(0, .tmp 170)], 26, .always⟩,
 ⟨some 172, .call { callee := .value (.func 56), args := #[.const (.int .i64 12), .tmp 171], argTypes := #[3, 26] }, 62, .always⟩,
 ⟨none, .store 62 (.tmp 8) (.tmp 172), 0, .always⟩] [false, false, false, false, false, true, false, false, true, false, false, false, false, false, false, false, false] [8])
 (.ret)))
 (.seq (.ops [⟨some 174, .binOp .eql 3 (.tmp 39) (.const (.int .i64 5)) 3, 4, .always⟩,
 ⟨some 173, .assign (.tmp 174), 4, .always⟩] [0, 1, 3, 6, 8, 173])
 (.cond (.tmp 173)
 (.seq (.ops [⟨some 175, .move (.tmp 1), 23, .always⟩,
 ⟨some 176, .call { callee := .builtin .len, args := #[.tmp 175], argTypes := #[23] }, 3, .always⟩,
 ⟨some 177, .move (.const (.int .i64 0)), 3, .always⟩] [0, 1, 3, 6, 8, 176, 177])
 (.block 1
 (.loop
 (.seq (.ops [⟨some 178, .binOp .lss 3 (.tmp 177) (.tmp 176) 3, 0, .always⟩] [0, 1, 3, 6, 8, 176, 177, 178])
 (.seq (.cond (.tmp 178)
 (.skip)
 (.exit 1))
 (.seq (.block 2
 (.seq (.ops [⟨some 179, .move (.tmp 177), 3, .always⟩,
 ⟨some 15, .assign (.tmp 179), 3, .always⟩] [0, 1, 3, 6, 8, 15, 176, 177])
 (.seq (.ops [⟨some 180, .move (.tmp 1), 23, .always⟩,
 ⟨some 181, .move (.tmp 1), 23, .always⟩,
 ⟨some 182, .call { callee := .builtin .len, args := #[.tmp 181], argTypes := #[23] }, 3, .always⟩,
 ⟨some 183, .binOp .sub 3 (.tmp 182) (.const (.int .i64 1)) 3, 3, .always⟩,
 ⟨some 184, .move (.tmp 15), 3, .always⟩,
 ⟨some 185, .binOp .sub 3 (.tmp 183) (.tmp 184) 3, 3, .always⟩,
 ⟨some 186, .indexAddr 23 (.tmp 180) (.tmp 185), 0, .always⟩,
 ⟨some 187, .load 25 (.tmp 186), 25, .always⟩,
 ⟨some 16, .alloc 25, 0, .always⟩,
 ⟨none, .store 25 (.tmp 16) (.tmp 187), 0, .always⟩] [0, 1, 3, 6, 8, 15, 16, 176, 177])
 (.seq (.draw [⟨some 188, .fieldAddr 25 (.tmp 16) 0, 0, .always⟩,
 ⟨some 189, .load 3 (.tmp 188), 3, .always⟩,
 ⟨some 190, .binOp .eql 3 (.tmp 189) (.const (.int .i64 4)) 3, 4, .always⟩,
 ⟨some 191, .move (.tmp 190), 4, .always⟩,
 ⟨some 192, .fieldAddr 25 (.tmp 16) 1, 0, .tmp 191 true⟩,
 ⟨some 193, .load 23 (.tmp 192), 23, .tmp 191 true⟩,
 ⟨some 194, .indexAddr 23 (.tmp 193) (.const (.int .i64 1)), 0, .tmp 191 true⟩,
 ⟨some 195, .load 25 (.tmp 194), 25, .tmp 191 true⟩,
 ⟨some 196, .load 25 (.tmp 6), 25, .tmp 191 true⟩,
 ⟨some 197, .call { callee := .value (.func 26), args := #[.tmp 195, .tmp 196], argTypes := #[25, 25] }, 4, .tmp 191 true⟩,
 ⟨some 198, .pick (.tmp 191) (.tmp 197) (.const (.bool false)), 4, .always⟩] [false, false, false, false, false, false, false, false, false, false, false] [0, 1, 3, 6, 8, 15, 16, 176, 177, 198])
 (.cond (.tmp 198)
 (.seq (.draw [⟨some 199, .move (.tmp 15), 3, .always⟩,
 ⟨some 200, .call { callee := .value (.func 93), args := #[.tmp 199], argTypes := #[3] }, 62, .always⟩,
 ⟨some 201, .move (.tmp 0), 39, .always⟩,
 ⟨some 202, .move (.tmp 1), 23, .always⟩,
 ⟨some 203, .fieldAddr 25 (.tmp 16) 1, 0, .always⟩,
 ⟨some 204, .load 23 (.tmp 203), 23, .always⟩,
 ⟨some 205, .indexAddr 23 (.tmp 204) (.const (.int .i64 0)), 0, .always⟩,
 ⟨some 206, .load 25 (.tmp 205), 25, .always⟩,
 ⟨some 207, .move (.tmp 3), 3, .always⟩,
 ⟨some 208, .binOp .sub 3 (.tmp 207) (.const (.int .i64 1)) 3, 3, .always⟩,
 ⟨some 209, .call { callee := .value (.func 38), args := #[.tmp 201, .tmp 202, .tmp 206, .tmp 208], argTypes := #[39, 23, 25, 3] }, 62, .always⟩,
 ⟨some 210, .buildSlice 26 2 #[(0, .tmp 200), (1, .tmp 209)], 26, .always⟩,
 ⟨some 211, .call { callee := .value (.func 56), args := #[.const (.int .i64 3), .tmp 210], argTypes := #[3, 26] }, 62, .always⟩,
 ⟨none, .store 62 (.tmp 8) (.tmp 211), 0, .always⟩] [false, true, false, false, false, true, false, true, false, false, false, false, false, false] [8])
 (.ret))
 (.skip))))))
 (.ops [⟨some 212, .binOp .add 3 (.tmp 177) (.const (.int .i64 1)) 3, 3, .always⟩,
 ⟨some 177, .move (.tmp 212), 3, .always⟩] [0, 1, 3, 6, 8, 176, 177])))))))
 (.skip)))))))))))))))
 (.skip)))
 (.seq (.seq (.ops [⟨some 213, .fieldAddr 25 (.tmp 6) 0, 0, .always⟩,
 ⟨some 214, .load 3 (.tmp 213), 3, .always⟩] [0, 1, 3, 6, 8, 214])
 (.block 3
 (.seq (.ops [⟨some 216, .binOp .eql 3 (.tmp 214) (.const (.int .i64 1)) 3, 4, .always⟩,
 ⟨some 215, .assign (.tmp 216), 4, .always⟩] [0, 1, 3, 6, 8, 214, 215])
 (.cond (.tmp 215)
 (.seq (.seq (.ops [⟨some 217, .move (.tmp 3), 3, .always⟩,
 ⟨some 218, .binOp .gtr 3 (.tmp 217) (.const (.int .i64 0)) 3, 4, .always⟩] [0, 1, 3, 6, 8, 218])
 (.cond (.tmp 218)
 (.seq (.ops [⟨some 219, .move (.tmp 0), 39, .always⟩,
 ⟨some 220, .call { callee := .value (.func 36), args := #[.tmp 219, .const (.int .i64 5)], argTypes := #[39, 3] }, 3, .always⟩] [0, 1, 3, 6, 8, 220])
 (.block 4
 (.seq (.ops [⟨some 222, .binOp .eql 3 (.tmp 220) (.const (.int .i64 0)) 3, 4, .always⟩,
 ⟨some 221, .assign (.tmp 222), 4, .always⟩] [0, 1, 3, 6, 8, 220, 221])
 (.cond (.tmp 221)
 (.seq (.ops [⟨some 223, .move (.tmp 0), 39, .always⟩,
 ⟨some 224, .move (.tmp 1), 23, .always⟩,
 ⟨some 225, .load 25 (.tmp 6), 25, .always⟩,
 ⟨some 226, .move (.tmp 3), 3, .always⟩,
 ⟨some 227, .binOp .sub 3 (.tmp 226) (.const (.int .i64 1)) 3, 3, .always⟩,
 ⟨some 228, .call { callee := .value (.func 38), args := #[.tmp 223, .tmp 224, .tmp 225, .tmp 227], argTypes := #[39, 23, 25, 3] }, 62, .always⟩,
 ⟨some 229, .buildSlice 26 1 #[(0, .tmp 228)], 26, .always⟩,
 ⟨some 230, .call { callee := .value (.func 56), args := #[.const (.int .i64 5), .tmp 229], argTypes := #[3, 26] }, 62, .always⟩,
 ⟨none, .store 62 (.tmp 8) (.tmp 230), 0, .always⟩] [8])
 (.ret))
 (.seq (.ops [⟨some 232, .binOp .eql 3 (.tmp 220) (.const (.int .i64 1)) 3, 4, .always⟩,
 ⟨some 231, .assign (.tmp 232), 4, .always⟩] [0, 1, 3, 6, 8, 220, 231])
 (.cond (.tmp 231)
 (.seq (.draw [⟨some 233, .call { callee := .value (.func 97), args := #[], argTypes := #[] }, 62, .always⟩,
 ⟨some 234, .move (.tmp 0), 39, .always⟩,
 ⟨some 235, .move (.tmp 1), 23, .always⟩,
 ⟨some 236, .load 25 (.tmp 6), 25, .always⟩,
 ⟨some 237, .move (.tmp 3), 3, .always⟩,
 ⟨some 238, .binOp .sub 3 (.tmp 237) (.const (.int .i64 1)) 3, 3, .always⟩,
 ⟨some 239, .call { callee := .value (.func 38), args := #[.tmp 234, .tmp 235, .tmp 236, .tmp 238], argTypes := #[39, 23, 25, 3] }, 62, .always⟩,
 ⟨some 240, .move (.tmp 0), 39, .always⟩,
 ⟨some 241, .move (.tmp 1), 23, .always⟩,
 ⟨some 242, .load 25 (.tmp 6), 25, .always⟩,
 ⟨some 243, .move (.tmp 3), 3, .always⟩,
 ⟨some 244, .binOp .sub 3 (.tmp 243) (.const (.int .i64 1)) 3, 3, .always⟩,
 ⟨some 245, .call { callee := .value (.func 38), args := #[.tmp 240, .tmp 241, .tmp 242, .tmp 244], argTypes := #[39, 23, 25, 3] }, 62, .always⟩,
 ⟨some 246, .buildSlice 26 2 #[(0, .tmp 239), (1, .tmp 245)], 26, .always⟩,
 ⟨some 247, .call { callee := .value (.func 96), args := #[.tmp 233, .tmp 246], argTypes := #[62, 26] }, 62, .always⟩,
 ⟨none, .store 62 (.tmp 8) (.tmp 247), 0, .always⟩] [true, false, false, true, false, false, true, false, false, true, false, false, false, false, false, false] [8])
 (.ret))
 (.seq (.ops [⟨some 249, .binOp .eql 3 (.tmp 220) (.const (.int .i64 2)) 3, 4, .always⟩,
 ⟨some 248, .assign (.tmp 249), 4, .always⟩] [0, 1, 3, 6, 8, 248])
 (.cond (.tmp 248)
 (.seq (.draw [⟨some 250, .call { callee := .value (.func 98), args := #[], argTypes := #[] }, 62, .always⟩,
 ⟨some 251, .move (.tmp 0), 39, .always⟩,
 ⟨some 252, .move (.tmp 1), 23, .always⟩,
 ⟨some 253, .load 25 (.tmp 6), 25, .always⟩,
 ⟨some 254, .move (.tmp 3), 3, .always⟩,
 ⟨some 255, .binOp .sub 3 (.tmp 254) (.const (.int .i64 1)) 3, 3, .always⟩,
 ⟨some 256, .call { callee := .value (.func 38), args := #[.tmp 251, .tmp 252, .tmp 253, .tmp 255], argTypes := #[39, 23, 25, 3] }, 62, .always⟩,
 ⟨some 257, .move (.tmp 0), 39, .always⟩,
 ⟨some 258, .move (.tmp 1), 23, .always⟩,
 ⟨some 259, .load 25 (.tmp 6), 25, .always⟩,
 ⟨some 260, .move (.tmp 3), 3, .always⟩,
 ⟨some 261, .binOp .sub 3 (.tmp 260) (.const (.int .i64 1)) 3, 3, .always⟩,
 ⟨some 262, .call { callee := .value (.func 38), args := #[.tmp 257, .tmp 258, .tmp 259, .tmp 261], argTypes := #[39, 23, 25, 3] }, 62, .always⟩,
 ⟨some 263, .buildSlice 26 2 #[(0, .tmp 256), (1, .tmp 262)], 26, .always⟩,
 ⟨some 264, .call { callee := .value (.func 96), args := #[.tmp 250, .tmp 263], argTypes := #[62, 26] }, 62, .always⟩,
 ⟨none, .store 62 (.tmp 8) (.tmp 264), 0, .always⟩] [true, false, false, true, false, false, true, false, false, true, false, false, false, false, false, false] [8])
 (.ret))
 (.skip)))))))))
 (.skip)))
 (.seq (.ops [⟨some 265, .move (.tmp 0), 39, .always⟩,
 ⟨some 266, .call { callee := .value (.func 36), args := #[.tmp 265, .const (.int .i64 3)], argTypes := #[39, 3] }, 3, .always⟩,
 ⟨some 267, .call { callee := .value (.func 94), args := #[.tmp 266], argTypes := #[3] }, 62, .always⟩,
 ⟨none, .store 62 (.tmp 8) (.tmp 267), 0, .always⟩] [8])
 (.ret)))
 (.seq (.ops [⟨some 269, .binOp .eql 3 (.tmp 214) (.const (.int .i64 2)) 3, 4, .always⟩,
 ⟨some 268, .assign (.tmp 269), 4, .always⟩] [0, 1, 3, 6, 8, 214, 268])
 (.cond (.tmp 268)
 (.seq (.seq (.ops [⟨some 270, .move (.tmp 3), 3, .always⟩,
 ⟨some 271, .binOp .gtr 3 (.tmp 270) (.const (.int .i64 0)) 3, 4, .always⟩,
 ⟨some 272, .move (.tmp 271), 4, .always⟩,
 ⟨some 273, .move (.tmp 0), 39, .tmp 272 true⟩,
 ⟨some 274, .call { callee := .value (.func 36), args := #[.tmp 273, .const (.int .i64 2)], argTypes := #[39, 3] }, 3, .tmp 272 true⟩,
 ⟨some 275, .binOp .eql 3 (.tmp 274) (.const (.int .i64 0)) 3, 4, .tmp 272 true⟩,
 ⟨some 276, .pick (.tmp 272) (.tmp 275) (.const (.bool false)), 4, .always⟩] [0, 1, 3, 6, 8, 276])
 (.cond (.tmp 276)
 (.seq (.draw [⟨some 277, .move (.tmp 0), 39, .always⟩,
 ⟨some 278, .move (.tmp 1), 23, .always⟩,
 ⟨some 279, .call { callee := .value (.func 73), args := #[], argTypes := #[] }, 25, .always⟩,
 ⟨some 280, .move (.tmp 3), 3, .always⟩,
 ⟨some 281, .binOp .sub 3 (.tmp 280) (.const (.int .i64 1)) 3, 3, .always⟩,
 ⟨some 282, .call { callee := .value (.func 38), args := #[.tmp 277, .tmp 278, .tmp 279, .tmp 281], argTypes := #[39, 23, 25, 3] }, 62, .always⟩,
 ⟨some 283, .move (.tmp 0), 39, .always⟩,
 ⟨some 284, .move (.tmp 1), 23, .always⟩,
 ⟨some 285, .load 25 (.tmp 6), 25, .always⟩,
 ⟨some 286, .move (.tmp 3), 3, .always⟩,
 ⟨some 287, .binOp .sub 3 (.tmp 286) (.const (.int .i64 1)) 3, 3, .always⟩,
 ⟨some 288, .call { callee := .value (.func 38), args := #[.tmp 283, .tmp 284, .tmp 285, .tmp 287], argTypes := #[39, 23, 25, 3] }, 62, .always⟩,
 ⟨some 289, .buildSlice 26 2 #[(0, .tmp 282), (1, .tmp 288)], 26, .always⟩,
 ⟨some 290, .call { callee := .value (.func 56), args := #[.const (.int .i64 8), .tmp 289], argTypes := #[3, 26] }, 62, .always⟩,
 ⟨none, .store 62 (.tmp 8) (.tmp 290), 0, .always⟩] [false, false, true, false, false, true, false, false, true, false, false, false, false, false, false] [8])
 (.ret))
 (.skip)))
 (.seq (.ops [⟨some 291, .call { callee := .value (.func 56), args := #[.const (.int .i64 7), .const (.slice none 0 0)], argTypes := #[3, 26] }, 62, .always⟩,
 ⟨none, .store 62 (.tmp 8) (.tmp 291), 0, .always⟩] [8])
 (.ret)))
 (.seq (.ops [⟨some 293, .binOp .eql 3 (.tmp 214) (.const (.int .i64 3)) 3, 4, .always⟩,
 ⟨some 292, .assign (.tmp 293), 4, .always⟩] [0, 1, 3, 6, 8, 214, 292])
 (.cond (.tmp 292)
 (.seq (.draw [⟨some 294, .move (.tmp 0), 39, .always⟩,
 ⟨some 295, .move (.tmp 1), 23, .always⟩,
 ⟨some 296, .fieldAddr 25 (.tmp 6) 1, 0, .always⟩,
 ⟨some 297, .load 23 (.tmp 296), 23, .always⟩,
 ⟨some 298, .indexAddr 23 (.tmp 297) (.const (.int .i64 0)), 0, .always⟩,
 ⟨some 299, .load 25 (.tmp 298), 25, .always⟩,
 ⟨some 300, .move (.tmp 3), 3, .always⟩,
 ⟨some 301, .binOp .sub 3 (.tmp 300) (.const (.int .i64 1)) 3, 3, .always⟩,
 ⟨some 302, .call { callee := .value (.func 38), args := #[.tmp 294, .tmp 295, .tmp 299, .tmp 301], argTypes := #[39, 23, 25, 3] }, 62, .always⟩,
 ⟨some 303, .move (.tmp 0), 39, .always⟩,
 ⟨some 304, .move (.tmp 1), 23, .always⟩,
 ⟨some 305, .fieldAddr 25 (.tmp 6) 1, 0, .always⟩,
 ⟨some 306, .load 23 (.tmp 305), 23, .always⟩,
 ⟨some 307, .indexAddr 23 (.tmp 306) (.const (.int .i64 1)), 0, .always⟩,
 ⟨some 308, .load 25 (.tmp 307), 25, .always⟩,
 ⟨some 309, .move (.tmp 3), 3, .always⟩,
 ⟨some 310, .binOp .sub 3 (.tmp 309) (.const (.int .i64 1)) 3, 3, .always⟩,
 ⟨some 311, .call { callee := .value (.func 38), args := #[.tmp 303, .tmp 304, .tmp 308, .tmp 310], argTypes := #[39, 23, 25, 3] }, 62, .always⟩,
 ⟨some 312, .buildSlice 26 2 #[(0, .tmp 302), (1, .tmp 311)], 26, .always⟩,
 ⟨some 313, .call { callee := .value (.func 56), args := #[.const (.int .i64 10), .tmp 312], argTypes := #[3, 26] }, 62, .always⟩,
 ⟨none, .store 62 (.tmp 8) (.tmp 313), 0, .always⟩] [false, false, false, false, false, false, false, false, true, false, false, false, true, false, true, false, false, false, false, false, false] [8])
 (.ret))
 (.seq (.ops [⟨some 315, .binOp .eql 3 (.tmp 214) (.const (.int .i64 4)) 3, 4, .always⟩,
 ⟨some 314, .assign (.tmp 315), 4, .always⟩] [0, 1, 3, 6, 8, 314])
 (.cond (.tmp 314)
 (.seq (.draw [⟨some 316, .fieldAddr 25 (.tmp 6) 1, 0, .always⟩,
 ⟨some 317, .load 23 (.tmp 316), 23, .always⟩,
 ⟨some 318, .indexAddr 23 (.tmp 317) (.const (.int .i64 0)), 0, .always⟩,
 ⟨some 319, .load 25 (.tmp 318), 25, .always⟩,
 ⟨some 320, .move (.tmp 0), 39, .always⟩,
 ⟨some 321, .move (.tmp 1), 23, .always⟩,
 ⟨some 322, .fieldAddr 25 (.tmp 6) 1, 0, .always⟩,
 ⟨some 323, .load 23 (.tmp 322), 23, .always⟩,
 ⟨some 324, .indexAddr 23 (.tmp 323) (.const (.int .i64 0)), 0, .always⟩,
 ⟨some 325, .load 25 (.tmp 324), 25, .always⟩,
 ⟨some 326, .buildSlice 23 1 #[(0, .tmp 325)], 23, .always⟩,
 ⟨some 327, .call { callee := .value (.func 72), args := #[.tmp 321, .tmp 326], argTypes := #[23, 23] }, 23, .always⟩,
 ⟨some 328, .fieldAddr 25 (.tmp 6) 1, 0, .always⟩,
 ⟨some 329, .load 23 (.tmp 328), 23, .always⟩,
 ⟨some 330, .indexAddr 23 (.tmp 329) (.const (.int .i64 1)), 0, .always⟩,
 ⟨some 331, .load 25 (.tmp 330), 25, .always⟩,
 ⟨some 332, .move (.tmp 3), 3, .always⟩,
 ⟨some 333, .binOp .sub 3 (.tmp 332) (.const (.int .i64 1)) 3, 3, .always⟩,
 ⟨some 334, .call { callee := .value (.func 38), args := #[.tmp 320, .tmp 327, .tmp 331, .tmp 333], argTypes := #[39, 23, 25, 3] }, 62, .always⟩,
 ⟨some 335, .buildSlice 26 1 #[(0, .tmp 334)], 26, .always⟩,
 ⟨some 336, .call { callee := .value (.func 57), args := #[.const (.int .i64 2), .tmp 319, .tmp 335], argTypes := #[3, 25, 26] }, 62, .always⟩,
 ⟨none, .store 62 (.tmp 8) (.tmp 336), 0, .always⟩] [false, true, false, true, false, false, false, false, false, false, false, true, false, true, false, true, false, false, true, false, false, false] [8])
 (.ret))
 (.skip)))))))))))
 (.seq (.ops [⟨some 337, .call { callee := .value (.func 56), args := #[.const (.int .i64 13), .const (.slice none 0 0)], argTypes := #[3, 26] }, 62, .always⟩,
 ⟨none, .store 62 (.tmp 8) (.tmp 337), 0, .always⟩] [8])
 (.ret))))))
theorem w38 {args : List PV} {σ σ' : List Frm} {r : Ret} (hr : ∀ p, r = .val p → erV p = p) (h : wpP cfg s38 (QEndP cfg [.cell 8 62] σ' r) ⟨initEnv args, fun _ => [], σ, ⟨fun _ => false, 0⟩⟩) : CallsV cfg 38 args σ r σ' :=
 callsV_of_p follows cfgT a38 (fn := Tryd.f38) (c := Tryd.f38.body.getD .skip) (by kernel_rfl) (by kernel_rfl) (by kernel_rfl) (by kernel_rfl) (by kernel_rfl) (sc := s38) (by kernel_rfl) [.cell 8 62] (by kernel_rfl) hr h
def a84 : List Ann := [⟨[1, 2], [], []⟩,
 ⟨[1, 2, 3], [0, 1, 0, 4, 12, 31, 0, 127], [false, true, false, false, true, false, true, false]⟩,
 ⟨[1, 2, 3, 15, 16, 17], [], []⟩,
 ⟨[1, 2, 3, 15, 16, 17, 18], [], []⟩,
 ⟨[1, 2, 3, 5, 15, 16, 17], [], []⟩,
 ⟨[1, 2, 3, 15, 16, 17], [0, 1, 0, 4, 12, 31, 63, 127], [false, true, false, true, false, false, false, false]⟩,
 ⟨[1, 2, 3, 15, 16, 17], [], []⟩,
 ⟨[2, 3, 30, 31, 32], [], []⟩,
 ⟨[2, 3, 30, 31, 32, 33], [], []⟩,
 ⟨[2, 3, 7, 30, 31, 32], [], []⟩,
 ⟨[2, 3, 30, 31, 32], [0, 1, 0, 4, 12, 31, 63, 127], [false, true, false, true, false, false, false, false]⟩,
 ⟨[2, 3, 30, 31, 32], [], []⟩,
 ⟨[2], [], []⟩]
def s84 : SC := .seq (.ops [⟨some 1, .box 29 (.tmp 0), 0, .always⟩,
 ⟨some 2, .alloc 29, 0, .always⟩] [1, 2])
 (.seq (.draw [⟨some 8, .fieldAddr 29 (.tmp 1) 0, 0, .always⟩,
 ⟨some 9, .load 3 (.tmp 8), 3, .always⟩,
 ⟨some 10, .fieldAddr 29 (.tmp 1) 1, 0, .always⟩,
 ⟨some 11, .load 25 (.tmp 10), 25, .always⟩,
 ⟨some 12, .call { callee := .value (.func 105), args := #[.tmp 11], argTypes := #[25] }, 25, .always⟩,
 ⟨some 13, .build 29 #[(0, .tmp 9), (1, .tmp 12)], 29, .always⟩,
 ⟨some 3, .alloc 29, 0, .always⟩,
 ⟨none, .store 29 (.tmp 3) (.tmp 13), 0, .always⟩] [false, true, false, false, true, false, true, false] [1, 2, 3])
 (.seq (.seq (.ops [⟨some 14, .fieldAddr 29 (.tmp 1) 2, 0, .always⟩,
 ⟨some 15, .load 26 (.tmp 14), 26, .always⟩,
 ⟨some 16, .call { callee := .builtin .len, args := #[.tmp 15], argTypes := #[26] }, 3, .always⟩,
 ⟨some 17, .move (.const (.int .i64 0)), 3, .always⟩] [1, 2, 3, 15, 16, 17])
 (.block 0
 (.loop
 (.seq (.ops [⟨some 18, .binOp .lss 3 (.tmp 17) (.tmp 16) 3, 0, .always⟩] [1, 2, 3, 15, 16, 17, 18])
 (.seq (.cond (.tmp 18)
 (.skip)
 (.exit 0))
 (.seq (.block 1
 (.seq (.ops [⟨some 19, .indexAddr 26 (.tmp 15) (.tmp 17), 0, .always⟩,
 ⟨some 20, .load 62 (.tmp 19), 62, .always⟩,
 ⟨some 5, .alloc 62, 0, .always⟩,
 ⟨none, .store 62 (.tmp 5) (.tmp 20), 0, .always⟩] [1, 2, 3, 5, 15, 16, 17])
 (.draw [⟨some 21, .fieldAddr 29 (.tmp 3) 2, 0, .always⟩,
 ⟨some 22, .load 26 (.tmp 21), 26, .always⟩,
 ⟨some 23, .load 62 (.tmp 5), 62, .always⟩,
 ⟨some 24, .call { callee := .value (.func 115), args := #[.tmp 23], argTypes := #[62] }, 62, .always⟩,
 ⟨some 25, .buildSlice 26 1 #[(0, .tmp 24)], 26, .always⟩,
 ⟨some 26, .call { callee := .builtin .append, args := #[.tmp 22, .tmp 25], argTypes := #[26, 26] }, 26, .always⟩,
 ⟨some 27, .fieldAddr 29 (.tmp 3) 2, 0, .always⟩,
 ⟨none, .store 26 (.tmp 27) (.tmp 26), 0, .always⟩] [false, true, false, true, false, false, false, false] [1, 2, 3, 15, 16, 17])))
 (.ops [⟨some 28, .binOp .add 3 (.tmp 17) (.const (.int .i64 1)) 3, 3, .always⟩,
 ⟨some 17, .move (.tmp 28), 3, .always⟩] [1, 2, 3, 15, 16, 17])))))))
 (.seq (.seq (.ops [⟨some 29, .fieldAddr 29 (.tmp 1) 3, 0, .always⟩,
 ⟨some 30, .load 27 (.tmp 29), 27, .always⟩,
 ⟨some 31, .call { callee := .builtin .len, args := #[.tmp 30], argTypes := #[27] }, 3, .always⟩,
 ⟨some 32, .move (.const (.int .i64 0)), 3, .always⟩] [2, 3, 30, 31, 32])
 (.block 2
 (.loop
 (.seq (.ops [⟨some 33, .binOp .lss 3 (.tmp 32) (.tmp 31) 3, 0, .always⟩] [2, 3, 30, 31, 32, 33])
 (.seq (.cond (.tmp 33)
 (.skip)
 (.exit 2))
 (.seq (.block 3
 (.seq (.ops [⟨some 34, .indexAddr 27 (.tmp 30) (.tmp 32), 0, .always⟩,
 ⟨some 35, .load 29 (.tmp 34), 29, .always⟩,
 ⟨some 7, .alloc 29, 0, .always⟩,
 ⟨none, .store 29 (.tmp 7) (.tmp 35), 0, .always⟩] [2, 3, 7, 30, 31, 32])
 (.draw [⟨some 36, .fieldAddr 29 (.tmp 3) 3, 0, .always⟩,
 ⟨some 37, .load 27 (.tmp 36), 27, .always⟩,
 ⟨some 38, .load 29 (.tmp 7), 29, .always⟩,
 ⟨some 39, .call { callee := .value (.func 84), args := #[.tmp 38], argTypes := #[29] }, 29, .always⟩,
 ⟨some 40, .buildSlice 27 1 #[(0, .tmp 39)], 27, .always⟩,
 ⟨some 41, .call { callee := .builtin .append, args := #[.tmp 37, .tmp 40], argTypes := #[27, 27] }, 27, .always⟩,
 ⟨some 42, .fieldAddr 29 (.tmp 3) 3, 0, .always⟩,
 ⟨none, .store 27 (.tmp 42) (.tmp 41), 0, .always⟩] [false, true, false, true, false, false, false, false] [2, 3, 30, 31, 32])))
 (.ops [⟨some 43, .binOp .add 3 (.tmp 32) (.const (.int .i64 1)) 3, 3, .always⟩,
 ⟨some 32, .move (.tmp 43), 3, .always⟩] [2, 3, 30, 31, 32])))))))
 (.seq (.ops [⟨some 44, .load 29 (.tmp 3), 29, .always⟩,
 ⟨none, .store 29 (.tmp 2) (.tmp 44), 0, .always⟩] [2])
 (.ret)))))
theorem w84 {args : List PV} {σ σ' : List Frm} {r : Ret} (hr : ∀ p, r = .val p → erV p = p) (h : wpP cfg s84 (QEndP cfg [.cell 2 29] σ' r) ⟨initEnv args, fun _ => [], σ, ⟨fun _ => false, 0⟩⟩) : CallsV cfg 84 args σ r σ' :=
 callsV_of_p follows cfgT a84 (fn := Tryd.f84) (c := Tryd.f84.body.getD .skip) (by kernel_rfl) (by kernel_rfl) (by kernel_rfl) (by kernel_rfl) (by kernel_rfl) (sc := s84) (by kernel_rfl) [.cell 2 29] (by kernel_rfl) hr h
def a46 : List Ann := [⟨[0, 4, 5, 6], [], []⟩,
 ⟨[6], [0, 0, 2, 0, 14, 30, 63, 127], [false, false, true, true, false, false, false, false]⟩]
def s46 : SC := .seq (.ops [⟨some 4, .box 29 (.tmp 1), 0, .always⟩,
 ⟨some 5, .box 29 (.tmp 2), 0, .always⟩,
 ⟨some 6, .alloc 29, 0, .always⟩] [0, 4, 5, 6])
 (.seq (.draw [⟨some 7, .move (.tmp 0), 3, .always⟩,
 ⟨some 8, .load 29 (.tmp 4), 29, .always⟩,
 ⟨some 9, .call { callee := .value (.func 84), args := #[.tmp 8], argTypes := #[29] }, 29, .always⟩,
 ⟨some 10, .load 29 (.tmp 5), 29, .always⟩,
 ⟨some 11, .call { callee := .value (.func 84), args := #[.tmp 10], argTypes := #[29] }, 29, .always⟩,
 ⟨some 12, .buildSlice 27 2 #[(0, .tmp 9), (1, .tmp 11)], 27, .always⟩,
 ⟨some 13, .build 29 #[(0, .tmp 7), (3, .tmp 12)], 29, .always⟩,
 ⟨none, .store 29 (.tmp 6) (.tmp 13), 0, .always⟩] [false, false, true, true, false, false, false, false] [6])
 (.ret))
theorem w46 {args : List PV} {σ σ' : List Frm} {r : Ret} (hr : ∀ p, r = .val p → erV p = p) (h : wpP cfg s46 (QEndP cfg [.cell 6 29] σ' r) ⟨initEnv args, fun _ => [], σ, ⟨fun _ => false, 0⟩⟩) : CallsV cfg 46 args σ r σ' :=
 callsV_of_p follows cfgT a46 (fn := Tryd.f46) (c := Tryd.f46.body.getD .skip) (by kernel_rfl) (by kernel_rfl) (by kernel_rfl) (by kernel_rfl) (by kernel_rfl) (sc := s46) (by kernel_rfl) [.cell 6 29] (by kernel_rfl) hr h
def a47 : List Ann := [⟨[0, 4, 5, 6], [], []⟩,
 ⟨[6], [0, 0, 2, 0, 14, 30, 63, 127], [false, false, true, true, false, false, false, false]⟩]
def s47 : SC := .seq (.ops [⟨some 4, .box 25 (.tmp 1), 0, .always⟩,
 ⟨some 5, .box 29 (.tmp 2), 0, .always⟩,
 ⟨some 6, .alloc 29, 0, .always⟩] [0, 4, 5, 6])
 (.seq (.draw [⟨some 7, .move (.tmp 0), 3, .always⟩,
 ⟨some 8, .load 25 (.tmp 4), 25, .always⟩,
 ⟨some 9, .call { callee := .value (.func 105), args := #[.tmp 8], argTypes := #[25] }, 25, .always⟩,
 ⟨some 10, .load 29 (.tmp 5), 29, .always⟩,
 ⟨some 11, .call { callee := .value (.func 84), args := #[.tmp 10], argTypes := #[29] }, 29, .always⟩,
 ⟨some 12, .buildSlice 27 1 #[(0, .tmp 11)], 27, .always⟩,
 ⟨some 13, .build 29 #[(0, .tmp 7), (1, .tmp 9), (3, .tmp 12)], 29, .always⟩,
 ⟨none, .store 29 (.tmp 6) (.tmp 13), 0, .always⟩] [false, false, true, true, false, false, false, false] [6])
 (.ret))
theorem w47 {args : List PV} {σ σ' : List Frm} {r : Ret} (hr : ∀ p, r = .val p → erV p = p) (h : wpP cfg s47 (QEndP cfg [.cell 6 29] σ' r) ⟨initEnv args, fun _ => [], σ, ⟨fun _ => false, 0⟩⟩) : CallsV cfg 47 args σ r σ' :=
 callsV_of_p follows cfgT a47 (fn := Tryd.f47) (c := Tryd.f47.body.getD .skip) (by kernel_rfl) (by kernel_rfl) (by kernel_rfl) (by kernel_rfl) (by kernel_rfl) (sc := s47) (by kernel_rfl) [.cell 6 29] (by kernel_rfl) hr h
def a23 : List Ann := [⟨[0, 1, 2, 6], [], []⟩,
 ⟨[0, 1, 2, 6, 12], [], []⟩,
 ⟨[0, 1, 2, 6, 14], [], []⟩,
 ⟨[0, 1, 2, 6, 14, 15], [], []⟩,
 ⟨[6], [], []⟩,
 ⟨[0, 1, 2, 6, 14, 28], [], []⟩,
 ⟨[0, 1, 2, 6, 14, 28], [], []⟩,
 ⟨[6], [], []⟩,
 ⟨[0, 1, 2, 6, 14, 42], [], []⟩,
 ⟨[0, 1, 2, 6, 14, 42], [], []⟩,
 ⟨[0, 1, 2, 6, 7], [], []⟩,
 ⟨[6], [0, 0, 0, 0, 8, 28, 0, 64, 254, 511, 1023], [true, false, false, false, false, true, false, false, true, false, false]⟩,
 ⟨[0, 1, 2, 6, 14, 57], [], []⟩,
 ⟨[0, 1, 2, 6, 8], [], []⟩,
 ⟨[6], [0, 0, 0, 0, 8, 28, 0, 64, 254, 511, 1023], [true, false, false, false, false, true, false, false, true, false, false]⟩,
 ⟨[0, 1, 2, 6, 71], [], []⟩,
 ⟨[0, 1, 2, 6, 9], [], []⟩,
 ⟨[6], [0, 1, 3, 0, 0, 0, 0, 64, 227, 0, 512, 2035, 4095, 8191], [false, true, false, true, false, false, true, false, true, false, false, true, false, false]⟩,
 ⟨[0, 1, 6, 10], [], []⟩,
 ⟨[6], [0, 0, 0, 7, 0, 0, 0, 127, 255, 511], [false, false, false, true, false, false, true, false, false, false]⟩]
def s23 : SC := .seq (.ops [⟨some 6, .alloc 29, 0, .always⟩] [0, 1, 2, 6])
 (.seq (.seq (.ops [⟨some 11, .move (.tmp 2), 3, .always⟩,
 ⟨some 12, .binOp .gtr 3 (.tmp 11) (.const (.int .i64 0)) 3, 4, .always⟩] [0, 1, 2, 6, 12])
 (.cond (.tmp 12)
 (.seq (.ops [⟨some 13, .move (.tmp 0), 39, .always⟩,
 ⟨some 14, .call { callee := .value (.func 36), args := #[.tmp 13, .const (.int .i64 9)], argTypes := #[39, 3] }, 3, .always⟩] [0, 1, 2, 6, 14])
 (.block 0
 (.seq (.ops [⟨some 16, .binOp .eql 3 (.tmp 14) (.const (.int .i64 0)) 3, 4, .always⟩,
 ⟨some 15, .assign (.tmp 16), 4, .always⟩] [0, 1, 2, 6, 14, 15])
 (.cond (.tmp 15)
 (.seq (.ops [⟨some 17, .move (.tmp 0), 39, .always⟩,
 ⟨some 18, .move (.tmp 1), 23, .always⟩,
 ⟨some 19, .move (.tmp 2), 3, .always⟩,
 ⟨some 20, .binOp .sub 3 (.tmp 19) (.const (.int .i64 1)) 3, 3, .always⟩,
 ⟨some 21, .call { callee := .value (.func 23), args := #[.tmp 17, .tmp 18, .tmp 20], argTypes := #[39, 23, 3] }, 29, .always⟩,
 ⟨some 22, .move (.tmp 0), 39, .always⟩,
 ⟨some 23, .move (.tmp 1), 23, .always⟩,
 ⟨some 24, .move (.tmp 2), 3, .always⟩,
 ⟨some 25, .binOp .sub 3 (.tmp 24) (.const (.int .i64 1)) 3, 3, .always⟩,
 ⟨some 26, .call { callee := .value (.func 23), args := #[.tmp 22, .tmp 23, .tmp 25], argTypes := #[39, 23, 3] }, 29, .always⟩,
 ⟨some 27, .call { callee := .value (.func 46), args := #[.const (.int .i64 2), .tmp 21, .tmp 26], argTypes := #[3, 29, 29] }, 29, .always⟩,
 ⟨none, .store 29 (.tmp 6) (.tmp 27), 0, .always⟩] [6])
 (.ret))
 (.seq (.seq (.ops [⟨some 29, .binOp .eql 3 (.tmp 14) (.const (.int .i64 1)) 3, 4, .always⟩,
 ⟨some 28, .assign (.tmp 29), 4, .always⟩] [0, 1, 2, 6, 14, 28])
 (.cond (.tmp 28)
 (.skip)
 (.ops [⟨some 30, .binOp .eql 3 (.tmp 14) (.const (.int .i64 2)) 3, 4, .always⟩,
 ⟨some 28, .assign (.tmp 30), 4, .always⟩] [0, 1, 2, 6, 14, 28])))
 (.cond (.tmp 28)
 (.seq (.ops [⟨some 31, .move (.tmp 0), 39, .always⟩,
 ⟨some 32, .move (.tmp 1), 23, .always⟩,
 ⟨some 33, .move (.tmp 2), 3, .always⟩,
 ⟨some 34, .binOp .sub 3 (.tmp 33) (.const (.int .i64 1)) 3, 3, .always⟩,
 ⟨some 35, .call { callee := .value (.func 23), args := #[.tmp 31, .tmp 32, .tmp 34], argTypes := #[39, 23, 3] }, 29, .always⟩,
 ⟨some 36, .move (.tmp 0), 39, .always⟩,
 ⟨some 37, .move (.tmp 1), 23, .always⟩,
 ⟨some 38, .move (.tmp 2), 3, .always⟩,
 ⟨some 39, .binOp .sub 3 (.tmp 38) (.const (.int .i64 1)) 3, 3, .always⟩,
 ⟨some 40, .call { callee := .value (.func 23), args := #[.tmp 36, .tmp 37, .tmp 39], argTypes := #[39, 23, 3] }, 29, .always⟩,
 ⟨some 41, .call { callee := .value (.func 46), args := #[.const (.int .i64 3), .tmp 35, .tmp 40], argTypes := #[3, 29, 29] }, 29, .always⟩,
 ⟨none, .store 29 (.tmp 6) (.tmp 41), 0, .always⟩] [6])
 (.ret))
 (.seq (.seq (.ops [⟨some 43, .binOp .eql 3 (.tmp 14) (.const (.int .i64 3)) 3, 4, .always⟩,
 ⟨some 42, .assign (.tmp 43), 4, .always⟩] [0, 1, 2, 6, 14, 42])
 (.cond (.tmp 42)
 (.skip)
 (.ops [⟨some 44, .binOp .eql 3 (.tmp 14) (.const (.int .i64 4)) 3, 4, .always⟩,
 ⟨some 42, .assign (.tmp 44), 4, .always⟩] [0, 1, 2, 6, 14, 42])))
 (.cond (.tmp 42)
 (.seq (.ops [⟨some 45, .move (.tmp 0), 39, .always⟩,
 ⟨some 46, .call { callee := .value (.func 42), args := #[.tmp 45, .const (.int .i64 1)], argTypes := #[39, 3] }, 25, .always⟩,
 ⟨some 7, .alloc 25, 0, .always⟩,
 ⟨none, .store 25 (.tmp 7) (.tmp 46), 0, .always⟩] [0, 1, 2, 6, 7])
 (.seq (.draw [⟨some 47, .load 25 (.tmp 7), 25, .always⟩,
 ⟨some 48, .move (.tmp 0), 39, .always⟩,
 ⟨some 49, .move (.tmp 1), 23, .always⟩,
 ⟨some 50, .load 25 (.tmp 7), 25, .always⟩,
 ⟨some 51, .buildSlice 23 1 #[(0, .tmp 50)], 23, .always⟩,
 ⟨some 52, .call { callee := .value (.func 72), args := #[.tmp 49, .tmp 51], argTypes := #[23, 23] }, 23, .always⟩,
 ⟨some 53, .move (.tmp 2), 3, .always⟩,
 ⟨some 54, .binOp .sub 3 (.tmp 53) (.const (.int .i64 1)) 3, 3, .always⟩,
 ⟨some 55, .call { callee := .value (.func 23), args := #[.tmp 48, .tmp 52, .tmp 54], argTypes := #[39, 23, 3] }, 29, .always⟩,
 ⟨some 56, .call { callee := .value (.func 47), args := #[.const (.int .i64 4), .tmp 47, .tmp 55], argTypes := #[3, 25, 29] }, 29, .always⟩,
 ⟨none, .store 29 (.tmp 6) (.tmp 56), 0, .always⟩] [true, false, false, false, false, true, false, false, true, false, false] [6])
 (.ret)))
 (.seq (.ops [⟨some 58, .binOp .eql 3 (.tmp 14) (.const (.int .i64 5)) 3, 4, .always⟩,
 ⟨some 57, .assign (.tmp 58), 4, .always⟩] [0, 1, 2, 6, 14, 57])
 (.cond (.tmp 57)
 (.seq (.ops [⟨some 59, .move (.tmp 0), 39, .always⟩,
 ⟨some 60, .call { callee := .value (.func 42), args := #[.tmp 59, .const (.int .i64 1)], argTypes := #[39, 3] }, 25, .always⟩,
 ⟨some 8, .alloc 25, 0, .always⟩,
 ⟨none, .store 25 (.tmp 8) (.tmp 60), 0, .always⟩] [0, 1, 2, 6, 8])
 (.seq (.draw [⟨some 61, .load 25 (.tmp 8), 25, .always⟩,
 ⟨some 62, .move (.tmp 0), 39, .always⟩,
 ⟨some 63, .move (.tmp 1), 23, .always⟩,
 ⟨some 64, .load 25 (.tmp 8), 25, .always⟩,
 ⟨some 65, .buildSlice 23 1 #[(0, .tmp 64)], 23, .always⟩,
 ⟨some 66, .call { callee := .value (.func 72), args := #[.tmp 63, .tmp 65], argTypes := #[23, 23] }, 23, .always⟩,
 ⟨some 67, .move (.tmp 2), 3, .always⟩,
 ⟨some 68, .binOp .sub 3 (.tmp 67) (.const (.int .i64 1)) 3, 3, .always⟩,
 ⟨some 69, .call { callee := .value (.func 23), args := #[.tmp 62, .tmp 66, .tmp 68], argTypes := #[39, 23, 3] }, 29, .always⟩,
 ⟨some 70, .call { callee := .value (.func 47), args := #[.const (.int .i64 5), .tmp 61, .tmp 69], argTypes := #[3, 25, 29] }, 29, .always⟩,
 ⟨none, .store 29 (.tmp 6) (.tmp 70), 0, .always⟩] [true, false, false, false, false, true, false, false, true, false, false] [6])
 (.ret)))
 (.seq (.ops [⟨some 72, .binOp .eql 3 (.tmp 14) (.const (.int .i64 6)) 3, 4, .always⟩,
 ⟨some 71, .assign (.tmp 72), 4, .always⟩] [0, 1, 2, 6, 71])
 (.cond (.tmp 71)
 (.seq (.ops [⟨some 73, .move (.tmp 0), 39, .always⟩,
 ⟨some 74, .call { callee := .value (.func 42), args := #[.tmp 73, .const (.int .i64 0)], argTypes := #[39, 3] }, 25, .always⟩,
 ⟨some 9, .alloc 25, 0, .always⟩,
 ⟨none, .store 25 (.tmp 9) (.tmp 74), 0, .always⟩] [0, 1, 2, 6, 9])
 (.seq (.draw [⟨some 75, .move (.tmp 0), 39, .always⟩,
 ⟨some 76, .call { callee := .value (.func 36), args := #[.tmp 75, .const (.int .i64 2)], argTypes := #[39, 3] }, 3, .always⟩,
 ⟨some 77, .binOp .add 3 (.const (.int .i64 6)) (.tmp 76) 3, 3, .always⟩,
 ⟨some 78, .load 25 (.tmp 9), 25, .always⟩,
 ⟨some 79, .move (.tmp 0), 39, .always⟩,
 ⟨some 80, .move (.tmp 1), 23, .always⟩,
 ⟨some 81, .load 25 (.tmp 9), 25, .always⟩,
 ⟨some 82, .buildSlice 23 1 #[(0, .tmp 81)], 23, .always⟩,
 ⟨some 83, .call { callee := .value (.func 72), args := #[.tmp 80, .tmp 82], argTypes := #[23, 23] }, 23, .always⟩,
 ⟨some 84, .move (.tmp 2), 3, .always⟩,
 ⟨some 85, .binOp .sub 3 (.tmp 84) (.const (.int .i64 1)) 3, 3, .always⟩,
 ⟨some 86, .call { callee := .value (.func 23), args := #[.tmp 79, .tmp 83, .tmp 85], argTypes := #[39, 23, 3] }, 29, .always⟩,
 ⟨some 87, .call { callee := .value (.func 47), args := #[.tmp 77, .tmp 78, .tmp 86], argTypes := #[3, 25, 29] }, 29, .always⟩,
 ⟨none, .store 29 (.tmp 6) (.tmp 87), 0, .always⟩] [false, true, false, true, false, false, true, false, true, false, false, true, false, false] [6])
 (.ret)))
 (.skip)))))))))))))
 (.skip)))
 (.seq (.ops [⟨some 88, .call { callee := .value (.func 73), args := #[], argTypes := #[] }, 25, .always⟩,
 ⟨some 10, .alloc 25, 0, .always⟩,
 ⟨none, .store 25 (.tmp 10) (.tmp 88), 0, .always⟩] [0, 1, 6, 10])
 (.seq (.draw [⟨some 89, .move (.tmp 0), 39, .always⟩,
 ⟨some 90, .move (.tmp 1), 23, .always⟩,
 ⟨some 91, .load 25 (.tmp 10), 25, .always⟩,
 ⟨some 92, .call { callee := .value (.func 38), args := #[.tmp 89, .tmp 90, .tmp 91, .const (.int .i64 1)], argTypes := #[39, 23, 25, 3] }, 62, .always⟩,
 ⟨some 93, .move (.tmp 0), 39, .always⟩,
 ⟨some 94, .move (.tmp 1), 23, .always⟩,
 ⟨some 95, .load 25 (.tmp 10), 25, .always⟩,
 ⟨some 96, .call { callee := .value (.func 38), args := #[.tmp 93, .tmp 94, .tmp 95, .const (.int .i64 1)], argTypes := #[39, 23, 25, 3] }, 62, .always⟩,
 ⟨some 97, .call { callee := .value (.func 74), args := #[.tmp 92, .tmp 96], argTypes := #[62, 62] }, 29, .always⟩,
 ⟨none, .store 29 (.tmp 6) (.tmp 97), 0, .always⟩] [false, false, false, true, false, false, true, false, false, false] [6])
 (.ret))))
theorem w23 {args : List PV} {σ σ' : List Frm} {r : Ret} (hr : ∀ p, r = .val p → erV p = p) (h : wpP cfg s23 (QEndP cfg [.cell 6 29] σ' r) ⟨initEnv args, fun _ => [], σ, ⟨fun _ => false, 0⟩⟩) : CallsV cfg 23 args σ r σ' :=
 callsV_of_p follows cfgT a23 (fn := Tryd.f23) (c := Tryd.f23.body.getD .skip) (by kernel_rfl) (by kernel_rfl) (by kernel_rfl) (by kernel_rfl) (by kernel_rfl) (sc := s23) (by kernel_rfl) [.cell 6 29] (by kernel_rfl) hr h
def a33 : List Ann := [⟨[0], [], []⟩,
 ⟨[0, 3], [], []⟩,
 ⟨[0, 3, 4], [], []⟩,
 ⟨[0, 3, 4, 8], [], []⟩,
 ⟨[0, 3, 4], [], []⟩,
 ⟨[0, 3, 4], [], []⟩,
 ⟨[2], [], []⟩]
def s33 : SC := .seq (.ops [⟨some 2, .assign (.const (.slice none 0 0)), 23, .always⟩] [0])
 (.seq (.ops [⟨some 3, .assign (.const (.slice none 0 0)), 23, .always⟩] [0, 3])
 (.seq (.seq (.ops [⟨some 5, .move (.tmp 0), 39, .always⟩,
 ⟨some 6, .call { callee := .value (.func 36), args := #[.tmp 5, .const (.int .i64 4)], argTypes := #[39, 3] }, 3, .always⟩,
 ⟨some 4, .assign (.tmp 6), 3, .always⟩] [0, 3, 4])
 (.block 0
 (.loop
 (.seq (.seq (.ops [⟨some 7, .move (.tmp 4), 3, .always⟩,
 ⟨some 8, .binOp .gtr 3 (.tmp 7) (.const (.int .i64 0)) 3, 4, .always⟩] [0, 3, 4, 8])
 (.cond (.tmp 8)
 (.skip)
 (.exit 0)))
 (.seq (.block 1
 (.ops [⟨some 11, .move (.tmp 3), 23, .always⟩,
 ⟨some 12, .move (.tmp 0), 39, .always⟩,
 ⟨some 13, .call { callee := .value (.func 42), args := #[.tmp 12, .const (.int .i64 1)], argTypes := #[39, 3] }, 25, .always⟩,
 ⟨some 14, .buildSlice 23 1 #[(0, .tmp 13)], 23, .always⟩,
 ⟨some 15, .call { callee := .builtin .append, args := #[.tmp 11, .tmp 14], argTypes := #[23, 23] }, 23, .always⟩,
 ⟨some 3, .assign (.tmp 15), 23, .always⟩] [0, 3, 4]))
 (.ops [⟨some 9, .move (.tmp 4), 3, .always⟩,
 ⟨some 10, .binOp .sub 3 (.tmp 9) (.const (.int .i64 1)) 3, 3, .always⟩,
 ⟨some 4, .assign (.tmp 10), 3, .always⟩] [0, 3, 4]))))))
 (.seq (.ops [⟨some 16, .move (.tmp 3), 23, .always⟩,
 ⟨some 2, .assign (.tmp 16), 23, .always⟩] [2])
 (.ret))))
theorem w33 {args : List PV} {σ σ' : List Frm} {r : Ret} (hr : ∀ p, r = .val p → erV p = p) (h : wpP cfg s33 (QEndP cfg [.tmp 2] σ' r) ⟨initEnv args, fun _ => [], σ, ⟨fun _ => false, 0⟩⟩) : CallsV cfg 33 args σ r σ' :=
 callsV_of_p follows cfgT a33 (fn := Tryd.f33) (c := Tryd.f33.body.getD .skip) (by kernel_rfl) (by kernel_rfl) (by kernel_rfl) (by kernel_rfl) (by kernel_rfl) (sc := s33) (by kernel_rfl) [.tmp 2] (by kernel_rfl) hr h
def a22 : List Ann := [⟨[0, 2], [], []⟩,
 ⟨[0, 2, 3], [], []⟩,
 ⟨[0, 2, 3, 4], [], []⟩,
 ⟨[0, 2, 3, 4, 11], [], []⟩,
 ⟨[0, 2, 3, 4], [], []⟩,
 ⟨[0, 2, 3, 4], [0, 1, 0, 0, 8, 28, 60, 127, 255, 511], [false, true, false, false, false, true, false, false, false, false]⟩,
 ⟨[2], [], []⟩]
def s22 : SC := .seq (.ops [⟨some 2, .alloc 31, 0, .always⟩] [0, 2])
 (.seq (.ops [⟨some 5, .move (.tmp 0), 39, .always⟩,
 ⟨some 6, .call { callee := .value (.func 33), args := #[.tmp 5], argTypes := #[39] }, 23, .always⟩,
 ⟨some 7, .build 31 #[(0, .tmp 6)], 31, .always⟩,
 ⟨some 3, .alloc 31, 0, .always⟩,
 ⟨none, .store 31 (.tmp 3) (.tmp 7), 0, .always⟩] [0, 2, 3])
 (.seq (.seq (.ops [⟨some 8, .move (.tmp 0), 39, .always⟩,
 ⟨some 9, .call { callee := .value (.func 36), args := #[.tmp 8, .const (.int .i64 3)], argTypes := #[39, 3] }, 3, .always⟩,
 ⟨some 4, .assign (.tmp 9), 3, .always⟩] [0, 2, 3, 4])
 (.block 0
 (.loop
 (.seq (.seq (.ops [⟨some 10, .move (.tmp 4), 3, .always⟩,
 ⟨some 11, .binOp .gtr 3 (.tmp 10) (.const (.int .i64 0)) 3, 4, .always⟩] [0, 2, 3, 4, 11])
 (.cond (.tmp 11)
 (.skip)
 (.exit 0)))
 (.seq (.block 1
 (.draw [⟨some 14, .fieldAddr 31 (.tmp 3) 1, 0, .always⟩,
 ⟨some 15, .load 27 (.tmp 14), 27, .always⟩,
 ⟨some 16, .move (.tmp 0), 39, .always⟩,
 ⟨some 17, .fieldAddr 31 (.tmp 3) 0, 0, .always⟩,
 ⟨some 18, .load 23 (.tmp 17), 23, .always⟩,
 ⟨some 19, .call { callee := .value (.func 23), args := #[.tmp 16, .tmp 18, .const (.int .i64 2)], argTypes := #[39, 23, 3] }, 29, .always⟩,
 ⟨some 20, .buildSlice 27 1 #[(0, .tmp 19)], 27, .always⟩,
 ⟨some 21, .call { callee := .builtin .append, args := #[.tmp 15, .tmp 20], argTypes := #[27, 27] }, 27, .always⟩,
 ⟨some 22, .fieldAddr 31 (.tmp 3) 1, 0, .always⟩,
 ⟨none, .store 27 (.tmp 22) (.tmp 21), 0, .always⟩] [false, true, false, false, false, true, false, false, false, false] [0, 2, 3, 4]))
 (.ops [⟨some 12, .move (.tmp 4), 3, .always⟩,
 ⟨some 13, .binOp .sub 3 (.tmp 12) (.const (.int .i64 1)) 3, 3, .always⟩,
 ⟨some 4, .assign (.tmp 13), 3, .always⟩] [0, 2, 3, 4]))))))
 (.seq (.ops [⟨some 23, .load 31 (.tmp 3), 31, .always⟩,
 ⟨none, .store 31 (.tmp 2) (.tmp 23), 0, .always⟩] [2])
 (.ret))))
theorem w22 {args : List PV} {σ σ' : List Frm} {r : Ret} (hr : ∀ p, r = .val p → erV p = p) (h : wpP cfg s22 (QEndP cfg [.cell 2 31] σ' r) ⟨initEnv args, fun _ => [], σ, ⟨fun _ => false, 0⟩⟩) : CallsV cfg 22 args σ r σ' :=
 callsV_of_p follows cfgT a22 (fn := Tryd.f22) (c := Tryd.f22.body.getD .skip) (by kernel_rfl) (by kernel_rfl) (by kernel_rfl) (by kernel_rfl) (by kernel_rfl) (sc := s22) (by kernel_rfl) [.cell 2 31] (by kernel_rfl) hr h
def a90 : List Ann := [⟨[1], [], []⟩,
 ⟨[1, 3], [], []⟩,
 ⟨[3, 7, 8, 9], [], []⟩,
 ⟨[3, 7, 8, 9, 10], [], []⟩,
 ⟨[3, 5, 7, 8, 9], [], []⟩,
 ⟨[3, 7, 8, 9], [], []⟩,
 ⟨[3, 7, 8, 9], [], []⟩,
 ⟨[2], [], []⟩]
def s90 : SC := .seq (.ops [⟨some 1, .box 62 (.tmp 0), 0, .always⟩,
 ⟨some 2, .assign (.const (.int .i64 0)), 3, .always⟩] [1])
 (.seq (.ops [⟨some 3, .assign (.const (.int .i64 1)), 3, .always⟩] [1, 3])
 (.seq (.seq (.ops [⟨some 6, .fieldAddr 62 (.tmp 1) 3, 0, .always⟩,
 ⟨some 7, .load 26 (.tmp 6), 26, .always⟩,
 ⟨some 8, .call { callee := .builtin .len, args := #[.tmp 7], argTypes := #[26] }, 3, .always⟩,
 ⟨some 9, .move (.const (.int .i64 0)), 3, .always⟩] [3, 7, 8, 9])
 (.block 0
 (.loop
 (.seq (.ops [⟨some 10, .binOp .lss 3 (.tmp 9) (.tmp 8) 3, 0, .always⟩] [3, 7, 8, 9, 10])
 (.seq (.cond (.tmp 10)
 (.skip)
 (.exit 0))
 (.seq (.block 1
 (.seq (.ops [⟨some 11, .indexAddr 26 (.tmp 7) (.tmp 9), 0, .always⟩,
 ⟨some 12, .load 62 (.tmp 11), 62, .always⟩,
 ⟨some 5, .alloc 62, 0, .always⟩,
 ⟨none, .store 62 (.tmp 5) (.tmp 12), 0, .always⟩] [3, 5, 7, 8, 9])
 (.ops [⟨some 13, .move (.tmp 3), 3, .always⟩,
 ⟨some 14, .load 62 (.tmp 5), 62, .always⟩,
 ⟨some 15, .call { callee := .value (.func 90), args := #[.tmp 14], argTypes := #[62] }, 3, .always⟩,
 ⟨some 16, .binOp .add 3 (.tmp 13) (.tmp 15) 3, 3, .always⟩,
 ⟨some 3, .assign (.tmp 16), 3, .always⟩] [3, 7, 8, 9])))
 (.ops [⟨some 17, .binOp .add 3 (.tmp 9) (.const (.int .i64 1)) 3, 3, .always⟩,
 ⟨some 9, .move (.tmp 17), 3, .always⟩] [3, 7, 8, 9])))))))
 (.seq (.ops [⟨some 18, .move (.tmp 3), 3, .always⟩,
 ⟨some 2, .assign (.tmp 18), 3, .always⟩] [2])
 (.ret))))
theorem w90 {args : List PV} {σ σ' : List Frm} {r : Ret} (hr : ∀ p, r = .val p → erV p = p) (h : wpP cfg s90 (QEndP cfg [.tmp 2] σ' r) ⟨initEnv args, fun _ => [], σ, ⟨fun _ => false, 0⟩⟩) : CallsV cfg 90 args σ r σ' :=
 callsV_of_p follows cfgT a90 (fn := Tryd.f90) (c := Tryd.f90.body.getD .skip) (by kernel_rfl) (by kernel_rfl) (by kernel_rfl) (by kernel_rfl) (by kernel_rfl) (sc := s90) (by kernel_rfl) [.tmp 2] (by kernel_rfl) hr h
def a88 : List Ann := [⟨[1], [], []⟩,
 ⟨[1, 3], [], []⟩,
 ⟨[1, 3, 9, 10, 11], [], []⟩,
 ⟨[1, 3, 9, 10, 11, 12], [], []⟩,
 ⟨[1, 3, 5, 9, 10, 11], [], []⟩,
 ⟨[1, 3, 9, 10, 11], [], []⟩,
 ⟨[1, 3, 9, 10, 11], [], []⟩,
 ⟨[3, 21, 22, 23], [], []⟩,
 ⟨[3, 21, 22, 23, 24], [], []⟩,
 ⟨[3, 7, 21, 22, 23], [], []⟩,
 ⟨[3, 21, 22, 23], [], []⟩,
 ⟨[3, 21, 22, 23], [], []⟩,
 ⟨[2], [], []⟩]
def s88 : SC := .seq (.ops [⟨some 1, .box 29 (.tmp 0), 0, .always⟩,
 ⟨some 2, .assign (.const (.int .i64 0)), 3, .always⟩] [1])
 (.seq (.ops [⟨some 3, .assign (.const (.int .i64 1)), 3, .always⟩] [1, 3])
 (.seq (.seq (.ops [⟨some 8, .fieldAddr 29 (.tmp 1) 2, 0, .always⟩,
 ⟨some 9, .load 26 (.tmp 8), 26, .always⟩,
 ⟨some 10, .call { callee := .builtin .len, args := #[.tmp 9], argTypes := #[26] }, 3, .always⟩,
 ⟨some 11, .move (.const (.int .i64 0)), 3, .always⟩] [1, 3, 9, 10, 11])
 (.block 0
 (.loop
 (.seq (.ops [⟨some 12, .binOp .lss 3 (.tmp 11) (.tmp 10) 3, 0, .always⟩] [1, 3, 9, 10, 11, 12])
 (.seq (.cond (.tmp 12)
 (.skip)
 (.exit 0))
 (.seq (.block 1
 (.seq (.ops [⟨some 13, .indexAddr 26 (.tmp 9) (.tmp 11), 0, .always⟩,
 ⟨some 14, .load 62 (.tmp 13), 62, .always⟩,
 ⟨some 5, .alloc 62, 0, .always⟩,
 ⟨none, .store 62 (.tmp 5) (.tmp 14), 0, .always⟩] [1, 3, 5, 9, 10, 11])
 (.ops [⟨some 15, .move (.tmp 3), 3, .always⟩,
 ⟨some 16, .load 62 (.tmp 5), 62, .always⟩,
 ⟨some 17, .call { callee := .value (.func 90), args := #[.tmp 16], argTypes := #[62] }, 3, .always⟩,
 ⟨some 18, .binOp .add 3 (.tmp 15) (.tmp 17) 3, 3, .always⟩,
 ⟨some 3, .assign (.tmp 18), 3, .always⟩] [1, 3, 9, 10, 11])))
 (.ops [⟨some 19, .binOp .add 3 (.tmp 11) (.const (.int .i64 1)) 3, 3, .always⟩,
 ⟨some 11, .move (.tmp 19), 3, .always⟩] [1, 3, 9, 10, 11])))))))
 (.seq (.seq (.ops [⟨some 20, .fieldAddr 29 (.tmp 1) 3, 0, .always⟩,
 ⟨some 21, .load 27 (.tmp 20), 27, .always⟩,
 ⟨some 22, .call { callee := .builtin .len, args := #[.tmp 21], argTypes := #[27] }, 3, .always⟩,
 ⟨some 23, .move (.const (.int .i64 0)), 3, .always⟩] [3, 21, 22, 23])
 (.block 2
 (.loop
 (.seq (.ops [⟨some 24, .binOp .lss 3 (.tmp 23) (.tmp 22) 3, 0, .always⟩] [3, 21, 22, 23, 24])
 (.seq (.cond (.tmp 24)
 (.skip)
 (.exit 2))
 (.seq (.block 3
 (.seq (.ops [⟨some 25, .indexAddr 27 (.tmp 21) (.tmp 23), 0, .always⟩,
 ⟨some 26, .load 29 (.tmp 25), 29, .always⟩,
 ⟨some 7, .alloc 29, 0, .always⟩,
 ⟨none, .store 29 (.tmp 7) (.tmp 26), 0, .always⟩] [3, 7, 21, 22, 23])
 (.ops [⟨some 27, .move (.tmp 3), 3, .always⟩,
 ⟨some 28, .load 29 (.tmp 7), 29, .always⟩,
 ⟨some 29, .call { callee := .value (.func 88), args := #[.tmp 28], argTypes := #[29] }, 3, .always⟩,
 ⟨some 30, .binOp .add 3 (.tmp 27) (.tmp 29) 3, 3, .always⟩,
 ⟨some 3, .assign (.tmp 30), 3, .always⟩] [3, 21, 22, 23])))
 (.ops [⟨some 31, .binOp .add 3 (.tmp 23) (.const (.int .i64 1)) 3, 3, .always⟩,
 ⟨some 23, .move (.tmp 31), 3, .always⟩] [3, 21, 22, 23])))))))
 (.seq (.ops [⟨some 32, .move (.tmp 3), 3, .always⟩,
 ⟨some 2, .assign (.tmp 32), 3, .always⟩] [2])
 (.ret)))))
theorem w88 {args : List PV} {σ σ' : List Frm} {r : Ret} (hr : ∀ p, r = .val p → erV p = p) (h : wpP cfg s88 (QEndP cfg [.tmp 2] σ' r) ⟨initEnv args, fun _ => [], σ, ⟨fun _ => false, 0⟩⟩) : CallsV cfg 88 args σ r σ' :=
 callsV_of_p follows cfgT a88 (fn := Tryd.f88) (c := Tryd.f88.body.getD .skip) (by kernel_rfl) (by kernel_rfl) (by kernel_rfl) (by kernel_rfl) (by kernel_rfl) (sc := s88) (by kernel_rfl) [.tmp 2] (by kernel_rfl) hr h
def a163 : List Ann := [⟨[1], [], []⟩,
 ⟨[1, 3], [], []⟩,
 ⟨[1, 3, 7], [], []⟩,
 ⟨[2], [], []⟩,
 ⟨[1, 3, 7, 8], [], []⟩,
 ⟨[1, 3, 7, 8], [], []⟩,
 ⟨[1, 3, 7, 8], [], []⟩,
 ⟨[1, 7, 12], [], []⟩,
 ⟨[1, 12], [], []⟩,
 ⟨[1, 3], [], []⟩,
 ⟨[1, 19], [], []⟩,
 ⟨[2], [], []⟩,
 ⟨[21, 22, 23], [], []⟩,
 ⟨[21, 22, 23, 24], [], []⟩,
 ⟨[5, 21, 22, 23], [], []⟩,
 ⟨[21, 22, 23, 29], [], []⟩,
 ⟨[2], [], []⟩,
 ⟨[21, 22, 23], [], []⟩,
 ⟨[2], [], []⟩]
def s163 : SC := .seq (.ops [⟨some 1, .box 25 (.tmp 0), 0, .always⟩,
 ⟨some 2, .assign (.const (.bool false)), 4, .always⟩] [1])
 (.seq (.ops [⟨some 3, .assign (.const (.int .i64 0)), 3, .always⟩] [1, 3])
 (.seq (.seq (.ops [⟨some 6, .fieldAddr 25 (.tmp 1) 0, 0, .always⟩,
 ⟨some 7, .load 3 (.tmp 6), 3, .always⟩] [1, 3, 7])
 (.block 0
 (.seq (.seq (.ops [⟨some 9, .binOp .eql 3 (.tmp 7) (.const (.int .i64 1)) 3, 4, .always⟩,
 ⟨some 8, .assign (.tmp 9), 4, .always⟩] [1, 3, 7, 8])
 (.cond (.tmp 8)
 (.skip)
 (.seq (.ops [⟨some 10, .binOp .eql 3 (.tmp 7) (.const (.int .i64 2)) 3, 4, .always⟩,
 ⟨some 8, .assign (.tmp 10), 4, .always⟩] [1, 3, 7, 8])
 (.cond (.tmp 8)
 (.skip)
 (.ops [⟨some 11, .binOp .eql 3 (.tmp 7) (.const (.int .i64 5)) 3, 4, .always⟩,
 ⟨some 8, .assign (.tmp 11), 4, .always⟩] [1, 3, 7, 8])))))
 (.cond (.tmp 8)
 (.skip)
 (.seq (.seq (.ops [⟨some 13, .binOp .eql 3 (.tmp 7) (.const (.int .i64 3)) 3, 4, .always⟩,
 ⟨some 12, .assign (.tmp 13), 4, .always⟩] [1, 7, 12])
 (.cond (.tmp 12)
 (.skip)
 (.ops [⟨some 14, .binOp .eql 3 (.tmp 7) (.const (.int .i64 4)) 3, 4, .always⟩,
 ⟨some 12, .assign (.tmp 14), 4, .always⟩] [1, 12])))
 (.cond (.tmp 12)
 (.ops [⟨some 3, .assign (.const (.int .i64 2)), 3, .always⟩] [1, 3])
 (.seq (.ops [⟨some 2, .assign (.const (.bool false)), 4, .always⟩] [2])
 (.ret))))))))
 (.seq (.seq (.ops [⟨some 15, .fieldAddr 25 (.tmp 1) 1, 0, .always⟩,
 ⟨some 16, .load 23 (.tmp 15), 23, .always⟩,
 ⟨some 17, .call { callee := .builtin .len, args := #[.tmp 16], argTypes := #[23] }, 3, .always⟩,
 ⟨some 18, .move (.tmp 3), 3, .always⟩,
 ⟨some 19, .binOp .neq 3 (.tmp 17) (.tmp 18) 3, 4, .always⟩] [1, 19])
 (.cond (.tmp 19)
 (.seq (.ops [⟨some 2, .assign (.const (.bool false)), 4, .always⟩] [2])
 (.ret))
 (.skip)))
 (.seq (.seq (.ops [⟨some 20, .fieldAddr 25 (.tmp 1) 1, 0, .always⟩,
 ⟨some 21, .load 23 (.tmp 20), 23, .always⟩,
 ⟨some 22, .call { callee := .builtin .len, args := #[.tmp 21], argTypes := #[23] }, 3, .always⟩,
 ⟨some 23, .move (.const (.int .i64 0)), 3, .always⟩] [21, 22, 23])
 (.block 1
 (.loop
 (.seq (.ops [⟨some 24, .binOp .lss 3 (.tmp 23) (.tmp 22) 3, 0, .always⟩] [21, 22, 23, 24])
 (.seq (.cond (.tmp 24)
 (.skip)
 (.exit 1))
 (.seq (.block 2
 (.seq (.ops [⟨some 25, .indexAddr 23 (.tmp 21) (.tmp 23), 0, .always⟩,
 ⟨some 26, .load 25 (.tmp 25), 25, .always⟩,
 ⟨some 5, .alloc 25, 0, .always⟩,
 ⟨none, .store 25 (.tmp 5) (.tmp 26), 0, .always⟩] [5, 21, 22, 23])
 (.seq (.ops [⟨some 27, .load 25 (.tmp 5), 25, .always⟩,
 ⟨some 28, .call { callee := .value (.func 163), args := #[.tmp 27], argTypes := #[25] }, 4, .always⟩,
 ⟨some 29, .unOp .not 4 (.tmp 28), 4, .always⟩] [21, 22, 23, 29])
 (.cond (.tmp 29)
 (.seq (.ops [⟨some 2, .assign (.const (.bool false)), 4, .always⟩] [2])
 (.ret))
 (.skip)))))
 (.ops [⟨some 30, .binOp .add 3 (.tmp 23) (.const (.int .i64 1)) 3, 3, .always⟩,
 ⟨some 23, .move (.tmp 30), 3, .always⟩] [21, 22, 23])))))))
 (.seq (.ops [⟨some 2, .assign (.const (.bool true)), 4, .always⟩] [2])
 (.ret))))))
theorem w163 {args : List PV} {σ σ' : List Frm} {r : Ret} (hr : ∀ p, r = .val p → erV p = p) (h : wpP cfg s163 (QEndP cfg [.tmp 2] σ' r) ⟨initEnv args, fun _ => [], σ, ⟨fun _ => false, 0⟩⟩) : CallsV cfg 163 args σ r σ' :=
 callsV_of_p follows cfgT a163 (fn := Tryd.f163) (c := Tryd.f163.body.getD .skip) (by kernel_rfl) (by kernel_rfl) (by kernel_rfl) (by kernel_rfl) (by kernel_rfl) (sc := s163) (by kernel_rfl) [.tmp 2] (by kernel_rfl) hr h
def a164 : List Ann := [⟨[1], [], []⟩,
 ⟨[1, 3], [], []⟩,
 ⟨[3, 7, 8, 9], [], []⟩,
 ⟨[3, 7, 8, 9, 10], [], []⟩,
 ⟨[3, 5, 7, 8, 9], [], []⟩,
 ⟨[3, 7, 8, 9], [], []⟩,
 ⟨[3, 7, 8, 9], [], []⟩,
 ⟨[2], [], []⟩]
def s164 : SC := .seq (.ops [⟨some 1, .box 25 (.tmp 0), 0, .always⟩,
 ⟨some 2, .assign (.const (.int .i64 0)), 3, .always⟩] [1])
 (.seq (.ops [⟨some 3, .assign (.const (.int .i64 1)), 3, .always⟩] [1, 3])
 (.seq (.seq (.ops [⟨some 6, .fieldAddr 25 (.tmp 1) 1, 0, .always⟩,
 ⟨some 7, .load 23 (.tmp 6), 23, .always⟩,
 ⟨some 8, .call { callee := .builtin .len, args := #[.tmp 7], argTypes := #[23] }, 3, .always⟩,
 ⟨some 9, .move (.const (.int .i64 0)), 3, .always⟩] [3, 7, 8, 9])
 (.block 0
 (.loop
 (.seq (.ops [⟨some 10, .binOp .lss 3 (.tmp 9) (.tmp 8) 3, 0, .always⟩] [3, 7, 8, 9, 10])
 (.seq (.cond (.tmp 10)
 (.skip)
 (.exit 0))
 (.seq (.block 1
 (.seq (.ops [⟨some 11, .indexAddr 23 (.tmp 7) (.tmp 9), 0, .always⟩,
 ⟨some 12, .load 25 (.tmp 11), 25, .always⟩,
 ⟨some 5, .alloc 25, 0, .always⟩,
 ⟨none, .store 25 (.tmp 5) (.tmp 12), 0, .always⟩] [3, 5, 7, 8, 9])
 (.ops [⟨some 13, .move (.tmp 3), 3, .always⟩,
 ⟨some 14, .load 25 (.tmp 5), 25, .always⟩,
 ⟨some 15, .call { callee := .value (.func 164), args := #[.tmp 14], argTypes := #[25] }, 3, .always⟩,
 ⟨some 16, .binOp .add 3 (.tmp 13) (.tmp 15) 3, 3, .always⟩,
 ⟨some 3, .assign (.tmp 16), 3, .always⟩] [3, 7, 8, 9])))
 (.ops [⟨some 17, .binOp .add 3 (.tmp 9) (.const (.int .i64 1)) 3, 3, .always⟩,
 ⟨some 9, .move (.tmp 17), 3, .always⟩] [3, 7, 8, 9])))))))
 (.seq (.ops [⟨some 18, .move (.tmp 3), 3, .always⟩,
 ⟨some 2, .assign (.tmp 18), 3, .always⟩] [2])
 (.ret))))
theorem w164 {args : List PV} {σ σ' : List Frm} {r : Ret} (hr : ∀ p, r = .val p → erV p = p) (h : wpP cfg s164 (QEndP cfg [.tmp 2] σ' r) ⟨initEnv args, fun _ => [], σ, ⟨fun _ => false, 0⟩⟩) : CallsV cfg 164 args σ r σ' :=
 callsV_of_p follows cfgT a164 (fn := Tryd.f164) (c := Tryd.f164.body.getD .skip) (by kernel_rfl) (by kernel_rfl) (by kernel_rfl) (by kernel_rfl) (by kernel_rfl) (sc := s164) (by kernel_rfl) [.tmp 2] (by kernel_rfl) hr h
def a132 : List Ann := [⟨[1], [], []⟩,
 ⟨[1, 5], [], []⟩,
 ⟨[2], [], []⟩,
 ⟨[8], [], []⟩,
 ⟨[2], [], []⟩,
 ⟨[2], [], []⟩]
def s132 : SC := .seq (.ops [⟨some 1, .box 25 (.tmp 0), 0, .always⟩,
 ⟨some 2, .assign (.const (.int .i64 0)), 43, .always⟩] [1])
 (.seq (.seq (.ops [⟨some 3, .load 25 (.tmp 1), 25, .always⟩,
 ⟨some 4, .call { callee := .value (.func 163), args := #[.tmp 3], argTypes := #[25] }, 4, .always⟩,
 ⟨some 5, .unOp .not 4 (.tmp 4), 4, .always⟩] [1, 5])
 (.cond (.tmp 5)
 (.seq (.ops [⟨some 2, .assign (.const (.int .i64 2)), 43, .always⟩] [2])
 (.ret))
 (.skip)))
 (.seq (.seq (.ops [⟨some 6, .load 25 (.tmp 1), 25, .always⟩,
 ⟨some 7, .call { callee := .value (.func 164), args := #[.tmp 6], argTypes := #[25] }, 3, .always⟩,
 ⟨some 8, .binOp .gtr 3 (.tmp 7) (.const (.int .i64 64)) 3, 4, .always⟩] [8])
 (.cond (.tmp 8)
 (.seq (.ops [⟨some 2, .assign (.const (.int .i64 4)), 43, .always⟩] [2])
 (.ret))
 (.skip)))
 (.seq (.ops [⟨some 2, .assign (.const (.int .i64 0)), 43, .always⟩] [2])
 (.ret))))
theorem w132 {args : List PV} {σ σ' : List Frm} {r : Ret} (hr : ∀ p, r = .val p → erV p = p) (h : wpP cfg s132 (QEndP cfg [.tmp 2] σ' r) ⟨initEnv args, fun _ => [], σ, ⟨fun _ => false, 0⟩⟩) : CallsV cfg 132 args σ r σ' :=
 callsV_of_p follows cfgT a132 (fn := Tryd.f132) (c := Tryd.f132.body.getD .skip) (by kernel_rfl) (by kernel_rfl) (by kernel_rfl) (by kernel_rfl) (by kernel_rfl) (sc := s132) (by kernel_rfl) [.tmp 2] (by kernel_rfl) hr h
def a160 : List Ann := [⟨[1], [], []⟩,
 ⟨[2], [], []⟩]
def s160 : SC := .seq (.ops [⟨some 1, .box 25 (.tmp 0), 0, .always⟩,
 ⟨some 2, .assign (.const (.bool false)), 4, .always⟩] [1])
 (.seq (.ops [⟨some 3, .fieldAddr 25 (.tmp 1) 0, 0, .always⟩,
 ⟨some 4, .load 3 (.tmp 3), 3, .always⟩,
 ⟨some 5, .binOp .eql 3 (.tmp 4) (.const (.int .i64 0)) 3, 4, .always⟩,
 ⟨some 6, .move (.tmp 5), 4, .always⟩,
 ⟨some 7, .fieldAddr 25 (.tmp 1) 1, 0, .tmp 6 true⟩,
 ⟨some 8, .load 23 (.tmp 7), 23, .tmp 6 true⟩,
 ⟨some 9, .call { callee := .builtin .len, args := #[.tmp 8], argTypes := #[23] }, 3, .tmp 6 true⟩,
 ⟨some 10, .binOp .eql 3 (.tmp 9) (.const (.int .i64 0)) 3, 4, .tmp 6 true⟩,
 ⟨some 11, .pick (.tmp 6) (.tmp 10) (.const (.bool false)), 4, .always⟩,
 ⟨some 2, .assign (.tmp 11), 4, .always⟩] [2])
 (.ret))
theorem w160 {args : List PV} {σ σ' : List Frm} {r : Ret} (hr : ∀ p, r = .val p → erV p = p) (h : wpP cfg s160 (QEndP cfg [.tmp 2] σ' r) ⟨initEnv args, fun _ => [], σ, ⟨fun _ => false, 0⟩⟩) : CallsV cfg 160 args σ r σ' :=
 callsV_of_p follows cfgT a160 (fn := Tryd.f160) (c := Tryd.f160.body.getD .skip) (by kernel_rfl) (by kernel_rfl) (by kernel_rfl) (by kernel_rfl) (by kernel_rfl) (sc := s160) (by kernel_rfl) [.tmp 2] (by kernel_rfl) hr h
def a165 : List Ann := [⟨[0], [], []⟩,
 ⟨[3], [], []⟩,
 ⟨[3, 4], [], []⟩,
 ⟨[3, 4], [], []⟩,
 ⟨[3, 4], [], []⟩,
 ⟨[3, 4], [], []⟩,
 ⟨[2], [], []⟩,
 ⟨[3, 9], [], []⟩,
 ⟨[3, 9], [], []⟩,
 ⟨[3, 9], [], []⟩,
 ⟨[3, 9], [], []⟩,
 ⟨[2], [], []⟩,
 ⟨[3, 14], [], []⟩,
 ⟨[3, 14], [], []⟩,
 ⟨[3, 14], [], []⟩,
 ⟨[2], [], []⟩,
 ⟨[3, 18], [], []⟩,
 ⟨[18], [], []⟩,
 ⟨[2], [], []⟩,
 ⟨[2], [], []⟩]
def s165 : SC := .seq (.ops [⟨some 2, .assign (.const (.int .i64 0)), 3, .always⟩] [0])
 (.seq (.seq (.ops [⟨some 3, .move (.tmp 0), 3, .always⟩] [3])
 (.block 0
 (.seq (.seq (.ops [⟨some 5, .binOp .eql 3 (.tmp 3) (.const (.int .i64 1)) 3, 4, .always⟩,
 ⟨some 4, .assign (.tmp 5), 4, .always⟩] [3, 4])
 (.cond (.tmp 4)
 (.skip)
 (.seq (.ops [⟨some 6, .binOp .eql 3 (.tmp 3) (.const (.int .i64 4)) 3, 4, .always⟩,
 ⟨some 4, .assign (.tmp 6), 4, .always⟩] [3, 4])
 (.cond (.tmp 4)
 (.skip)
 (.seq (.ops [⟨some 7, .binOp .eql 3 (.tmp 3) (.const (.int .i64 7)) 3, 4, .always⟩,
 ⟨some 4, .assign (.tmp 7), 4, .always⟩] [3, 4])
 (.cond (.tmp 4)
 (.skip)
 (.ops [⟨some 8, .binOp .eql 3 (.tmp 3) (.const (.int .i64 13)) 3, 4, .always⟩,
 ⟨some 4, .assign (.tmp 8), 4, .always⟩] [3, 4])))))))
 (.cond (.tmp 4)
 (.seq (.ops [⟨some 2, .assign (.const (.int .i64 0)), 3, .always⟩] [2])
 (.ret))
 (.seq (.seq (.ops [⟨some 10, .binOp .eql 3 (.tmp 3) (.const (.int .i64 2)) 3, 4, .always⟩,
 ⟨some 9, .assign (.tmp 10), 4, .always⟩] [3, 9])
 (.cond (.tmp 9)
 (.skip)
 (.seq (.ops [⟨some 11, .binOp .eql 3 (.tmp 3) (.const (.int .i64 5)) 3, 4, .always⟩,
 ⟨some 9, .assign (.tmp 11), 4, .always⟩] [3, 9])
 (.cond (.tmp 9)
 (.skip)
 (.seq (.ops [⟨some 12, .binOp .eql 3 (.tmp 3) (.const (.int .i64 11)) 3, 4, .always⟩,
 ⟨some 9, .assign (.tmp 12), 4, .always⟩] [3, 9])
 (.cond (.tmp 9)
 (.skip)
 (.ops [⟨some 13, .binOp .eql 3 (.tmp 3) (.const (.int .i64 12)) 3, 4, .always⟩,
 ⟨some 9, .assign (.tmp 13), 4, .always⟩] [3, 9])))))))
 (.cond (.tmp 9)
 (.seq (.ops [⟨some 2, .assign (.const (.int .i64 1)), 3, .always⟩] [2])
 (.ret))
 (.seq (.seq (.ops [⟨some 15, .binOp .eql 3 (.tmp 3) (.const (.int .i64 3)) 3, 4, .always⟩,
 ⟨some 14, .assign (.tmp 15), 4, .always⟩] [3, 14])
 (.cond (.tmp 14)
 (.skip)
 (.seq (.ops [⟨some 16, .binOp .eql 3 (.tmp 3) (.const (.int .i64 8)) 3, 4, .always⟩,
 ⟨some 14, .assign (.tmp 16), 4, .always⟩] [3, 14])
 (.cond (.tmp 14)
 (.skip)
 (.ops [⟨some 17, .binOp .eql 3 (.tmp 3) (.const (.int .i64 10)) 3, 4, .always⟩,
 ⟨some 14, .assign (.tmp 17), 4, .always⟩] [3, 14])))))
 (.cond (.tmp 14)
 (.seq (.ops [⟨some 2, .assign (.const (.int .i64 2)), 3, .always⟩] [2])
 (.ret))
 (.seq (.seq (.ops [⟨some 19, .binOp .eql 3 (.tmp 3) (.const (.int .i64 6)) 3, 4, .always⟩,
 ⟨some 18, .assign (.tmp 19), 4, .always⟩] [3, 18])
 (.cond (.tmp 18)
 (.skip)
 (.ops [⟨some 20, .binOp .eql 3 (.tmp 3) (.const (.int .i64 9)) 3, 4, .always⟩,
 ⟨some 18, .assign (.tmp 20), 4, .always⟩] [18])))
 (.cond (.tmp 18)
 (.seq (.ops [⟨some 2, .assign (.const (.int .i64 3)), 3, .always⟩] [2])
 (.ret))
 (.skip)))))))))))
 (.seq (.ops [⟨some 2, .assign (.const (.int .i64 (-1))), 3, .always⟩] [2])
 (.ret)))
theorem w165 {args : List PV} {σ σ' : List Frm} {r : Ret} (hr : ∀ p, r = .val p → erV p = p) (h : wpP cfg s165 (QEndP cfg [.tmp 2] σ' r) ⟨initEnv args, fun _ => [], σ, ⟨fun _ => false, 0⟩⟩) : CallsV cfg 165 args σ r σ' :=
 callsV_of_p follows cfgT a165 (fn := Tryd.f165) (c := Tryd.f165.body.getD .skip) (by kernel_rfl) (by kernel_rfl) (by kernel_rfl) (by kernel_rfl) (by kernel_rfl) (sc := s165) (by kernel_rfl) [.tmp 2] (by kernel_rfl) hr h
def a135 : List Ann := [⟨[1], [], []⟩,
 ⟨[1, 26], [0, 1, 3, 0, 8, 24, 63, 127, 255, 511, 1023, 2047, 4095, 8191, 16383, 32767, 65535, 131071, 262143, 524287, 1048575, 2097151], [false, true, false, false, false, true, false, false, false, false, false, false, false, false, false, false, false, false, false, false, false, false]⟩,
 ⟨[2], [], []⟩,
 ⟨[1, 28], [], []⟩,
 ⟨[1, 32], [], []⟩,
 ⟨[2], [], []⟩,
 ⟨[1, 28, 33], [], []⟩,
 ⟨[1, 28, 33], [], []⟩,
 ⟨[1, 33], [], []⟩,
 ⟨[1, 40], [], []⟩,
 ⟨[2], [], []⟩,
 ⟨[42, 43, 44], [], []⟩,
 ⟨[42, 43, 44, 45], [], []⟩,
 ⟨[4, 42, 43, 44], [], []⟩,
 ⟨[42, 43, 44, 50], [], []⟩,
 ⟨[2], [], []⟩,
 ⟨[42, 43, 44], [], []⟩,
 ⟨[2], [], []⟩]
def s135 : SC := .seq (.ops [⟨some 1, .box 62 (.tmp 0), 0, .always⟩,
 ⟨some 2, .assign (.const (.bool false)), 4, .always⟩] [1])
 (.seq (.seq (.draw [⟨some 5, .fieldAddr 62 (.tmp 1) 3, 0, .always⟩,
 ⟨some 6, .load 26 (.tmp 5), 26, .always⟩,
 ⟨some 7, .call { callee := .builtin .len, args := #[.tmp 6], argTypes := #[26] }, 3, .always⟩,
 ⟨some 8, .fieldAddr 62 (.tmp 1) 0, 0, .always⟩,
 ⟨some 9, .load 3 (.tmp 8), 3, .always⟩,
 ⟨some 10, .call { callee := .value (.func 165), args := #[.tmp 9], argTypes := #[3] }, 3, .always⟩,
 ⟨some 11, .binOp .neq 3 (.tmp 7) (.tmp 10) 3, 4, .always⟩,
 ⟨some 12, .move (.tmp 11), 4, .always⟩,
 ⟨some 13, .fieldAddr 62 (.tmp 1) 1, 0, .tmp 12 false⟩,
 ⟨some 14, .load 3 (.tmp 13), 3, .tmp 12 false⟩,
 ⟨some 15, .binOp .lss 3 (.tmp 14) (.const (.int .i64 0)) 3, 4, .tmp 12 false⟩,
 ⟨some 16, .pick (.tmp 12) (.const (.bool true)) (.tmp 15), 4, .always⟩,
 ⟨some 17, .move (.tmp 16), 4, .always⟩,
 ⟨some 18, .fieldAddr 62 (.tmp 1) 0, 0, .tmp 17 false⟩,
 ⟨some 19, .load 3 (.tmp 18), 3, .tmp 17 false⟩,
 ⟨some 20, .binOp .neq 3 (.tmp 19) (.const (.int .i64 1)) 3, 4, .tmp 17 false⟩,
 ⟨some 21, .move (.tmp 20), 4, .tmp 17 false⟩,
 ⟨some 22, .fieldAddr 62 (.tmp 1) 1, 0, .tmp 21 true⟩,
 ⟨some 23, .load 3 (.tmp 22), 3, .tmp 21 true⟩,
 ⟨some 24, .binOp .neq 3 (.tmp 23) (.const (.int .i64 0)) 3, 4, .tmp 21 true⟩,
 ⟨some 25, .pick (.tmp 21) (.tmp 24) (.const (.bool false)), 4, .tmp 17 false⟩,
 ⟨some 26, .pick (.tmp 17) (.const (.bool true)) (.tmp 25), 4, .always⟩] [false, true, false, false, false, true, false, false, false, false, false, false, false, false, false, false, false, false, false, false, false, false] [1, 26])
 (.cond (.tmp 26)
 (.seq (.ops [⟨some 2, .assign (.const (.bool false)), 4, .always⟩] [2])
 (.ret))
 (.skip)))
 (.seq (.seq (.ops [⟨some 27, .fieldAddr 62 (.tmp 1) 0, 0, .always⟩,
 ⟨some 28, .load 3 (.tmp 27), 3, .always⟩] [1, 28])
 (.block 0
 (.seq (.seq (.ops [⟨some 34, .binOp .eql 3 (.tmp 28) (.const (.int .i64 2)) 3, 4, .always⟩,
 ⟨some 33, .assign (.tmp 34), 4, .always⟩] [1, 28, 33])
 (.cond (.tmp 33)
 (.skip)
 (.seq (.ops [⟨some 35, .binOp .eql 3 (.tmp 28) (.const (.int .i64 6)) 3, 4, .always⟩,
 ⟨some 33, .assign (.tmp 35), 4, .always⟩] [1, 28, 33])
 (.cond (.tmp 33)
 (.skip)
 (.ops [⟨some 36, .binOp .eql 3 (.tmp 28) (.const (.int .i64 9)) 3, 4, .always⟩,
 ⟨some 33, .assign (.tmp 36), 4, .always⟩] [1, 33])))))
 (.cond (.tmp 33)
 (.seq (.ops [⟨some 37, .fieldAddr 62 (.tmp 1) 2, 0, .always⟩,
 ⟨some 38, .load 25 (.tmp 37), 25, .always⟩,
 ⟨some 39, .call { callee := .value (.func 132), args := #[.tmp 38], argTypes := #[25] }, 43, .always⟩,
 ⟨some 40, .binOp .neq 43 (.tmp 39) (.const (.int .i64 0)) 43, 4, .always⟩] [1, 40])
 (.cond (.tmp 40)
 (.seq (.ops [⟨some 2, .assign (.const (.bool false)), 4, .always⟩] [2])
 (.ret))
 (.skip)))
 (.seq (.ops [⟨some 29, .fieldAddr 62 (.tmp 1) 2, 0, .always⟩,
 ⟨some 30, .load 25 (.tmp 29), 25, .always⟩,
 ⟨some 31, .call { callee := .value (.func 160), args := #[.tmp 30], argTypes := #[25] }, 4, .always⟩,
 ⟨some 32, .unOp .not 4 (.tmp 31), 4, .always⟩] [1, 32])
 (.cond (.tmp 32)
 (.seq (.ops [⟨some 2, .assign (.const (.bool false)), 4, .always⟩] [2])
 (.ret))
 (.skip)))))))
 (.seq (.seq (.ops [⟨some 41, .fieldAddr 62 (.tmp 1) 3, 0, .always⟩,
 ⟨some 42, .load 26 (.tmp 41), 26, .always⟩,
 ⟨some 43, .call { callee := .builtin .len, args := #[.tmp 42], argTypes := #[26] }, 3, .always⟩,
 ⟨some 44, .move (.const (.int .i64 0)), 3, .always⟩] [42, 43, 44])
 (.block 1
 (.loop
 (.seq (.ops [⟨some 45, .binOp .lss 3 (.tmp 44) (.tmp 43) 3, 0, .always⟩] [42, 43, 44, 45])
 (.seq (.cond (.tmp 45)
 (.skip)
 (.exit 1))
 (.seq (.block 2
 (.seq (.ops [⟨some 46, .indexAddr 26 (.tmp 42) (.tmp 44), 0, .always⟩,
 ⟨some 47, .load 62 (.tmp 46), 62, .always⟩,
 ⟨some 4, .alloc 62, 0, .always⟩,
 ⟨none, .store 62 (.tmp 4) (.tmp 47), 0, .always⟩] [4, 42, 43, 44])
 (.seq (.ops [⟨some 48, .load 62 (.tmp 4), 62, .always⟩,
 ⟨some 49, .call { callee := .value (.func 135), args := #[.tmp 48], argTypes := #[62] }, 4, .always⟩,
 ⟨some 50, .unOp .not 4 (.tmp 49), 4, .always⟩] [42, 43, 44, 50])
 (.cond (.tmp 50)
 (.seq (.ops [⟨some 2, .assign (.const (.bool false)), 4, .always⟩] [2])
 (.ret))
 (.skip)))))
 (.ops [⟨some 51, .binOp .add 3 (.tmp 44) (.const (.int .i64 1)) 3, 3, .always⟩,
 ⟨some 44, .move (.tmp 51), 3, .always⟩] [42, 43, 44])))))))
 (.seq (.ops [⟨some 2, .assign (.const (.bool true)), 4, .always⟩] [2])
 (.ret)))))
theorem w135 {args : List PV} {σ σ' : List Frm} {r : Ret} (hr : ∀ p, r = .val p → erV p = p) (h : wpP cfg s135 (QEndP cfg [.tmp 2] σ' r) ⟨initEnv args, fun _ => [], σ, ⟨fun _ => false, 0⟩⟩) : CallsV cfg 135 args σ r σ' :=
 callsV_of_p follows cfgT a135 (fn := Tryd.f135) (c := Tryd.f135.body.getD .skip) (by kernel_rfl) (by kernel_rfl) (by kernel_rfl) (by kernel_rfl) (by kernel_rfl) (sc := s135) (by kernel_rfl) [.tmp 2] (by kernel_rfl) hr h
def a161 : List Ann := [⟨[0], [], []⟩,
 ⟨[2], [], []⟩]
def s161 : SC := .seq (.ops [⟨some 2, .assign (.const (.bool false)), 4, .always⟩] [0])
 (.seq (.ops [⟨some 3, .move (.tmp 0), 3, .always⟩,
 ⟨some 4, .binOp .eql 3 (.tmp 3) (.const (.int .i64 4)) 3, 4, .always⟩,
 ⟨some 5, .move (.tmp 4), 4, .always⟩,
 ⟨some 6, .move (.tmp 0), 3, .tmp 5 false⟩,
 ⟨some 7, .binOp .eql 3 (.tmp 6) (.const (.int .i64 5)) 3, 4, .tmp 5 false⟩,
 ⟨some 8, .pick (.tmp 5) (.const (.bool true)) (.tmp 7), 4, .always⟩,
 ⟨some 9, .move (.tmp 8), 4, .always⟩,
 ⟨some 10, .move (.tmp 0), 3, .tmp 9 false⟩,
 ⟨some 11, .binOp .eql 3 (.tmp 10) (.const (.int .i64 6)) 3, 4, .tmp 9 false⟩,
 ⟨some 12, .pick (.tmp 9) (.const (.bool true)) (.tmp 11), 4, .always⟩,
 ⟨some 13, .move (.tmp 12), 4, .always⟩,
 ⟨some 14, .move (.tmp 0), 3, .tmp 13 false⟩,
 ⟨some 15, .binOp .eql 3 (.tmp 14) (.const (.int .i64 7)) 3, 4, .tmp 13 false⟩,
 ⟨some 16, .pick (.tmp 13) (.const (.bool true)) (.tmp 15), 4, .always⟩,
 ⟨some 2, .assign (.tmp 16), 4, .always⟩] [2])
 (.ret))
theorem w161 {args : List PV} {σ σ' : List Frm} {r : Ret} (hr : ∀ p, r = .val p → erV p = p) (h : wpP cfg s161 (QEndP cfg [.tmp 2] σ' r) ⟨initEnv args, fun _ => [], σ, ⟨fun _ => false, 0⟩⟩) : CallsV cfg 161 args σ r σ' :=
 callsV_of_p follows cfgT a161 (fn := Tryd.f161) (c := Tryd.f161.body.getD .skip) (by kernel_rfl) (by kernel_rfl) (by kernel_rfl) (by kernel_rfl) (by kernel_rfl) (sc := s161) (by kernel_rfl) [.tmp 2] (by kernel_rfl) hr h
def a128 : List Ann := [⟨[1], [], []⟩,
 ⟨[1, 3], [], []⟩,
 ⟨[2], [], []⟩,
 ⟨[1, 36], [], []⟩,
 ⟨[2], [], []⟩,
 ⟨[1, 74], [], []⟩,
 ⟨[2], [], []⟩,
 ⟨[2], [], []⟩]
def s128 : SC := .seq (.ops [⟨some 1, .box 29 (.tmp 0), 0, .always⟩,
 ⟨some 2, .assign (.const (.bool false)), 4, .always⟩] [1])
 (.seq (.block 0
 (.seq (.ops [⟨some 4, .fieldAddr 29 (.tmp 1) 0, 0, .always⟩,
 ⟨some 5, .load 3 (.tmp 4), 3, .always⟩,
 ⟨some 6, .binOp .eql 3 (.tmp 5) (.const (.int .i64 1)) 3, 4, .always⟩,
 ⟨some 3, .assign (.tmp 6), 4, .always⟩] [1, 3])
 (.cond (.tmp 3)
 (.seq (.ops [⟨some 7, .fieldAddr 29 (.tmp 1) 3, 0, .always⟩,
 ⟨some 8, .load 27 (.tmp 7), 27, .always⟩,
 ⟨some 9, .call { callee := .builtin .len, args := #[.tmp 8], argTypes := #[27] }, 3, .always⟩,
 ⟨some 10, .binOp .eql 3 (.tmp 9) (.const (.int .i64 0)) 3, 4, .always⟩,
 ⟨some 11, .move (.tmp 10), 4, .always⟩,
 ⟨some 12, .fieldAddr 29 (.tmp 1) 1, 0, .tmp 11 true⟩,
 ⟨some 13, .load 25 (.tmp 12), 25, .tmp 11 true⟩,
 ⟨some 14, .call { callee := .value (.func 160), args := #[.tmp 13], argTypes := #[25] }, 4, .tmp 11 true⟩,
 ⟨some 15, .pick (.tmp 11) (.tmp 14) (.const (.bool false)), 4, .always⟩,
 ⟨some 16, .move (.tmp 15), 4, .always⟩,
 ⟨some 17, .fieldAddr 29 (.tmp 1) 2, 0, .tmp 16 true⟩,
 ⟨some 18, .load 26 (.tmp 17), 26, .tmp 16 true⟩,
 ⟨some 19, .call { callee := .builtin .len, args := #[.tmp 18], argTypes := #[26] }, 3, .tmp 16 true⟩,
 ⟨some 20, .binOp .eql 3 (.tmp 19) (.const (.int .i64 2)) 3, 4, .tmp 16 true⟩,
 ⟨some 21, .pick (.tmp 16) (.tmp 20) (.const (.bool false)), 4, .always⟩,
 ⟨some 22, .move (.tmp 21), 4, .always⟩,
 ⟨some 23, .fieldAddr 29 (.tmp 1) 2, 0, .tmp 22 true⟩,
 ⟨some 24, .load 26 (.tmp 23), 26, .tmp 22 true⟩,
 ⟨some 25, .indexAddr 26 (.tmp 24) (.const (.int .i64 0)), 0, .tmp 22 true⟩,
 ⟨some 26, .load 62 (.tmp 25), 62, .tmp 22 true⟩,
 ⟨some 27, .call { callee := .value (.func 135), args := #[.tmp 26], argTypes := #[62] }, 4, .tmp 22 true⟩,
 ⟨some 28, .pick (.tmp 22) (.tmp 27) (.const (.bool false)), 4, .always⟩,
 ⟨some 29, .move (.tmp 28), 4, .always⟩,
 ⟨some 30, .fieldAddr 29 (.tmp 1) 2, 0, .tmp 29 true⟩,
 ⟨some 31, .load 26 (.tmp 30), 26, .tmp 29 true⟩,
 ⟨some 32, .indexAddr 26 (.tmp 31) (.const (.int .i64 1)), 0, .tmp 29 true⟩,
 ⟨some 33, .load 62 (.tmp 32), 62, .tmp 29 true⟩,
 ⟨some 34, .call { callee := .value (.func 135), args := #[.tmp 33], argTypes := #[62] }, 4, .tmp 29 true⟩,
 ⟨some 35, .pick (.tmp 29) (.tmp 34) (.const (.bool false)), 4, .always⟩,
 ⟨some 2, .assign (.tmp 35), 4, .always⟩] [2])
 (.ret))
 (.seq (.ops [⟨some 37, .fieldAddr 29 (.tmp 1) 0, 0, .always⟩,
 ⟨some 38, .load 3 (.tmp 37), 3, .always⟩,
 ⟨some 39, .binOp .eql 3 (.tmp 38) (.const (.int .i64 2)) 3, 4, .always⟩,
 ⟨some 40, .move (.tmp 39), 4, .always⟩,
 ⟨some 41, .fieldAddr 29 (.tmp 1) 0, 0, .tmp 40 false⟩,
 ⟨some 42, .load 3 (.tmp 41), 3, .tmp 40 false⟩,
 ⟨some 43, .binOp .eql 3 (.tmp 42) (.const (.int .i64 3)) 3, 4, .tmp 40 false⟩,
 ⟨some 44, .pick (.tmp 40) (.const (.bool true)) (.tmp 43), 4, .always⟩,
 ⟨some 36, .assign (.tmp 44), 4, .always⟩] [1, 36])
 (.cond (.tmp 36)
 (.seq (.ops [⟨some 45, .fieldAddr 29 (.tmp 1) 2, 0, .always⟩,
 ⟨some 46, .load 26 (.tmp 45), 26, .always⟩,
 ⟨some 47, .call { callee := .builtin .len, args := #[.tmp 46], argTypes := #[26] }, 3, .always⟩,
 ⟨some 48, .binOp .eql 3 (.tmp 47) (.const (.int .i64 0)) 3, 4, .always⟩,
 ⟨some 49, .move (.tmp 48), 4, .always⟩,
 ⟨some 50, .fieldAddr 29 (.tmp 1) 1, 0, .tmp 49 true⟩,
 ⟨some 51, .load 25 (.tmp 50), 25, .tmp 49 true⟩,
 ⟨some 52, .call { callee := .value (.func 160), args := #[.tmp 51], argTypes := #[25] }, 4, .tmp 49 true⟩,
 ⟨some 53, .pick (.tmp 49) (.tmp 52) (.const (.bool false)), 4, .always⟩,
 ⟨some 54, .move (.tmp 53), 4, .always⟩,
 ⟨some 55, .fieldAddr 29 (.tmp 1) 3, 0, .tmp 54 true⟩,
 ⟨some 56, .load 27 (.tmp 55), 27, .tmp 54 true⟩,
 ⟨some 57, .call { callee := .builtin .len, args := #[.tmp 56], argTypes := #[27] }, 3, .tmp 54 true⟩,
 ⟨some 58, .binOp .eql 3 (.tmp 57) (.const (.int .i64 2)) 3, 4, .tmp 54 true⟩,
 ⟨some 59, .pick (.tmp 54) (.tmp 58) (.const (.bool false)), 4, .always⟩,
 ⟨some 60, .move (.tmp 59), 4, .always⟩,
 ⟨some 61, .fieldAddr 29 (.tmp 1) 3, 0, .tmp 60 true⟩,
 ⟨some 62, .load 27 (.tmp 61), 27, .tmp 60 true⟩,
 ⟨some 63, .indexAddr 27 (.tmp 62) (.const (.int .i64 0)), 0, .tmp 60 true⟩,
 ⟨some 64, .load 29 (.tmp 63), 29, .tmp 60 true⟩,
 ⟨some 65, .call { callee := .value (.func 128), args := #[.tmp 64], argTypes := #[29] }, 4, .tmp 60 true⟩,
 ⟨some 66, .pick (.tmp 60) (.tmp 65) (.const (.bool false)), 4, .always⟩,
 ⟨some 67, .move (.tmp 66), 4, .always⟩,
 ⟨some 68, .fieldAddr 29 (.tmp 1) 3, 0, .tmp 67 true⟩,
 ⟨some 69, .load 27 (.tmp 68), 27, .tmp 67 true⟩,
 ⟨some 70, .indexAddr 27 (.tmp 69) (.const (.int .i64 1)), 0, .tmp 67 true⟩,
 ⟨some 71, .load 29 (.tmp 70), 29, .tmp 67 true⟩,
 ⟨some 72, .call { callee := .value (.func 128), args := #[.tmp 71], argTypes := #[29] }, 4, .tmp 67 true⟩,
 ⟨some 73, .pick (.tmp 67) (.tmp 72) (.const (.bool false)), 4, .always⟩,
 ⟨some 2, .assign (.tmp 73), 4, .always⟩] [2])
 (.ret))
 (.seq (.ops [⟨some 75, .fieldAddr 29 (.tmp 1) 0, 0, .always⟩,
 ⟨some 76, .load 3 (.tmp 75), 3, .always⟩,
 ⟨some 77, .call { callee := .value (.func 161), args := #[.tmp 76], argTypes := #[3] }, 4, .always⟩,
 ⟨some 74, .assign (.tmp 77), 4, .always⟩] [1, 74])
 (.cond (.tmp 74)
 (.seq (.ops [⟨some 78, .fieldAddr 29 (.tmp 1) 2, 0, .always⟩,
 ⟨some 79, .load 26 (.tmp 78), 26, .always⟩,
 ⟨some 80, .call { callee := .builtin .len, args := #[.tmp 79], argTypes := #[26] }, 3, .always⟩,
 ⟨some 81, .binOp .eql 3 (.tmp 80) (.const (.int .i64 0)) 3, 4, .always⟩,
 ⟨some 82, .move (.tmp 81), 4, .always⟩,
 ⟨some 83, .fieldAddr 29 (.tmp 1) 1, 0, .tmp 82 true⟩,
 ⟨some 84, .load 25 (.tmp 83), 25, .tmp 82 true⟩,
 ⟨some 85, .call { callee := .value (.func 132), args := #[.tmp 84], argTypes := #[25] }, 43, .tmp 82 true⟩,
 ⟨some 86, .binOp .eql 43 (.tmp 85) (.const (.int .i64 0)) 43, 4, .tmp 82 true⟩,
 ⟨some 87, .pick (.tmp 82) (.tmp 86) (.const (.bool false)), 4, .always⟩,
 ⟨some 88, .move (.tmp 87), 4, .always⟩,
 ⟨some 89, .fieldAddr 29 (.tmp 1) 3, 0, .tmp 88 true⟩,
 ⟨some 90, .load 27 (.tmp 89), 27, .tmp 88 true⟩,
 ⟨some 91, .call { callee := .builtin .len, args := #[.tmp 90], argTypes := #[27] }, 3, .tmp 88 true⟩,
 ⟨some 92, .binOp .eql 3 (.tmp 91) (.const (.int .i64 1)) 3, 4, .tmp 88 true⟩,
 ⟨some 93, .pick (.tmp 88) (.tmp 92) (.const (.bool false)), 4, .always⟩,
 ⟨some 94, .move (.tmp 93), 4, .always⟩,
 ⟨some 95, .fieldAddr 29 (.tmp 1) 3, 0, .tmp 94 true⟩,
 ⟨some 96, .load 27 (.tmp 95), 27, .tmp 94 true⟩,
 ⟨some 97, .indexAddr 27 (.tmp 96) (.const (.int .i64 0)), 0, .tmp 94 true⟩,
 ⟨some 98, .load 29 (.tmp 97), 29, .tmp 94 true⟩,
 ⟨some 99, .call { callee := .value (.func 128), args := #[.tmp 98], argTypes := #[29] }, 4, .tmp 94 true⟩,
 ⟨some 100, .pick (.tmp 94) (.tmp 99) (.const (.bool false)), 4, .always⟩,
 ⟨some 2, .assign (.tmp 100), 4, .always⟩] [2])
 (.ret))
 (.skip))))))))
 (.seq (.ops [⟨some 2, .assign (.const (.bool false)), 4, .always⟩] [2])
 (.ret)))
theorem w128 {args : List PV} {σ σ' : List Frm} {r : Ret} (hr : ∀ p, r = .val p → erV p = p) (h : wpP cfg s128 (QEndP cfg [.tmp 2] σ' r) ⟨initEnv args, fun _ => [], σ, ⟨fun _ => false, 0⟩⟩) : CallsV cfg 128 args σ r σ' :=
 callsV_of_p follows cfgT a128 (fn := Tryd.f128) (c := Tryd.f128.body.getD .skip) (by kernel_rfl) (by kernel_rfl) (by kernel_rfl) (by kernel_rfl) (by kernel_rfl) (sc := s128) (by kernel_rfl) [.tmp 2] (by kernel_rfl) hr h
def a77 : List Ann := [⟨[1], [], []⟩,
 ⟨[1, 5], [], []⟩,
 ⟨[2], [], []⟩,
 ⟨[8], [], []⟩,
 ⟨[2], [], []⟩,
 ⟨[2], [], []⟩]
def s77 : SC := .seq (.ops [⟨some 1, .box 29 (.tmp 0), 0, .always⟩,
 ⟨some 2, .assign (.const (.int .i64 0)), 43, .always⟩] [1])
 (.seq (.seq (.ops [⟨some 3, .load 29 (.tmp 1), 29, .always⟩,
 ⟨some 4, .call { callee := .value (.func 128), args := #[.tmp 3], argTypes := #[29] }, 4, .always⟩,
 ⟨some 5, .unOp .not 4 (.tmp 4), 4, .always⟩] [1, 5])
 (.cond (.tmp 5)
 (.seq (.ops [⟨some 2, .assign (.const (.int .i64 2)), 43, .always⟩] [2])
 (.ret))
 (.skip)))
 (.seq (.seq (.ops [⟨some 6, .load 29 (.tmp 1), 29, .always⟩,
 ⟨some 7, .call { callee := .value (.func 88), args := #[.tmp 6], argTypes := #[29] }, 3, .always⟩,
 ⟨some 8, .binOp .gtr 3 (.tmp 7) (.const (.int .i64 4096)) 3, 4, .always⟩] [8])
 (.cond (.tmp 8)
 (.seq (.ops [⟨some 2, .assign (.const (.int .i64 4)), 43, .always⟩] [2])
 (.ret))
 (.skip)))
 (.seq (.ops [⟨some 2, .assign (.const (.int .i64 0)), 43, .always⟩] [2])
 (.ret))))
theorem w77 {args : List PV} {σ σ' : List Frm} {r : Ret} (hr : ∀ p, r = .val p → erV p = p) (h : wpP cfg s77 (QEndP cfg [.tmp 2] σ' r) ⟨initEnv args, fun _ => [], σ, ⟨fun _ => false, 0⟩⟩) : CallsV cfg 77 args σ r σ' :=
 callsV_of_p follows cfgT a77 (fn := Tryd.f77) (c := Tryd.f77.body.getD .skip) (by kernel_rfl) (by kernel_rfl) (by kernel_rfl) (by kernel_rfl) (by kernel_rfl) (sc := s77) (by kernel_rfl) [.tmp 2] (by kernel_rfl) hr h
def a43 : List Ann := [⟨[2, 3, 4], [], []⟩,
 ⟨[4], [], []⟩]
def s43 : SC := .seq (.ops [⟨some 2, .box 25 (.tmp 0), 0, .always⟩,
 ⟨some 3, .box 25 (.tmp 1), 0, .always⟩,
 ⟨some 4, .alloc 25, 0, .always⟩] [2, 3, 4])
 (.seq (.ops [⟨some 5, .load 25 (.tmp 2), 25, .always⟩,
 ⟨some 6, .load 25 (.tmp 3), 25, .always⟩,
 ⟨some 7, .buildSlice 23 2 #[(0, .tmp 5), (1, .tmp 6)], 23, .always⟩,
 ⟨some 8, .build 25 #[(0, .const (.int .i64 3)), (1, .tmp 7)], 25, .always⟩,
 ⟨none, .store 25 (.tmp 4) (.tmp 8), 0, .always⟩] [4])
 (.ret))
theorem w43 {args : List PV} {σ σ' : List Frm} {r : Ret} (hr : ∀ p, r = .val p → erV p = p) (h : wpP cfg s43 (QEndP cfg [.cell 4 25] σ' r) ⟨initEnv args, fun _ => [], σ, ⟨fun _ => false, 0⟩⟩) : CallsV cfg 43 args σ r σ' :=
 callsV_of_p follows cfgT a43 (fn := Tryd.f43) (c := Tryd.f43.body.getD .skip) (by kernel_rfl) (by kernel_rfl) (by kernel_rfl) (by kernel_rfl) (by kernel_rfl) (sc := s43) (by kernel_rfl) [.cell 4 25] (by kernel_rfl) hr h
def a99 : List Ann := [⟨[1], [], []⟩,
 ⟨[1, 4], [], []⟩,
 ⟨[1, 4, 5], [], []⟩,
 ⟨[2], [], []⟩,
 ⟨[1, 4, 7], [], []⟩,
 ⟨[2], [], []⟩,
 ⟨[1, 21], [], []⟩,
 ⟨[2], [], []⟩,
 ⟨[2], [], []⟩]
def s99 : SC := .seq (.ops [⟨some 1, .box 29 (.tmp 0), 0, .always⟩,
 ⟨some 2, .assign (.const (.bool false)), 4, .always⟩] [1])
 (.seq (.seq (.ops [⟨some 3, .fieldAddr 29 (.tmp 1) 0, 0, .always⟩,
 ⟨some 4, .load 3 (.tmp 3), 3, .always⟩] [1, 4])
 (.block 0
 (.seq (.ops [⟨some 6, .binOp .eql 3 (.tmp 4) (.const (.int .i64 1)) 3, 4, .always⟩,
 ⟨some 5, .assign (.tmp 6), 4, .always⟩] [1, 4, 5])
 (.cond (.tmp 5)
 (.seq (.ops [⟨some 2, .assign (.const (.bool false)), 4, .always⟩] [2])
 (.ret))
 (.seq (.ops [⟨some 8, .binOp .eql 3 (.tmp 4) (.const (.int .i64 2)) 3, 4, .always⟩,
 ⟨some 7, .assign (.tmp 8), 4, .always⟩] [1, 4, 7])
 (.cond (.tmp 7)
 (.seq (.ops [⟨some 9, .fieldAddr 29 (.tmp 1) 3, 0, .always⟩,
 ⟨some 10, .load 27 (.tmp 9), 27, .always⟩,
 ⟨some 11, .indexAddr 27 (.tmp 10) (.const (.int .i64 0)), 0, .always⟩,
 ⟨some 12, .load 29 (.tmp 11), 29, .always⟩,
 ⟨some 13, .call { callee := .value (.func 99), args := #[.tmp 12], argTypes := #[29] }, 4, .always⟩,
 ⟨some 14, .move (.tmp 13), 4, .always⟩,
 ⟨some 15, .fieldAddr 29 (.tmp 1) 3, 0, .tmp 14 false⟩,
 ⟨some 16, .load 27 (.tmp 15), 27, .tmp 14 false⟩,
 ⟨some 17, .indexAddr 27 (.tmp 16) (.const (.int .i64 1)), 0, .tmp 14 false⟩,
 ⟨some 18, .load 29 (.tmp 17), 29, .tmp 14 false⟩,
 ⟨some 19, .call { callee := .value (.func 99), args := #[.tmp 18], argTypes := #[29] }, 4, .tmp 14 false⟩,
 ⟨some 20, .pick (.tmp 14) (.const (.bool true)) (.tmp 19), 4, .always⟩,
 ⟨some 2, .assign (.tmp 20), 4, .always⟩] [2])
 (.ret))
 (.seq (.ops [⟨some 22, .binOp .eql 3 (.tmp 4) (.const (.int .i64 5)) 3, 4, .always⟩,
 ⟨some 21, .assign (.tmp 22), 4, .always⟩] [1, 21])
 (.cond (.tmp 21)
 (.seq (.ops [⟨some 2, .assign (.const (.bool true)), 4, .always⟩] [2])
 (.ret))
 (.skip)))))))))
 (.seq (.ops [⟨some 23, .fieldAddr 29 (.tmp 1) 3, 0, .always⟩,
 ⟨some 24, .load 27 (.tmp 23), 27, .always⟩,
 ⟨some 25, .fieldAddr 29 (.tmp 1) 3, 0, .always⟩,
 ⟨some 26, .load 27 (.tmp 25), 27, .always⟩,
 ⟨some 27, .call { callee := .builtin .len, args := #[.tmp 26], argTypes := #[27] }, 3, .always⟩,
 ⟨some 28, .binOp .sub 3 (.tmp 27) (.const (.int .i64 1)) 3, 3, .always⟩,
 ⟨some 29, .indexAddr 27 (.tmp 24) (.tmp 28), 0, .always⟩,
 ⟨some 30, .load 29 (.tmp 29), 29, .always⟩,
 ⟨some 31, .call { callee := .value (.func 99), args := #[.tmp 30], argTypes := #[29] }, 4, .always⟩,
 ⟨some 2, .assign (.tmp 31), 4, .always⟩] [2])
 (.ret)))
theorem w99 {args : List PV} {σ σ' : List Frm} {r : Ret} (hr : ∀ p, r = .val p → erV p = p) (h : wpP cfg s99 (QEndP cfg [.tmp 2] σ' r) ⟨initEnv args, fun _ => [], σ, ⟨fun _ => false, 0⟩⟩) : CallsV cfg 99 args σ r σ' :=
 callsV_of_p follows cfgT a99 (fn := Tryd.f99) (c := Tryd.f99.body.getD .skip) (by kernel_rfl) (by kernel_rfl) (by kernel_rfl) (by kernel_rfl) (by kernel_rfl) (sc := s99) (by kernel_rfl) [.tmp 2] (by kernel_rfl) hr h
def a39 : List Ann := [⟨[1], [], []⟩,
 ⟨[1, 4], [], []⟩,
 ⟨[1, 4, 8], [], []⟩,
 ⟨[2, 3], [], []⟩,
 ⟨[2, 3], [], []⟩]
def s39 : SC := .seq (.ops [⟨some 1, .box 29 (.tmp 0), 0, .always⟩,
 ⟨some 2, .assign (.const (.bool false)), 4, .always⟩,
 ⟨some 3, .assign (.const (.int .i64 0)), 43, .always⟩] [1])
 (.seq (.seq (.ops [⟨some 5, .load 29 (.tmp 1), 29, .always⟩,
 ⟨some 6, .call { callee := .value (.func 77), args := #[.tmp 5], argTypes := #[29] }, 43, .always⟩,
 ⟨some 4, .assign (.tmp 6), 43, .always⟩] [1, 4])
 (.seq (.ops [⟨some 7, .move (.tmp 4), 43, .always⟩,
 ⟨some 8, .binOp .neq 43 (.tmp 7) (.const (.int .i64 0)) 43, 4, .always⟩] [1, 4, 8])
 (.cond (.tmp 8)
 (.seq (.ops [⟨some 9, .move (.tmp 4), 43, .always⟩,
 ⟨some 2, .assign (.const (.bool false)), 4, .always⟩,
 ⟨some 3, .assign (.tmp 9), 43, .always⟩] [2, 3])
 (.ret))
 (.skip))))
 (.seq (.ops [⟨some 10, .load 29 (.tmp 1), 29, .always⟩,
 ⟨some 11, .call { callee := .value (.func 99), args := #[.tmp 10], argTypes := #[29] }, 4, .always⟩,
 ⟨some 2, .assign (.tmp 11), 4, .always⟩,
 ⟨some 3, .assign (.const (.int .i64 0)), 43, .always⟩] [2, 3])
 (.ret)))
theorem w39 {args : List PV} {σ σ' : List Frm} {r : Ret} (hr : ∀ p, r = .val p → erV p = p) (h : wpP cfg s39 (QEndP cfg [.tmp 2, .tmp 3] σ' r) ⟨initEnv args, fun _ => [], σ, ⟨fun _ => false, 0⟩⟩) : CallsV cfg 39 args σ r σ' :=
 callsV_of_p follows cfgT a39 (fn := Tryd.f39) (c := Tryd.f39.body.getD .skip) (by kernel_rfl) (by kernel_rfl) (by kernel_rfl) (by kernel_rfl) (by kernel_rfl) (sc := s39) (by kernel_rfl) [.tmp 2, .tmp 3] (by kernel_rfl) hr h
def a81 : List Ann := [⟨[1], [], []⟩,
 ⟨[3], [], []⟩,
 ⟨[2], [], []⟩]
def s81 : SC := .seq (.ops [⟨some 1, .box 29 (.tmp 0), 0, .always⟩,
 ⟨some 2, .assign (.const (.bool false)), 4, .always⟩] [1])
 (.seq (.ops [⟨some 6, .load 29 (.tmp 1), 29, .always⟩,
 ⟨some 7, .call { callee := .value (.func 39), args := #[.tmp 6], argTypes := #[29] }, 64, .always⟩,
 ⟨some 5, .move (.tmp 7), 64, .always⟩,
 ⟨some 8, .extract (.tmp 5) 0, 4, .always⟩,
 ⟨some 9, .extract (.tmp 5) 1, 43, .always⟩,
 ⟨some 3, .assign (.tmp 8), 4, .always⟩,
 ⟨some 4, .assign (.tmp 9), 43, .always⟩] [3])
 (.seq (.ops [⟨some 10, .move (.tmp 3), 4, .always⟩,
 ⟨some 2, .assign (.tmp 10), 4, .always⟩] [2])
 (.ret)))
theorem w81 {args : List PV} {σ σ' : List Frm} {r : Ret} (hr : ∀ p, r = .val p → erV p = p) (h : wpP cfg s81 (QEndP cfg [.tmp 2] σ' r) ⟨initEnv args, fun _ => [], σ, ⟨fun _ => false, 0⟩⟩) : CallsV cfg 81 args σ r σ' :=
 callsV_of_p follows cfgT a81 (fn := Tryd.f81) (c := Tryd.f81.body.getD .skip) (by kernel_rfl) (by kernel_rfl) (by kernel_rfl) (by kernel_rfl) (by kernel_rfl) (sc := s81) (by kernel_rfl) [.tmp 2] (by kernel_rfl) hr h
def a129 : List Ann := [⟨[0], [], []⟩,
 ⟨[0], [], []⟩]
def s129 : SC := .seq (.ops [⟨some 0, .alloc 25, 0, .always⟩] [0])
 (.seq (.ops [⟨some 1, .build 25 #[(0, .const (.int .i64 5))], 25, .always⟩,
 ⟨none, .store 25 (.tmp 0) (.tmp 1), 0, .always⟩] [0])
 (.ret))
theorem w129 {args : List PV} {σ σ' : List Frm} {r : Ret} (hr : ∀ p, r = .val p → erV p = p) (h : wpP cfg s129 (QEndP cfg [.cell 0 25] σ' r) ⟨initEnv args, fun _ => [], σ, ⟨fun _ => false, 0⟩⟩) : CallsV cfg 129 args σ r σ' :=
 callsV_of_p follows cfgT a129 (fn := Tryd.f129) (c := Tryd.f129.body.getD .skip) (by kernel_rfl) (by kernel_rfl) (by kernel_rfl) (by kernel_rfl) (by kernel_rfl) (sc := s129) (by kernel_rfl) [.cell 0 25] (by kernel_rfl) hr h
def a162 : List Ann := [⟨[1], [], []⟩,
 ⟨[1, 4], [], []⟩,
 ⟨[1, 4, 8], [], []⟩,
 ⟨[2, 3], [], []⟩,
 ⟨[2, 3], [], []⟩]
def s162 : SC := .seq (.ops [⟨some 1, .box 25 (.tmp 0), 0, .always⟩,
 ⟨some 2, .assign (.const (.int .i64 0)), 3, .always⟩,
 ⟨some 3, .assign (.const (.int .i64 0)), 43, .always⟩] [1])
 (.seq (.seq (.ops [⟨some 5, .load 25 (.tmp 1), 25, .always⟩,
 ⟨some 6, .call { callee := .value (.func 132), args := #[.tmp 5], argTypes := #[25] }, 43, .always⟩,
 ⟨some 4, .assign (.tmp 6), 43, .always⟩] [1, 4])
 (.seq (.ops [⟨some 7, .move (.tmp 4), 43, .always⟩,
 ⟨some 8, .binOp .neq 43 (.tmp 7) (.const (.int .i64 0)) 43, 4, .always⟩] [1, 4, 8])
 (.cond (.tmp 8)
 (.seq (.ops [⟨some 9, .move (.tmp 4), 43, .always⟩,
 ⟨some 2, .assign (.const (.int .i64 0)), 3, .always⟩,
 ⟨some 3, .assign (.tmp 9), 43, .always⟩] [2, 3])
 (.ret))
 (.skip))))
 (.seq (.ops [⟨some 10, .load 25 (.tmp 1), 25, .always⟩,
 ⟨some 11, .call { callee := .value (.func 164), args := #[.tmp 10], argTypes := #[25] }, 3, .always⟩,
 ⟨some 2, .assign (.tmp 11), 3, .always⟩,
 ⟨some 3, .assign (.const (.int .i64 0)), 43, .always⟩] [2, 3])
 (.ret)))
theorem w162 {args : List PV} {σ σ' : List Frm} {r : Ret} (hr : ∀ p, r = .val p → erV p = p) (h : wpP cfg s162 (QEndP cfg [.tmp 2, .tmp 3] σ' r) ⟨initEnv args, fun _ => [], σ, ⟨fun _ => false, 0⟩⟩) : CallsV cfg 162 args σ r σ' :=
 callsV_of_p follows cfgT a162 (fn := Tryd.f162) (c := Tryd.f162.body.getD .skip) (by kernel_rfl) (by kernel_rfl) (by kernel_rfl) (by kernel_rfl) (by kernel_rfl) (sc := s162) (by kernel_rfl) [.tmp 2, .tmp 3] (by kernel_rfl) hr h
def a130 : List Ann := [⟨[1, 2, 4], [], []⟩,
 ⟨[1, 2, 4, 7], [], []⟩,
 ⟨[4, 5], [], []⟩,
 ⟨[1, 2, 4], [], []⟩,
 ⟨[1, 2, 4, 16], [], []⟩,
 ⟨[4, 5], [], []⟩,
 ⟨[4, 5], [], []⟩]
def s130 : SC := .seq (.ops [⟨some 2, .box 25 (.tmp 0), 0, .always⟩,
 ⟨some 4, .alloc 25, 0, .always⟩,
 ⟨some 5, .assign (.const (.int .i64 0)), 43, .always⟩] [1, 2, 4])
 (.seq (.seq (.ops [⟨some 6, .move (.tmp 1), 43, .always⟩,
 ⟨some 7, .binOp .neq 43 (.tmp 6) (.const (.int .i64 0)) 43, 4, .always⟩] [1, 2, 4, 7])
 (.cond (.tmp 7)
 (.seq (.ops [⟨some 8, .build 25 #[], 25, .always⟩,
 ⟨some 9, .move (.tmp 1), 43, .always⟩,
 ⟨none, .store 25 (.tmp 4) (.tmp 8), 0, .always⟩,
 ⟨some 5, .assign (.tmp 9), 43, .always⟩] [4, 5])
 (.ret))
 (.skip)))
 (.seq (.seq (.ops [⟨some 11, .load 25 (.tmp 2), 25, .always⟩,
 ⟨some 12, .call { callee := .value (.func 162), args := #[.tmp 11], argTypes := #[25] }, 141, .always⟩,
 ⟨some 10, .move (.tmp 12), 141, .always⟩,
 ⟨some 13, .extract (.tmp 10) 0, 3, .always⟩,
 ⟨some 14, .extract (.tmp 10) 1, 43, .always⟩,
 ⟨some 1, .assign (.tmp 14), 43, .always⟩] [1, 2, 4])
 (.seq (.ops [⟨some 15, .move (.tmp 1), 43, .always⟩,
 ⟨some 16, .binOp .neq 43 (.tmp 15) (.const (.int .i64 0)) 43, 4, .always⟩] [1, 2, 4, 16])
 (.cond (.tmp 16)
 (.seq (.ops [⟨some 17, .build 25 #[], 25, .always⟩,
 ⟨some 18, .move (.tmp 1), 43, .always⟩,
 ⟨none, .store 25 (.tmp 4) (.tmp 17), 0, .always⟩,
 ⟨some 5, .assign (.tmp 18), 43, .always⟩] [4, 5])
 (.ret))
 (.skip))))
 (.seq (.ops [⟨some 19, .load 25 (.tmp 2), 25, .always⟩,
 ⟨none, .store 25 (.tmp 4) (.tmp 19), 0, .always⟩,
 ⟨some 5, .assign (.const (.int .i64 0)), 43, .always⟩] [4, 5])
 (.ret))))
theorem w130 {args : List PV} {σ σ' : List Frm} {r : Ret} (hr : ∀ p, r = .val p → erV p = p) (h : wpP cfg s130 (QEndP cfg [.cell 4 25, .tmp 5] σ' r) ⟨initEnv args, fun _ => [], σ, ⟨fun _ => false, 0⟩⟩) : CallsV cfg 130 args σ r σ' :=
 callsV_of_p follows cfgT a130 (fn := Tryd.f130) (c := Tryd.f130.body.getD .skip) (by kernel_rfl) (by kernel_rfl) (by kernel_rfl) (by kernel_rfl) (by kernel_rfl) (sc := s130) (by kernel_rfl) [.cell 4 25, .tmp 5] (by kernel_rfl) hr h
def a78 : List Ann := [⟨[1, 2], [], []⟩,
 ⟨[1, 2, 16], [], []⟩,
 ⟨[2, 3], [], []⟩,
 ⟨[1, 2, 19], [], []⟩,
 ⟨[1, 2, 19, 20], [], []⟩,
 ⟨[1, 2, 27], [], []⟩,
 ⟨[2, 3], [], []⟩,
 ⟨[1, 2, 40], [], []⟩,
 ⟨[2, 3], [], []⟩,
 ⟨[1, 2, 4, 5], [], []⟩,
 ⟨[1, 2, 4, 5, 57], [], []⟩,
 ⟨[2, 3], [], []⟩,
 ⟨[2, 4, 5, 6], [], []⟩,
 ⟨[2, 3], [], []⟩,
 ⟨[1, 2, 19, 75], [], []⟩,
 ⟨[1, 2, 82], [], []⟩,
 ⟨[2, 3], [], []⟩,
 ⟨[1, 2, 7, 8], [], []⟩,
 ⟨[1, 2, 7, 8, 99], [], []⟩,
 ⟨[2, 3], [], []⟩,
 ⟨[2, 7, 8, 9], [], []⟩,
 ⟨[2, 3], [], []⟩,
 ⟨[1, 2, 19, 117], [], []⟩,
 ⟨[1, 2, 10, 11], [], []⟩,
 ⟨[2, 3], [], []⟩,
 ⟨[1, 2, 135], [], []⟩,
 ⟨[1, 2, 142], [], []⟩,
 ⟨[2, 3], [], []⟩,
 ⟨[1, 2, 12, 13], [], []⟩,
 ⟨[2, 3], [], []⟩,
 ⟨[2, 3], [], []⟩]
def s78 : SC := .seq (.ops [⟨some 1, .box 29 (.tmp 0), 0, .always⟩,
 ⟨some 2, .alloc 25, 0, .always⟩,
 ⟨some 3, .assign (.const (.int .i64 0)), 43, .always⟩] [1, 2])
 (.seq (.seq (.ops [⟨some 14, .load 29 (.tmp 1), 29, .always⟩,
 ⟨some 15, .call { callee := .value (.func 81), args := #[.tmp 14], argTypes := #[29] }, 4, .always⟩,
 ⟨some 16, .unOp .not 4 (.tmp 15), 4, .always⟩] [1, 2, 16])
 (.cond (.tmp 16)
 (.seq (.ops [⟨some 17, .call { callee := .value (.func 129), args := #[], argTypes := #[] }, 25, .always⟩,
 ⟨none, .store 25 (.tmp 2) (.tmp 17), 0, .always⟩,
 ⟨some 3, .assign (.const (.int .i64 0)), 43, .always⟩] [2, 3])
 (.ret))
 (.skip)))
 (.seq (.seq (.ops [⟨some 18, .fieldAddr 29 (.tmp 1) 0, 0, .always⟩,
 ⟨some 19, .load 3 (.tmp 18), 3, .always⟩] [1, 2, 19])
 (.block 0
 (.seq (.ops [⟨some 21, .binOp .eql 3 (.tmp 19) (.const (.int .i64 2)) 3, 4, .always⟩,
 ⟨some 20, .assign (.tmp 21), 4, .always⟩] [1, 2, 19, 20])
 (.cond (.tmp 20)
 (.seq (.seq (.ops [⟨some 22, .fieldAddr 29 (.tmp 1) 3, 0, .always⟩,
 ⟨some 23, .load 27 (.tmp 22), 27, .always⟩,
 ⟨some 24, .indexAddr 27 (.tmp 23) (.const (.int .i64 0)), 0, .always⟩,
 ⟨some 25, .load 29 (.tmp 24), 29, .always⟩,
 ⟨some 26, .call { callee := .value (.func 81), args := #[.tmp 25], argTypes := #[29] }, 4, .always⟩,
 ⟨some 27, .unOp .not 4 (.tmp 26), 4, .always⟩] [1, 2, 27])
 (.cond (.tmp 27)
 (.seq (.ops [⟨some 28, .fieldAddr 29 (.tmp 1) 3, 0, .always⟩,
 ⟨some 29, .load 27 (.tmp 28), 27, .always⟩,
 ⟨some 30, .indexAddr 27 (.tmp 29) (.const (.int .i64 1)), 0, .always⟩,
 ⟨some 31, .load 29 (.tmp 30), 29, .always⟩,
 ⟨some 32, .call { callee := .value (.func 78), args := #[.tmp 31], argTypes := #[29] }, 44, .always⟩,
 ⟨some 33, .extract (.tmp 32) 0, 25, .always⟩,
 ⟨some 34, .extract (.tmp 32) 1, 43, .always⟩,
 ⟨none, .store 25 (.tmp 2) (.tmp 33), 0, .always⟩,
 ⟨some 3, .assign (.tmp 34), 43, .always⟩] [2, 3])
 (.ret))
 (.skip)))
 (.seq (.seq (.ops [⟨some 35, .fieldAddr 29 (.tmp 1) 3, 0, .always⟩,
 ⟨some 36, .load 27 (.tmp 35), 27, .always⟩,
 ⟨some 37, .indexAddr 27 (.tmp 36) (.const (.int .i64 1)), 0, .always⟩,
 ⟨some 38, .load 29 (.tmp 37), 29, .always⟩,
 ⟨some 39, .call { callee := .value (.func 81), args := #[.tmp 38], argTypes := #[29] }, 4, .always⟩,
 ⟨some 40, .unOp .not 4 (.tmp 39), 4, .always⟩] [1, 2, 40])
 (.cond (.tmp 40)
 (.seq (.ops [⟨some 41, .fieldAddr 29 (.tmp 1) 3, 0, .always⟩,
 ⟨some 42, .load 27 (.tmp 41), 27, .always⟩,
 ⟨some 43, .indexAddr 27 (.tmp 42) (.const (.int .i64 0)), 0, .always⟩,
 ⟨some 44, .load 29 (.tmp 43), 29, .always⟩,
 ⟨some 45, .call { callee := .value (.func 78), args := #[.tmp 44], argTypes := #[29] }, 44, .always⟩,
 ⟨some 46, .extract (.tmp 45) 0, 25, .always⟩,
 ⟨some 47, .extract (.tmp 45) 1, 43, .always⟩,
 ⟨none, .store 25 (.tmp 2) (.tmp 46), 0, .always⟩,
 ⟨some 3, .assign (.tmp 47), 43, .always⟩] [2, 3])
 (.ret))
 (.skip)))
 (.seq (.ops [⟨some 49, .fieldAddr 29 (.tmp 1) 3, 0, .always⟩,
 ⟨some 50, .load 27 (.tmp 49), 27, .always⟩,
 ⟨some 51, .indexAddr 27 (.tmp 50) (.const (.int .i64 0)), 0, .always⟩,
 ⟨some 52, .load 29 (.tmp 51), 29, .always⟩,
 ⟨some 53, .call { callee := .value (.func 78), args := #[.tmp 52], argTypes := #[29] }, 44, .always⟩,
 ⟨some 48, .move (.tmp 53), 44, .always⟩,
 ⟨some 54, .extract (.tmp 48) 0, 25, .always⟩,
 ⟨some 55, .extract (.tmp 48) 1, 43, .always⟩,
 ⟨some 4, .alloc 25, 0, .always⟩,
 ⟨none, .store 25 (.tmp 4) (.tmp 54), 0, .always⟩,
 ⟨some 5, .assign (.tmp 55), 43, .always⟩] [1, 2, 4, 5])
 (.seq (.seq (.ops [⟨some 56, .move (.tmp 5), 43, .always⟩,
 ⟨some 57, .binOp .neq 43 (.tmp 56) (.const (.int .i64 0)) 43, 4, .always⟩] [1, 2, 4, 5, 57])
 (.cond (.tmp 57)
 (.seq (.ops [⟨some 58, .build 25 #[], 25, .always⟩,
 ⟨some 59, .move (.tmp 5), 43, .always⟩,
 ⟨none, .store 25 (.tmp 2) (.tmp 58), 0, .always⟩,
 ⟨some 3, .assign (.tmp 59), 43, .always⟩] [2, 3])
 (.ret))
 (.skip)))
 (.seq (.ops [⟨some 61, .fieldAddr 29 (.tmp 1) 3, 0, .always⟩,
 ⟨some 62, .load 27 (.tmp 61), 27, .always⟩,
 ⟨some 63, .indexAddr 27 (.tmp 62) (.const (.int .i64 1)), 0, .always⟩,
 ⟨some 64, .load 29 (.tmp 63), 29, .always⟩,
 ⟨some 65, .call { callee := .value (.func 78), args := #[.tmp 64], argTypes := #[29] }, 44, .always⟩,
 ⟨some 60, .move (.tmp 65), 44, .always⟩,
 ⟨some 66, .extract (.tmp 60) 0, 25, .always⟩,
 ⟨some 67, .extract (.tmp 60) 1, 43, .always⟩,
 ⟨some 6, .alloc 25, 0, .always⟩,
 ⟨none, .store 25 (.tmp 6) (.tmp 66), 0, .always⟩,
 ⟨some 5, .assign (.tmp 67), 43, .always⟩] [2, 4, 5, 6])
 (.seq (.ops [⟨some 68, .load 25 (.tmp 4), 25, .always⟩,
 ⟨some 69, .load 25 (.tmp 6), 25, .always⟩,
 ⟨some 70, .call { callee := .value (.func 43), args := #[.tmp 68, .tmp 69], argTypes := #[25, 25] }, 25, .always⟩,
 ⟨some 71, .move (.tmp 5), 43, .always⟩,
 ⟨some 72, .call { callee := .value (.func 130), args := #[.tmp 70, .tmp 71], argTypes := #[25, 43] }, 44, .always⟩,
 ⟨some 73, .extract (.tmp 72) 0, 25, .always⟩,
 ⟨some 74, .extract (.tmp 72) 1, 43, .always⟩,
 ⟨none, .store 25 (.tmp 2) (.tmp 73), 0, .always⟩,
 ⟨some 3, .assign (.tmp 74), 43, .always⟩] [2, 3])
 (.ret)))))))
 (.seq (.ops [⟨some 76, .binOp .eql 3 (.tmp 19) (.const (.int .i64 3)) 3, 4, .always⟩,
 ⟨some 75, .assign (.tmp 76), 4, .always⟩] [1, 2, 19, 75])
 (.cond (.tmp 75)
 (.seq (.seq (.ops [⟨some 77, .fieldAddr 29 (.tmp 1) 3, 0, .always⟩,
 ⟨some 78, .load 27 (.tmp 77), 27, .always⟩,
 ⟨some 79, .indexAddr 27 (.tmp 78) (.const (.int .i64 0)), 0, .always⟩,
 ⟨some 80, .load 29 (.tmp 79), 29, .always⟩,
 ⟨some 81, .call { callee := .value (.func 81), args := #[.tmp 80], argTypes := #[29] }, 4, .always⟩,
 ⟨some 82, .unOp .not 4 (.tmp 81), 4, .always⟩] [1, 2, 82])
 (.cond (.tmp 82)
 (.seq (.ops [⟨some 83, .fieldAddr 29 (.tmp 1) 3, 0, .always⟩,
 ⟨some 84, .load 27 (.tmp 83), 27, .always⟩,
 ⟨some 85, .indexAddr 27 (.tmp 84) (.const (.int .i64 1)), 0, .always⟩,
 ⟨some 86, .load 29 (.tmp 85), 29, .always⟩,
 ⟨some 87, .call { callee := .value (.func 78), args := #[.tmp 86], argTypes := #[29] }, 44, .always⟩,
 ⟨some 88, .extract (.tmp 87) 0, 25, .always⟩,
 ⟨some 89, .extract (.tmp 87) 1, 43, .always⟩,
 ⟨none, .store 25 (.tmp 2) (.tmp 88), 0, .always⟩,
 ⟨some 3, .assign (.tmp 89), 43, .always⟩] [2, 3])
 (.ret))
 (.skip)))
 (.seq (.ops [⟨some 91, .fieldAddr 29 (.tmp 1) 3, 0, .always⟩,
 ⟨some 92, .load 27 (.tmp 91), 27, .always⟩,
 ⟨some 93, .indexAddr 27 (.tmp 92) (.const (.int .i64 0)), 0, .always⟩,
 ⟨some 94, .load 29 (.tmp 93), 29, .always⟩,
 ⟨some 95, .call { callee := .value (.func 78), args := #[.tmp 94], argTypes := #[29] }, 44, .always⟩,
 ⟨some 90, .move (.tmp 95), 44, .always⟩,
 ⟨some 96, .extract (.tmp 90) 0, 25, .always⟩,
 ⟨some 97, .extract (.tmp 90) 1, 43, .always⟩,
 ⟨some 7, .alloc 25, 0, .always⟩,
 ⟨none, .store 25 (.tmp 7) (.tmp 96), 0, .always⟩,
 ⟨some 8, .assign (.tmp 97), 43, .always⟩] [1, 2, 7, 8])
 (.seq (.seq (.ops [⟨some 98, .move (.tmp 8), 43, .always⟩,
 ⟨some 99, .binOp .neq 43 (.tmp 98) (.const (.int .i64 0)) 43, 4, .always⟩] [1, 2, 7, 8, 99])
 (.cond (.tmp 99)
 (.seq (.ops [⟨some 100, .build 25 #[], 25, .always⟩,
 ⟨some 101, .move (.tmp 8), 43, .always⟩,
 ⟨none, .store 25 (.tmp 2) (.tmp 100), 0, .always⟩,
 ⟨some 3, .assign (.tmp 101), 43, .always⟩] [2, 3])
 (.ret))
 (.skip)))
 (.seq (.ops [⟨some 103, .fieldAddr 29 (.tmp 1) 3, 0, .always⟩,
 ⟨some 104, .load 27 (.tmp 103), 27, .always⟩,
 ⟨some 105, .indexAddr 27 (.tmp 104) (.const (.int .i64 1)), 0, .always⟩,
 ⟨some 106, .load 29 (.tmp 105), 29, .always⟩,
 ⟨some 107, .call { callee := .value (.func 78), args := #[.tmp 106], argTypes := #[29] }, 44, .always⟩,
 ⟨some 102, .move (.tmp 107), 44, .always⟩,
 ⟨some 108, .extract (.tmp 102) 0, 25, .always⟩,
 ⟨some 109, .extract (.tmp 102) 1, 43, .always⟩,
 ⟨some 9, .alloc 25, 0, .always⟩,
 ⟨none, .store 25 (.tmp 9) (.tmp 108), 0, .always⟩,
 ⟨some 8, .assign (.tmp 109), 43, .always⟩] [2, 7, 8, 9])
 (.seq (.ops [⟨some 110, .load 25 (.tmp 7), 25, .always⟩,
 ⟨some 111, .load 25 (.tmp 9), 25, .always⟩,
 ⟨some 112, .call { callee := .value (.func 41), args := #[.tmp 110, .tmp 111], argTypes := #[25, 25] }, 25, .always⟩,
 ⟨some 113, .move (.tmp 8), 43, .always⟩,
 ⟨some 114, .call { callee := .value (.func 130), args := #[.tmp 112, .tmp 113], argTypes := #[25, 43] }, 44, .always⟩,
 ⟨some 115, .extract (.tmp 114) 0, 25, .always⟩,
 ⟨some 116, .extract (.tmp 114) 1, 43, .always⟩,
 ⟨none, .store 25 (.tmp 2) (.tmp 115), 0, .always⟩,
 ⟨some 3, .assign (.tmp 116), 43, .always⟩] [2, 3])
 (.ret))))))
 (.seq (.ops [⟨some 118, .binOp .eql 3 (.tmp 19) (.const (.int .i64 4)) 3, 4, .always⟩,
 ⟨some 117, .assign (.tmp 118), 4, .always⟩] [1, 2, 19, 117])
 (.cond (.tmp 117)
 (.seq (.ops [⟨some 120, .fieldAddr 29 (.tmp 1) 3, 0, .always⟩,
 ⟨some 121, .load 27 (.tmp 120), 27, .always⟩,
 ⟨some 122, .indexAddr 27 (.tmp 121) (.const (.int .i64 0)), 0, .always⟩,
 ⟨some 123, .load 29 (.tmp 122), 29, .always⟩,
 ⟨some 124, .call { callee := .value (.func 78), args := #[.tmp 123], argTypes := #[29] }, 44, .always⟩,
 ⟨some 119, .move (.tmp 124), 44, .always⟩,
 ⟨some 125, .extract (.tmp 119) 0, 25, .always⟩,
 ⟨some 126, .extract (.tmp 119) 1, 43, .always⟩,
 ⟨some 10, .alloc 25, 0, .always⟩,
 ⟨none, .store 25 (.tmp 10) (.tmp 125), 0, .always⟩,
 ⟨some 11, .assign (.tmp 126), 43, .always⟩] [1, 2, 10, 11])
 (.seq (.ops [⟨some 127, .fieldAddr 29 (.tmp 1) 1, 0, .always⟩,
 ⟨some 128, .load 25 (.tmp 127), 25, .always⟩,
 ⟨some 129, .load 25 (.tmp 10), 25, .always⟩,
 ⟨some 130, .call { callee := .value (.func 41), args := #[.tmp 128, .tmp 129], argTypes := #[25, 25] }, 25, .always⟩,
 ⟨some 131, .move (.tmp 11), 43, .always⟩,
 ⟨some 132, .call { callee := .value (.func 130), args := #[.tmp 130, .tmp 131], argTypes := #[25, 43] }, 44, .always⟩,
 ⟨some 133, .extract (.tmp 132) 0, 25, .always⟩,
 ⟨some 134, .extract (.tmp 132) 1, 43, .always⟩,
 ⟨none, .store 25 (.tmp 2) (.tmp 133), 0, .always⟩,
 ⟨some 3, .assign (.tmp 134), 43, .always⟩] [2, 3])
 (.ret)))
 (.seq (.ops [⟨some 136, .binOp .eql 3 (.tmp 19) (.const (.int .i64 5)) 3, 4, .always⟩,
 ⟨some 135, .assign (.tmp 136), 4, .always⟩] [1, 2, 135])
 (.cond (.tmp 135)
 (.seq (.seq (.ops [⟨some 137, .fieldAddr 29 (.tmp 1) 3, 0, .always⟩,
 ⟨some 138, .load 27 (.tmp 137), 27, .always⟩,
 ⟨some 139, .indexAddr 27 (.tmp 138) (.const (.int .i64 0)), 0, .always⟩,
 ⟨some 140, .load 29 (.tmp 139), 29, .always⟩,
 ⟨some 141, .call { callee := .value (.func 81), args := #[.tmp 140], argTypes := #[29] }, 4, .always⟩,
 ⟨some 142, .unOp .not 4 (.tmp 141), 4, .always⟩] [1, 2, 142])
 (.cond (.tmp 142)
 (.seq (.ops [⟨some 143, .fieldAddr 29 (.tmp 1) 1, 0, .always⟩,
 ⟨some 144, .load 25 (.tmp 143), 25, .always⟩,
 ⟨none, .store 25 (.tmp 2) (.tmp 144), 0, .always⟩,
 ⟨some 3, .assign (.const (.int .i64 0)), 43, .always⟩] [2, 3])
 (.ret))
 (.skip)))
 (.seq (.ops [⟨some 146, .fieldAddr 29 (.tmp 1) 3, 0, .always⟩,
 ⟨some 147, .load 27 (.tmp 146), 27, .always⟩,
 ⟨some 148, .indexAddr 27 (.tmp 147) (.const (.int .i64 0)), 0, .always⟩,
 ⟨some 149, .load 29 (.tmp 148), 29, .always⟩,
 ⟨some 150, .call { callee := .value (.func 78), args := #[.tmp 149], argTypes := #[29] }, 44, .always⟩,
 ⟨some 145, .move (.tmp 150), 44, .always⟩,
 ⟨some 151, .extract (.tmp 145) 0, 25, .always⟩,
 ⟨some 152, .extract (.tmp 145) 1, 43, .always⟩,
 ⟨some 12, .alloc 25, 0, .always⟩,
 ⟨none, .store 25 (.tmp 12) (.tmp 151), 0, .always⟩,
 ⟨some 13, .assign (.tmp 152), 43, .always⟩] [1, 2, 12, 13])
 (.seq (.ops [⟨some 153, .fieldAddr 29 (.tmp 1) 1, 0, .always⟩,
 ⟨some 154, .load 25 (.tmp 153), 25, .always⟩,
 ⟨some 155, .load 25 (.tmp 12), 25, .always⟩,
 ⟨some 156, .call { callee := .value (.func 43), args := #[.tmp 154, .tmp 155], argTypes := #[25, 25] }, 25, .always⟩,
 ⟨some 157, .move (.tmp 13), 43, .always⟩,
 ⟨some 158, .call { callee := .value (.func 130), args := #[.tmp 156, .tmp 157], argTypes := #[25, 43] }, 44, .always⟩,
 ⟨some 159, .extract (.tmp 158) 0, 25, .always⟩,
 ⟨some 160, .extract (.tmp 158) 1, 43, .always⟩,
 ⟨none, .store 25 (.tmp 2) (.tmp 159), 0, .always⟩,
 ⟨some 3, .assign (.tmp 160), 43, .always⟩] [2, 3])
 (.ret))))
 (.skip)))))))))))
 (.seq (.ops [⟨some 161, .fieldAddr 29 (.tmp 1) 3, 0, .always⟩,
 ⟨some 162, .load 27 (.tmp 161), 27, .always⟩,
 ⟨some 163, .indexAddr 27 (.tmp 162) (.const (.int .i64 0)), 0, .always⟩,
 ⟨some 164, .load 29 (.tmp 163), 29, .always⟩,
 ⟨some 165, .call { callee := .value (.func 78), args := #[.tmp 164], argTypes := #[29] }, 44, .always⟩,
 ⟨some 166, .extract (.tmp 165) 0, 25, .always⟩,
 ⟨some 167, .extract (.tmp 165) 1, 43, .always⟩,
 ⟨none, .store 25 (.tmp 2) (.tmp 166), 0, .always⟩,
 ⟨some 3, .assign (.tmp 167), 43, .always⟩] [2, 3])
 (.ret))))
theorem w78 {args : List PV} {σ σ' : List Frm} {r : Ret} (hr : ∀ p, r = .val p → erV p = p) (h : wpP cfg s78 (QEndP cfg [.cell 2 25, .tmp 3] σ' r) ⟨initEnv args, fun _ => [], σ, ⟨fun _ => false, 0⟩⟩) : CallsV cfg 78 args σ r σ' :=
 callsV_of_p follows cfgT a78 (fn := Tryd.f78) (c := Tryd.f78.body.getD .skip) (by kernel_rfl) (by kernel_rfl) (by kernel_rfl) (by kernel_rfl) (by kernel_rfl) (sc := s78) (by kernel_rfl) [.cell 2 25, .tmp 3] (by kernel_rfl) hr h
def a25 : List Ann := [⟨[1, 2], [], []⟩,
 ⟨[1, 2, 4], [], []⟩,
 ⟨[1, 2, 4, 8], [], []⟩,
 ⟨[2, 3], [], []⟩,
 ⟨[2, 3], [], []⟩]
def s25 : SC := .seq (.ops [⟨some 1, .box 29 (.tmp 0), 0, .always⟩,
 ⟨some 2, .alloc 25, 0, .always⟩,
 ⟨some 3, .assign (.const (.int .i64 0)), 43, .always⟩] [1, 2])
 (.seq (.seq (.ops [⟨some 5, .load 29 (.tmp 1), 29, .always⟩,
 ⟨some 6, .call { callee := .value (.func 77), args := #[.tmp 5], argTypes := #[29] }, 43, .always⟩,
 ⟨some 4, .assign (.tmp 6), 43, .always⟩] [1, 2, 4])
 (.seq (.ops [⟨some 7, .move (.tmp 4), 43, .always⟩,
 ⟨some 8, .binOp .neq 43 (.tmp 7) (.const (.int .i64 0)) 43, 4, .always⟩] [1, 2, 4, 8])
 (.cond (.tmp 8)
 (.seq (.ops [⟨some 9, .build 25 #[], 25, .always⟩,
 ⟨some 10, .move (.tmp 4), 43, .always⟩,
 ⟨none, .store 25 (.tmp 2) (.tmp 9), 0, .always⟩,
 ⟨some 3, .assign (.tmp 10), 43, .always⟩] [2, 3])
 (.ret))
 (.skip))))
 (.seq (.ops [⟨some 11, .load 29 (.tmp 1), 29, .always⟩,
 ⟨some 12, .call { callee := .value (.func 78), args := #[.tmp 11], argTypes := #[29] }, 44, .always⟩,
 ⟨some 13, .extract (.tmp 12) 0, 25, .always⟩,
 ⟨some 14, .extract (.tmp 12) 1, 43, .always⟩,
 ⟨none, .store 25 (.tmp 2) (.tmp 13), 0, .always⟩,
 ⟨some 3, .assign (.tmp 14), 43, .always⟩] [2, 3])
 (.ret)))
theorem w25 {args : List PV} {σ σ' : List Frm} {r : Ret} (hr : ∀ p, r = .val p → erV p = p) (h : wpP cfg s25 (QEndP cfg [.cell 2 25, .tmp 3] σ' r) ⟨initEnv args, fun _ => [], σ, ⟨fun _ => false, 0⟩⟩) : CallsV cfg 25 args σ r σ' :=
 callsV_of_p follows cfgT a25 (fn := Tryd.f25) (c := Tryd.f25.body.getD .skip) (by kernel_rfl) (by kernel_rfl) (by kernel_rfl) (by kernel_rfl) (by kernel_rfl) (sc := s25) (by kernel_rfl) [.cell 2 25, .tmp 3] (by kernel_rfl) hr h
def a80 : List Ann := [⟨[0], [], []⟩,
 ⟨[0, 8], [], []⟩,
 ⟨[2], [], []⟩,
 ⟨[9, 10, 11], [], []⟩,
 ⟨[9, 10, 11, 12], [], []⟩,
 ⟨[4, 9, 10, 11], [], []⟩,
 ⟨[5, 9, 10, 11], [], []⟩,
 ⟨[5, 9, 10, 11, 18], [], []⟩,
 ⟨[2], [], []⟩,
 ⟨[9, 10, 11], [], []⟩,
 ⟨[2], [], []⟩]
def s80 : SC := .seq (.ops [⟨some 2, .assign (.const (.int .i64 0)), 43, .always⟩] [0])
 (.seq (.seq (.ops [⟨some 6, .move (.tmp 0), 23, .always⟩,
 ⟨some 7, .call { callee := .builtin .len, args := #[.tmp 6], argTypes := #[23] }, 3, .always⟩,
 ⟨some 8, .binOp .gtr 3 (.tmp 7) (.const (.int .i64 16)) 3, 4, .always⟩] [0, 8])
 (.cond (.tmp 8)
 (.seq (.ops [⟨some 2, .assign (.const (.int .i64 3)), 43, .always⟩] [2])
 (.ret))
 (.skip)))
 (.seq (.seq (.ops [⟨some 9, .move (.tmp 0), 23, .always⟩,
 ⟨some 10, .call { callee := .builtin .len, args := #[.tmp 9], argTypes := #[23] }, 3, .always⟩,
 ⟨some 11, .move (.const (.int .i64 0)), 3, .always⟩] [9, 10, 11])
 (.block 0
 (.loop
 (.seq (.ops [⟨some 12, .binOp .lss 3 (.tmp 11) (.tmp 10) 3, 0, .always⟩] [9, 10, 11, 12])
 (.seq (.cond (.tmp 12)
 (.skip)
 (.exit 0))
 (.seq (.block 1
 (.seq (.ops [⟨some 13, .indexAddr 23 (.tmp 9) (.tmp 11), 0, .always⟩,
 ⟨some 14, .load 25 (.tmp 13), 25, .always⟩,
 ⟨some 4, .alloc 25, 0, .always⟩,
 ⟨none, .store 25 (.tmp 4) (.tmp 14), 0, .always⟩] [4, 9, 10, 11])
 (.seq (.ops [⟨some 15, .load 25 (.tmp 4), 25, .always⟩,
 ⟨some 16, .call { callee := .value (.func 132), args := #[.tmp 15], argTypes := #[25] }, 43, .always⟩,
 ⟨some 5, .assign (.tmp 16), 43, .always⟩] [5, 9, 10, 11])
 (.seq (.ops [⟨some 17, .move (.tmp 5), 43, .always⟩,
 ⟨some 18, .binOp .neq 43 (.tmp 17) (.const (.int .i64 0)) 43, 4, .always⟩] [5, 9, 10, 11, 18])
 (.cond (.tmp 18)
 (.seq (.ops [⟨some 19, .move (.tmp 5), 43, .always⟩,
 ⟨some 2, .assign (.tmp 19), 43, .always⟩] [2])
 (.ret))
 (.skip))))))
 (.ops [⟨some 20, .binOp .add 3 (.tmp 11) (.const (.int .i64 1)) 3, 3, .always⟩,
 ⟨some 11, .move (.tmp 20), 3, .always⟩] [9, 10, 11])))))))
 (.seq (.ops [⟨some 2, .assign (.const (.int .i64 0)), 43, .always⟩] [2])
 (.ret))))
theorem w80 {args : List PV} {σ σ' : List Frm} {r : Ret} (hr : ∀ p, r = .val p → erV p = p) (h : wpP cfg s80 (QEndP cfg [.tmp 2] σ' r) ⟨initEnv args, fun _ => [], σ, ⟨fun _ => false, 0⟩⟩) : CallsV cfg 80 args σ r σ' :=
 callsV_of_p follows cfgT a80 (fn := Tryd.f80) (c := Tryd.f80.body.getD .skip) (by kernel_rfl) (by kernel_rfl) (by kernel_rfl) (by kernel_rfl) (by kernel_rfl) (sc := s80) (by kernel_rfl) [.tmp 2] (by kernel_rfl) hr h
def a28 : List Ann := [⟨[1], [], []⟩,
 ⟨[1, 4], [], []⟩,
 ⟨[1, 4, 13], [], []⟩,
 ⟨[2, 3], [], []⟩,
 ⟨[1, 18], [], []⟩,
 ⟨[2, 3], [], []⟩,
 ⟨[1, 5], [], []⟩,
 ⟨[1, 5, 6], [], []⟩,
 ⟨[1, 5, 6, 26], [], []⟩,
 ⟨[1, 5, 6], [], []⟩,
 ⟨[1, 5, 6, 7, 8], [], []⟩,
 ⟨[1, 5, 6, 7, 8, 39], [], []⟩,
 ⟨[2, 3], [], []⟩,
 ⟨[1, 5, 6, 7, 46], [], []⟩,
 ⟨[1, 5, 6], [], []⟩,
 ⟨[2, 3], [], []⟩]
def s28 : SC := .seq (.ops [⟨some 1, .box 31 (.tmp 0), 0, .always⟩,
 ⟨some 2, .assign (.const (.slice none 0 0)), 23, .always⟩,
 ⟨some 3, .assign (.const (.int .i64 0)), 43, .always⟩] [1])
 (.seq (.seq (.ops [⟨some 9, .fieldAddr 31 (.tmp 1) 0, 0, .always⟩,
 ⟨some 10, .load 23 (.tmp 9), 23, .always⟩,
 ⟨some 11, .call { callee := .value (.func 80), args := #[.tmp 10], argTypes := #[23] }, 43, .always⟩,
 ⟨some 4, .assign (.tmp 11), 43, .always⟩] [1, 4])
 (.seq (.ops [⟨some 12, .move (.tmp 4), 43, .always⟩,
 ⟨some 13, .binOp .neq 43 (.tmp 12) (.const (.int .i64 0)) 43, 4, .always⟩] [1, 4, 13])
 (.cond (.tmp 13)
 (.seq (.ops [⟨some 14, .move (.tmp 4), 43, .always⟩,
 ⟨some 2, .assign (.const (.slice none 0 0)), 23, .always⟩,
 ⟨some 3, .assign (.tmp 14), 43, .always⟩] [2, 3])
 (.ret))
 (.skip))))
 (.seq (.seq (.ops [⟨some 15, .fieldAddr 31 (.tmp 1) 1, 0, .always⟩,
 ⟨some 16, .load 27 (.tmp 15), 27, .always⟩,
 ⟨some 17, .call { callee := .builtin .len, args := #[.tmp 16], argTypes := #[27] }, 3, .always⟩,
 ⟨some 18, .binOp .gtr 3 (.tmp 17) (.const (.int .i64 16)) 3, 4, .always⟩] [1, 18])
 (.cond (.tmp 18)
 (.seq (.ops [⟨some 2, .assign (.const (.slice none 0 0)), 23, .always⟩,
 ⟨some 3, .assign (.const (.int .i64 3)), 43, .always⟩] [2, 3])
 (.ret))
 (.skip)))
 (.seq (.ops [⟨some 19, .fieldAddr 31 (.tmp 1) 0, 0, .always⟩,
 ⟨some 20, .load 23 (.tmp 19), 23, .always⟩,
 ⟨some 21, .call { callee := .builtin .append, args := #[.const (.slice none 0 0), .tmp 20], argTypes := #[23, 23] }, 23, .always⟩,
 ⟨some 5, .assign (.tmp 21), 23, .always⟩] [1, 5])
 (.seq (.seq (.ops [⟨some 6, .assign (.const (.int .i64 0)), 3, .always⟩] [1, 5, 6])
 (.block 0
 (.loop
 (.seq (.seq (.ops [⟨some 22, .move (.tmp 6), 3, .always⟩,
 ⟨some 23, .fieldAddr 31 (.tmp 1) 1, 0, .always⟩,
 ⟨some 24, .load 27 (.tmp 23), 27, .always⟩,
 ⟨some 25, .call { callee := .builtin .len, args := #[.tmp 24], argTypes := #[27] }, 3, .always⟩,
 ⟨some 26, .binOp .lss 3 (.tmp 22) (.tmp 25) 3, 4, .always⟩] [1, 5, 6, 26])
 (.cond (.tmp 26)
 (.skip)
 (.exit 0)))
 (.seq (.block 1
 (.seq (.ops [⟨some 30, .fieldAddr 31 (.tmp 1) 1, 0, .always⟩,
 ⟨some 31, .load 27 (.tmp 30), 27, .always⟩,
 ⟨some 32, .move (.tmp 6), 3, .always⟩,
 ⟨some 33, .indexAddr 27 (.tmp 31) (.tmp 32), 0, .always⟩,
 ⟨some 34, .load 29 (.tmp 33), 29, .always⟩,
 ⟨some 35, .call { callee := .value (.func 25), args := #[.tmp 34], argTypes := #[29] }, 44, .always⟩,
 ⟨some 29, .move (.tmp 35), 44, .always⟩,
 ⟨some 36, .extract (.tmp 29) 0, 25, .always⟩,
 ⟨some 37, .extract (.tmp 29) 1, 43, .always⟩,
 ⟨some 7, .alloc 25, 0, .always⟩,
 ⟨none, .store 25 (.tmp 7) (.tmp 36), 0, .always⟩,
 ⟨some 8, .assign (.tmp 37), 43, .always⟩] [1, 5, 6, 7, 8])
 (.seq (.seq (.ops [⟨some 38, .move (.tmp 8), 43, .always⟩,
 ⟨some 39, .binOp .neq 43 (.tmp 38) (.const (.int .i64 0)) 43, 4, .always⟩] [1, 5, 6, 7, 8, 39])
 (.cond (.tmp 39)
 (.seq (.ops [⟨some 40, .move (.tmp 8), 43, .always⟩,
 ⟨some 2, .assign (.const (.slice none 0 0)), 23, .always⟩,
 ⟨some 3, .assign (.tmp 40), 43, .always⟩] [2, 3])
 (.ret))
 (.skip)))
 (.seq (.ops [⟨some 41, .fieldAddr 31 (.tmp 1) 1, 0, .always⟩,
 ⟨some 42, .load 27 (.tmp 41), 27, .always⟩,
 ⟨some 43, .move (.tmp 6), 3, .always⟩,
 ⟨some 44, .indexAddr 27 (.tmp 42) (.tmp 43), 0, .always⟩,
 ⟨some 45, .load 29 (.tmp 44), 29, .always⟩,
 ⟨some 46, .call { callee := .value (.func 81), args := #[.tmp 45], argTypes := #[29] }, 4, .always⟩] [1, 5, 6, 7, 46])
 (.cond (.tmp 46)
 (.ops [⟨some 47, .move (.tmp 5), 23, .always⟩,
 ⟨some 48, .load 25 (.tmp 7), 25, .always⟩,
 ⟨some 49, .buildSlice 23 1 #[(0, .tmp 48)], 23, .always⟩,
 ⟨some 50, .call { callee := .builtin .append, args := #[.tmp 47, .tmp 49], argTypes := #[23, 23] }, 23, .always⟩,
 ⟨some 5, .assign (.tmp 50), 23, .always⟩] [1, 5, 6])
 (.skip))))))
 (.ops [⟨some 27, .move (.tmp 6), 3, .always⟩,
 ⟨some 28, .binOp .add 3 (.tmp 27) (.const (.int .i64 1)) 3, 3, .always⟩,
 ⟨some 6, .assign (.tmp 28), 3, .always⟩] [1, 5, 6]))))))
 (.seq (.ops [⟨some 51, .move (.tmp 5), 23, .always⟩,
 ⟨some 2, .assign (.tmp 51), 23, .always⟩,
 ⟨some 3, .assign (.const (.int .i64 0)), 43, .always⟩] [2, 3])
 (.ret))))))
theorem w28 {args : List PV} {σ σ' : List Frm} {r : Ret} (hr : ∀ p, r = .val p → erV p = p) (h : wpP cfg s28 (QEndP cfg [.tmp 2, .tmp 3] σ' r) ⟨initEnv args, fun _ => [], σ, ⟨fun _ => false, 0⟩⟩) : CallsV cfg 28 args σ r σ' :=
 callsV_of_p follows cfgT a28 (fn := Tryd.f28) (c := Tryd.f28.body.getD .skip) (by kernel_rfl) (by kernel_rfl) (by kernel_rfl) (by kernel_rfl) (by kernel_rfl) (sc := s28) (by kernel_rfl) [.tmp 2, .tmp 3] (by kernel_rfl) hr h
def a30 : List Ann := [⟨[1], [], []⟩,
 ⟨[1, 5], [], []⟩,
 ⟨[1, 5, 15], [], []⟩,
 ⟨[2, 3], [], []⟩,
 ⟨[1, 6], [], []⟩,
 ⟨[1, 6, 7], [], []⟩,
 ⟨[1, 6, 7, 8], [], []⟩,
 ⟨[1, 6, 7, 8, 24], [], []⟩,
 ⟨[1, 6, 7, 8], [], []⟩,
 ⟨[1, 6, 7, 8, 32], [], []⟩,
 ⟨[1, 6, 7, 8], [], []⟩,
 ⟨[1, 6, 7, 8], [], []⟩,
 ⟨[1, 6, 7, 8], [], []⟩,
 ⟨[2, 3], [], []⟩]
def s30 : SC := .seq (.ops [⟨some 1, .box 31 (.tmp 0), 0, .always⟩,
 ⟨some 2, .assign (.const (.slice none 0 0)), 22, .always⟩,
 ⟨some 3, .assign (.const (.int .i64 0)), 43, .always⟩] [1])
 (.seq (.seq (.ops [⟨some 10, .load 31 (.tmp 1), 31, .always⟩,
 ⟨some 11, .call { callee := .value (.func 28), args := #[.tmp 10], argTypes := #[31] }, 48, .always⟩,
 ⟨some 9, .move (.tmp 11), 48, .always⟩,
 ⟨some 12, .extract (.tmp 9) 0, 23, .always⟩,
 ⟨some 13, .extract (.tmp 9) 1, 43, .always⟩,
 ⟨some 4, .assign (.tmp 12), 23, .always⟩,
 ⟨some 5, .assign (.tmp 13), 43, .always⟩] [1, 5])
 (.seq (.ops [⟨some 14, .move (.tmp 5), 43, .always⟩,
 ⟨some 15, .binOp .neq 43 (.tmp 14) (.const (.int .i64 0)) 43, 4, .always⟩] [1, 5, 15])
 (.cond (.tmp 15)
 (.seq (.ops [⟨some 16, .move (.tmp 5), 43, .always⟩,
 ⟨some 2, .assign (.const (.slice none 0 0)), 22, .always⟩,
 ⟨some 3, .assign (.tmp 16), 43, .always⟩] [2, 3])
 (.ret))
 (.skip))))
 (.seq (.ops [⟨some 6, .assign (.const (.slice none 0 0)), 22, .always⟩] [1, 6])
 (.seq (.ops [⟨some 17, .fieldAddr 31 (.tmp 1) 0, 0, .always⟩,
 ⟨some 18, .load 23 (.tmp 17), 23, .always⟩,
 ⟨some 19, .call { callee := .builtin .len, args := #[.tmp 18], argTypes := #[23] }, 3, .always⟩,
 ⟨some 7, .assign (.tmp 19), 3, .always⟩] [1, 6, 7])
 (.seq (.seq (.ops [⟨some 8, .assign (.const (.int .i64 0)), 3, .always⟩] [1, 6, 7, 8])
 (.block 0
 (.loop
 (.seq (.seq (.ops [⟨some 20, .move (.tmp 8), 3, .always⟩,
 ⟨some 21, .fieldAddr 31 (.tmp 1) 1, 0, .always⟩,
 ⟨some 22, .load 27 (.tmp 21), 27, .always⟩,
 ⟨some 23, .call { callee := .builtin .len, args := #[.tmp 22], argTypes := #[27] }, 3, .always⟩,
 ⟨some 24, .binOp .lss 3 (.tmp 20) (.tmp 23) 3, 4, .always⟩] [1, 6, 7, 8, 24])
 (.cond (.tmp 24)
 (.skip)
 (.exit 0)))
 (.seq (.block 1
 (.seq (.ops [⟨some 27, .fieldAddr 31 (.tmp 1) 1, 0, .always⟩,
 ⟨some 28, .load 27 (.tmp 27), 27, .always⟩,
 ⟨some 29, .move (.tmp 8), 3, .always⟩,
 ⟨some 30, .indexAddr 27 (.tmp 28) (.tmp 29), 0, .always⟩,
 ⟨some 31, .load 29 (.tmp 30), 29, .always⟩,
 ⟨some 32, .call { callee := .value (.func 81), args := #[.tmp 31], argTypes := #[29] }, 4, .always⟩] [1, 6, 7, 8, 32])
 (.cond (.tmp 32)
 (.seq (.ops [⟨some 33, .move (.tmp 6), 22, .always⟩,
 ⟨some 34, .move (.tmp 7), 3, .always⟩,
 ⟨some 35, .buildSlice 22 1 #[(0, .tmp 34)], 22, .always⟩,
 ⟨some 36, .call { callee := .builtin .append, args := #[.tmp 33, .tmp 35], argTypes := #[22, 22] }, 22, .always⟩,
 ⟨some 6, .assign (.tmp 36), 22, .always⟩] [1, 6, 7, 8])
 (.ops [⟨some 37, .move (.tmp 7), 3, .always⟩,
 ⟨some 38, .binOp .add 3 (.tmp 37) (.const (.int .i64 1)) 3, 3, .always⟩,
 ⟨some 7, .assign (.tmp 38), 3, .always⟩] [1, 6, 7, 8]))
 (.ops [⟨some 39, .move (.tmp 6), 22, .always⟩,
 ⟨some 40, .buildSlice 22 1 #[(0, .const (.int .i64 (-1)))], 22, .always⟩,
 ⟨some 41, .call { callee := .builtin .append, args := #[.tmp 39, .tmp 40], argTypes := #[22, 22] }, 22, .always⟩,
 ⟨some 6, .assign (.tmp 41), 22, .always⟩] [1, 6, 7, 8]))))
 (.ops [⟨some 25, .move (.tmp 8), 3, .always⟩,
 ⟨some 26, .binOp .add 3 (.tmp 25) (.const (.int .i64 1)) 3, 3, .always⟩,
 ⟨some 8, .assign (.tmp 26), 3, .always⟩] [1, 6, 7, 8]))))))
 (.seq (.ops [⟨some 42, .move (.tmp 6), 22, .always⟩,
 ⟨some 2, .assign (.tmp 42), 22, .always⟩,
 ⟨some 3, .assign (.const (.int .i64 0)), 43, .always⟩] [2, 3])
 (.ret))))))
theorem w30 {args : List PV} {σ σ' : List Frm} {r : Ret} (hr : ∀ p, r = .val p → erV p = p) (h : wpP cfg s30 (QEndP cfg [.tmp 2, .tmp 3] σ' r) ⟨initEnv args, fun _ => [], σ, ⟨fun _ => false, 0⟩⟩) : CallsV cfg 30 args σ r σ' :=
 callsV_of_p follows cfgT a30 (fn := Tryd.f30) (c := Tryd.f30.body.getD .skip) (by kernel_rfl) (by kernel_rfl) (by kernel_rfl) (by kernel_rfl) (by kernel_rfl) (sc := s30) (by kernel_rfl) [.tmp 2, .tmp 3] (by kernel_rfl) hr h
def a31 : List Ann := [⟨[0, 1], [], []⟩,
 ⟨[0, 1, 10], [], []⟩,
 ⟨[4], [], []⟩,
 ⟨[0, 1, 12, 13], [], []⟩,
 ⟨[0, 1, 12, 13, 14], [], []⟩,
 ⟨[0, 1, 5, 12, 13], [], []⟩,
 ⟨[0, 1, 12, 13, 25], [0, 0, 3, 7, 0, 0, 48, 112, 255, 511], [false, false, false, false, false, false, false, false, false, false]⟩,
 ⟨[4], [], []⟩,
 ⟨[0, 1, 12, 13], [], []⟩,
 ⟨[4], [], []⟩]
def s31 : SC := .seq (.ops [⟨some 4, .assign (.const (.bool false)), 4, .always⟩] [0, 1])
 (.seq (.seq (.ops [⟨some 6, .move (.tmp 0), 23, .always⟩,
 ⟨some 7, .call { callee := .builtin .len, args := #[.tmp 6], argTypes := #[23] }, 3, .always⟩,
 ⟨some 8, .move (.tmp 1), 23, .always⟩,
 ⟨some 9, .call { callee := .builtin .len, args := #[.tmp 8], argTypes := #[23] }, 3, .always⟩,
 ⟨some 10, .binOp .neq 3 (.tmp 7) (.tmp 9) 3, 4, .always⟩] [0, 1, 10])
 (.cond (.tmp 10)
 (.seq (.ops [⟨some 4, .assign (.const (.bool false)), 4, .always⟩] [4])
 (.ret))
 (.skip)))
 (.seq (.seq (.ops [⟨some 11, .move (.tmp 0), 23, .always⟩,
 ⟨some 12, .call { callee := .builtin .len, args := #[.tmp 11], argTypes := #[23] }, 3, .always⟩,
 ⟨some 13, .move (.const (.int .i64 0)), 3, .always⟩] [0, 1, 12, 13])
 (.block 0
 (.loop
 (.seq (.ops [⟨some 14, .binOp .lss 3 (.tmp 13) (.tmp 12) 3, 0, .always⟩] [0, 1, 12, 13, 14])
 (.seq (.cond (.tmp 14)
 (.skip)
 (.exit 0))
 (.seq (.block 1
 (.seq (.ops [⟨some 15, .move (.tmp 13), 3, .always⟩,
 ⟨some 5, .assign (.tmp 15), 3, .always⟩] [0, 1, 5, 12, 13])
 (.seq (.draw [⟨some 16, .move (.tmp 0), 23, .always⟩,
 ⟨some 17, .move (.tmp 5), 3, .always⟩,
 ⟨some 18, .indexAddr 23 (.tmp 16) (.tmp 17), 0, .always⟩,
 ⟨some 19, .load 25 (.tmp 18), 25, .always⟩,
 ⟨some 20, .move (.tmp 1), 23, .always⟩,
 ⟨some 21, .move (.tmp 5), 3, .always⟩,
 ⟨some 22, .indexAddr 23 (.tmp 20) (.tmp 21), 0, .always⟩,
 ⟨some 23, .load 25 (.tmp 22), 25, .always⟩,
 ⟨some 24, .call { callee := .value (.func 26), args := #[.tmp 19, .tmp 23], argTypes := #[25, 25] }, 4, .always⟩,
 ⟨some 25, .unOp .not 4 (.tmp 24), 4, .always⟩] [false, false, false, false, false, false, false, false, false, false] [0, 1, 12, 13, 25])
 (.cond (.tmp 25)
 (.seq (.ops [⟨some 4, .assign (.const (.bool false)), 4, .always⟩] [4])
 (.ret))
 (.skip)))))
 (.ops [⟨some 26, .binOp .add 3 (.tmp 13) (.const (.int .i64 1)) 3, 3, .always⟩,
 ⟨some 13, .move (.tmp 26), 3, .always⟩] [0, 1, 12, 13])))))))
 (.seq (.ops [⟨some 4, .assign (.const (.bool true)), 4, .always⟩] [4])
 (.ret))))
theorem w31 {args : List PV} {σ σ' : List Frm} {r : Ret} (hr : ∀ p, r = .val p → erV p = p) (h : wpP cfg s31 (QEndP cfg [.tmp 4] σ' r) ⟨initEnv args, fun _ => [], σ, ⟨fun _ => false, 0⟩⟩) : CallsV cfg 31 args σ r σ' :=
 callsV_of_p follows cfgT a31 (fn := Tryd.f31) (c := Tryd.f31.body.getD .skip) (by kernel_rfl) (by kernel_rfl) (by kernel_rfl) (by kernel_rfl) (by kernel_rfl) (sc := s31) (by kernel_rfl) [.tmp 4] (by kernel_rfl) hr h
def a32 : List Ann := [⟨[0, 1], [], []⟩,
 ⟨[0, 1, 10], [], []⟩,
 ⟨[4], [], []⟩,
 ⟨[0, 1, 12, 13], [], []⟩,
 ⟨[0, 1, 12, 13, 14], [], []⟩,
 ⟨[0, 1, 5, 12, 13], [], []⟩,
 ⟨[0, 1, 12, 13, 24], [0, 0, 3, 7, 0, 0, 48, 112, 255], [false, false, false, false, false, false, false, false, false]⟩,
 ⟨[4], [], []⟩,
 ⟨[0, 1, 12, 13], [], []⟩,
 ⟨[4], [], []⟩]
def s32 : SC := .seq (.ops [⟨some 4, .assign (.const (.bool false)), 4, .always⟩] [0, 1])
 (.seq (.seq (.ops [⟨some 6, .move (.tmp 0), 22, .always⟩,
 ⟨some 7, .call { callee := .builtin .len, args := #[.tmp 6], argTypes := #[22] }, 3, .always⟩,
 ⟨some 8, .move (.tmp 1), 22, .always⟩,
 ⟨some 9, .call { callee := .builtin .len, args := #[.tmp 8], argTypes := #[22] }, 3, .always⟩,
 ⟨some 10, .binOp .neq 3 (.tmp 7) (.tmp 9) 3, 4, .always⟩] [0, 1, 10])
 (.cond (.tmp 10)
 (.seq (.ops [⟨some 4, .assign (.const (.bool false)), 4, .always⟩] [4])
 (.ret))
 (.skip)))
 (.seq (.seq (.ops [⟨some 11, .move (.tmp 0), 22, .always⟩,
 ⟨some 12, .call { callee := .builtin .len, args := #[.tmp 11], argTypes := #[22] }, 3, .always⟩,
 ⟨some 13, .move (.const (.int .i64 0)), 3, .always⟩] [0, 1, 12, 13])
 (.block 0
 (.loop
 (.seq (.ops [⟨some 14, .binOp .lss 3 (.tmp 13) (.tmp 12) 3, 0, .always⟩] [0, 1, 12, 13, 14])
 (.seq (.cond (.tmp 14)
 (.skip)
 (.exit 0))
 (.seq (.block 1
 (.seq (.ops [⟨some 15, .move (.tmp 13), 3, .always⟩,
 ⟨some 5, .assign (.tmp 15), 3, .always⟩] [0, 1, 5, 12, 13])
 (.seq (.draw [⟨some 16, .move (.tmp 0), 22, .always⟩,
 ⟨some 17, .move (.tmp 5), 3, .always⟩,
 ⟨some 18, .indexAddr 22 (.tmp 16) (.tmp 17), 0, .always⟩,
 ⟨some 19, .load 3 (.tmp 18), 3, .always⟩,
 ⟨some 20, .move (.tmp 1), 22, .always⟩,
 ⟨some 21, .move (.tmp 5), 3, .always⟩,
 ⟨some 22, .indexAddr 22 (.tmp 20) (.tmp 21), 0, .always⟩,
 ⟨some 23, .load 3 (.tmp 22), 3, .always⟩,
 ⟨some 24, .binOp .neq 3 (.tmp 19) (.tmp 23) 3, 4, .always⟩] [false, false, false, false, false, false, false, false, false] [0, 1, 12, 13, 24])
 (.cond (.tmp 24)
 (.seq (.ops [⟨some 4, .assign (.const (.bool false)), 4, .always⟩] [4])
 (.ret))
 (.skip)))))
 (.ops [⟨some 25, .binOp .add 3 (.tmp 13) (.const (.int .i64 1)) 3, 3, .always⟩,
 ⟨some 13, .move (.tmp 25), 3, .always⟩] [0, 1, 12, 13])))))))
 (.seq (.ops [⟨some 4, .assign (.const (.bool true)), 4, .always⟩] [4])
 (.ret))))
theorem w32 {args : List PV} {σ σ' : List Frm} {r : Ret} (hr : ∀ p, r = .val p → erV p = p) (h : wpP cfg s32 (QEndP cfg [.tmp 4] σ' r) ⟨initEnv args, fun _ => [], σ, ⟨fun _ => false, 0⟩⟩) : CallsV cfg 32 args σ r σ' :=
 callsV_of_p follows cfgT a32 (fn := Tryd.f32) (c := Tryd.f32.body.getD .skip) (by kernel_rfl) (by kernel_rfl) (by kernel_rfl) (by kernel_rfl) (by kernel_rfl) (sc := s32) (by kernel_rfl) [.tmp 4] (by kernel_rfl) hr h
def a3 : List Ann := [⟨[0, 4, 5], [], []⟩,
 ⟨[0, 4, 5, 53], [0, 1, 3, 7, 15, 31, 63, 127, 255, 255, 767, 2047, 255, 8191, 16383, 32767, 65535, 131071, 262143, 524287, 1048575, 2097151, 4194303, 8388607, 16777215, 33554431, 67108863, 134217727, 268435455], [false, false, false, false, false, false, false, false, true, true, false, true, true, false, false, false, false, false, false, false, false, false, false, false, false, false, false, false, false]⟩,
 ⟨[6], [], []⟩,
 ⟨[4, 5, 7], [], []⟩,
 ⟨[4, 5, 7, 8], [], []⟩,
 ⟨[5, 8, 64, 65, 66], [0, 0, 0, 4, 14, 31, 63, 0], [true, false, false, false, true, false, false, false]⟩,
 ⟨[5, 8, 64, 65, 66, 67], [], []⟩,
 ⟨[5, 8, 10, 64, 65, 66], [], []⟩,
 ⟨[5, 8, 10, 11, 12, 64, 65, 66], [], []⟩,
 ⟨[5, 8, 11, 12, 13, 14, 64, 65, 66], [], []⟩,
 ⟨[5, 8, 64, 65, 66, 88], [], []⟩,
 ⟨[6], [], []⟩,
 ⟨[5, 8, 64, 65, 66], [], []⟩,
 ⟨[92, 93, 94], [], []⟩,
 ⟨[92, 93, 94, 95], [], []⟩,
 ⟨[16, 92, 93, 94], [], []⟩,
 ⟨[16, 17, 18, 92, 93, 94], [], []⟩,
 ⟨[16, 17, 18, 19, 20, 92, 93, 94], [], []⟩,
 ⟨[16, 17, 18, 19, 20, 21, 22, 92, 93, 94], [], []⟩,
 ⟨[17, 18, 19, 20, 21, 22, 23, 24, 92, 93, 94], [], []⟩,
 ⟨[92, 93, 94, 137], [], []⟩,
 ⟨[6], [], []⟩,
 ⟨[92, 93, 94], [], []⟩,
 ⟨[6], [], []⟩]
def s3 : SC := .seq (.ops [⟨some 4, .box 29 (.tmp 1), 0, .always⟩,
 ⟨some 5, .box 31 (.tmp 2), 0, .always⟩,
 ⟨some 6, .assign (.const (.bool false)), 4, .always⟩] [0, 4, 5])
 (.seq (.seq (.draw [⟨some 25, .call { callee := .value (.func 15), args := #[], argTypes := #[] }, 4, .always⟩,
 ⟨some 26, .unOp .not 4 (.tmp 25), 4, .always⟩,
 ⟨some 27, .move (.tmp 26), 4, .always⟩,
 ⟨some 28, .move (.tmp 0), 22, .tmp 27 false⟩,
 ⟨some 29, .call { callee := .value (.func 16), args := #[.tmp 28], argTypes := #[22] }, 4, .tmp 27 false⟩,
 ⟨some 30, .unOp .not 4 (.tmp 29), 4, .tmp 27 false⟩,
 ⟨some 31, .pick (.tmp 27) (.const (.bool true)) (.tmp 30), 4, .always⟩,
 ⟨some 32, .move (.tmp 31), 4, .always⟩,
 ⟨some 33, .call { callee := .value (.func 17), args := #[], argTypes := #[] }, 35, .tmp 32 false⟩,
 ⟨some 34, .load 29 (.tmp 4), 29, .tmp 32 false⟩,
 ⟨some 35, .buildSlice 27 1 #[(0, .tmp 34)], 27, .tmp 32 false⟩,
 ⟨some 36, .call { callee := .value (.func 18), args := #[.tmp 33, .tmp 35], argTypes := #[35, 27] }, 35, .tmp 32 false⟩,
 ⟨some 37, .load 31 (.tmp 5), 31, .tmp 32 false⟩,
 ⟨some 38, .call { callee := .value (.func 19), args := #[.tmp 36, .tmp 37], argTypes := #[35, 31] }, 35, .tmp 32 false⟩,
 ⟨some 39, .call { callee := .value (.func 20), args := #[.tmp 38], argTypes := #[35] }, 4, .tmp 32 false⟩,
 ⟨some 40, .unOp .not 4 (.tmp 39), 4, .tmp 32 false⟩,
 ⟨some 41, .pick (.tmp 32) (.const (.bool true)) (.tmp 40), 4, .always⟩,
 ⟨some 42, .move (.tmp 41), 4, .always⟩,
 ⟨some 43, .fieldAddr 31 (.tmp 5) 0, 0, .tmp 42 false⟩,
 ⟨some 44, .load 23 (.tmp 43), 23, .tmp 42 false⟩,
 ⟨some 45, .call { callee := .builtin .len, args := #[.tmp 44], argTypes := #[23] }, 3, .tmp 42 false⟩,
 ⟨some 46, .binOp .gtr 3 (.tmp 45) (.const (.int .i64 40)) 3, 4, .tmp 42 false⟩,
 ⟨some 47, .pick (.tmp 42) (.const (.bool true)) (.tmp 46), 4, .always⟩,
 ⟨some 48, .move (.tmp 47), 4, .always⟩,
 ⟨some 49, .fieldAddr 31 (.tmp 5) 1, 0, .tmp 48 false⟩,
 ⟨some 50, .load 27 (.tmp 49), 27, .tmp 48 false⟩,
 ⟨some 51, .call { callee := .builtin .len, args := #[.tmp 50], argTypes := #[27] }, 3, .tmp 48 false⟩,
 ⟨some 52, .binOp .gtr 3 (.tmp 51) (.const (.int .i64 30)) 3, 4, .tmp 48 false⟩,
 ⟨some 53, .pick (.tmp 48) (.const (.bool true)) (.tmp 52), 4, .always⟩] [false, false, false, false, false, false, false, false, true, true, false, true, true, false, false, false, false, false, false, false, false, false, false, false, false, false, false, false, false] [0, 4, 5, 53])
 (.cond (.tmp 53)
 (.seq (.ops [⟨some 54, .call { callee := .value (.func 15), args := #[], argTypes := #[] }, 4, .always⟩,
 ⟨some 6, .assign (.tmp 54), 4, .always⟩] [6])
 (.ret))
 (.skip)))
 (.seq (.ops [⟨some 55, .move (.tmp 0), 22, .always⟩,
 ⟨some 56, .call { callee := .value (.func 21), args := #[.tmp 55], argTypes := #[22] }, 39, .always⟩,
 ⟨some 7, .assign (.tmp 56), 39, .always⟩] [4, 5, 7])
 (.seq (.ops [⟨some 57, .move (.tmp 7), 39, .always⟩,
 ⟨some 58, .call { callee := .value (.func 22), args := #[.tmp 57], argTypes := #[39] }, 31, .always⟩,
 ⟨some 8, .alloc 31, 0, .always⟩,
 ⟨none, .store 31 (.tmp 8) (.tmp 58), 0, .always⟩] [4, 5, 7, 8])
 (.seq (.seq (.draw [⟨some 59, .load 29 (.tmp 4), 29, .always⟩,
 ⟨some 60, .move (.tmp 7), 39, .always⟩,
 ⟨some 61, .fieldAddr 31 (.tmp 8) 0, 0, .always⟩,
 ⟨some 62, .load 23 (.tmp 61), 23, .always⟩,
 ⟨some 63, .call { callee := .value (.func 23), args := #[.tmp 60, .tmp 62, .const (.int .i64 4)], argTypes := #[39, 23, 3] }, 29, .always⟩,
 ⟨some 64, .buildSlice 27 2 #[(0, .tmp 59), (1, .tmp 63)], 27, .always⟩,
 ⟨some 65, .call { callee := .builtin .len, args := #[.tmp 64], argTypes := #[27] }, 3, .always⟩,
 ⟨some 66, .move (.const (.int .i64 0)), 3, .always⟩] [true, false, false, false, true, false, false, false] [5, 8, 64, 65, 66])
 (.block 0
 (.loop
 (.seq (.ops [⟨some 67, .binOp .lss 3 (.tmp 66) (.tmp 65) 3, 0, .always⟩] [5, 8, 64, 65, 66, 67])
 (.seq (.cond (.tmp 67)
 (.skip)
 (.exit 0))
 (.seq (.block 1
 (.seq (.ops [⟨some 68, .indexAddr 27 (.tmp 64) (.tmp 66), 0, .always⟩,
 ⟨some 69, .load 29 (.tmp 68), 29, .always⟩,
 ⟨some 10, .alloc 29, 0, .always⟩,
 ⟨none, .store 29 (.tmp 10) (.tmp 69), 0, .always⟩] [5, 8, 10, 64, 65, 66])
 (.seq (.ops [⟨some 71, .load 29 (.tmp 10), 29, .always⟩,
 ⟨some 72, .call { callee := .value (.func 24), args := #[.tmp 71], argTypes := #[29] }, 44, .always⟩,
 ⟨some 70, .move (.tmp 72), 44, .always⟩,
 ⟨some 73, .extract (.tmp 70) 0, 25, .always⟩,
 ⟨some 74, .extract (.tmp 70) 1, 43, .always⟩,
 ⟨some 11, .alloc 25, 0, .always⟩,
 ⟨none, .store 25 (.tmp 11) (.tmp 73), 0, .always⟩,
 ⟨some 12, .assign (.tmp 74), 43, .always⟩] [5, 8, 10, 11, 12, 64, 65, 66])
 (.seq (.ops [⟨some 76, .load 29 (.tmp 10), 29, .always⟩,
 ⟨some 77, .call { callee := .value (.func 25), args := #[.tmp 76], argTypes := #[29] }, 44, .always⟩,
 ⟨some 75, .move (.tmp 77), 44, .always⟩,
 ⟨some 78, .extract (.tmp 75) 0, 25, .always⟩,
 ⟨some 79, .extract (.tmp 75) 1, 43, .always⟩,
 ⟨some 13, .alloc 25, 0, .always⟩,
 ⟨none, .store 25 (.tmp 13) (.tmp 78), 0, .always⟩,
 ⟨some 14, .assign (.tmp 79), 43, .always⟩] [5, 8, 11, 12, 13, 14, 64, 65, 66])
 (.seq (.ops [⟨some 80, .move (.tmp 12), 43, .always⟩,
 ⟨some 81, .move (.tmp 14), 43, .always⟩,
 ⟨some 82, .binOp .neq 43 (.tmp 80) (.tmp 81) 43, 4, .always⟩,
 ⟨some 83, .move (.tmp 82), 4, .always⟩,
 ⟨some 84, .load 25 (.tmp 11), 25, .tmp 83 false⟩,
 ⟨some 85, .load 25 (.tmp 13), 25, .tmp 83 false⟩,
 ⟨some 86, .call { callee := .value (.func 26), args := #[.tmp 84, .tmp 85], argTypes := #[25, 25] }, 4, .tmp 83 false⟩,
 ⟨some 87, .unOp .not 4 (.tmp 86), 4, .tmp 83 false⟩,
 ⟨some 88, .pick (.tmp 83) (.const (.bool true)) (.tmp 87), 4, .always⟩] [5, 8, 64, 65, 66, 88])
 (.cond (.tmp 88)
 (.seq (.ops [⟨some 6, .assign (.const (.bool false)), 4, .always⟩] [6])
 (.ret))
 (.skip)))))))
 (.ops [⟨some 89, .binOp .add 3 (.tmp 66) (.const (.int .i64 1)) 3, 3, .always⟩,
 ⟨some 66, .move (.tmp 89), 3, .always⟩] [5, 8, 64, 65, 66])))))))
 (.seq (.seq (.ops [⟨some 90, .load 31 (.tmp 5), 31, .always⟩,
 ⟨some 91, .load 31 (.tmp 8), 31, .always⟩,
 ⟨some 92, .buildSlice 47 2 #[(0, .tmp 90), (1, .tmp 91)], 47, .always⟩,
 ⟨some 93, .call { callee := .builtin .len, args := #[.tmp 92], argTypes := #[47] }, 3, .always⟩,
 ⟨some 94, .move (.const (.int .i64 0)), 3, .always⟩] [92, 93, 94])
 (.block 2
 (.loop
 (.seq (.ops [⟨some 95, .binOp .lss 3 (.tmp 94) (.tmp 93) 3, 0, .always⟩] [92, 93, 94, 95])
 (.seq (.cond (.tmp 95)
 (.skip)
 (.exit 2))
 (.seq (.block 3
 (.seq (.ops [⟨some 96, .indexAddr 47 (.tmp 92) (.tmp 94), 0, .always⟩,
 ⟨some 97, .load 31 (.tmp 96), 31, .always⟩,
 ⟨some 16, .alloc 31, 0, .always⟩,
 ⟨none, .store 31 (.tmp 16) (.tmp 97), 0, .always⟩] [16, 92, 93, 94])
 (.seq (.ops [⟨some 99, .load 31 (.tmp 16), 31, .always⟩,
 ⟨some 100, .call { callee := .value (.func 27), args := #[.tmp 99], argTypes := #[31] }, 48, .always⟩,
 ⟨some 98, .move (.tmp 100), 48, .always⟩,
 ⟨some 101, .extract (.tmp 98) 0, 23, .always⟩,
 ⟨some 102, .extract (.tmp 98) 1, 43, .always⟩,
 ⟨some 17, .assign (.tmp 101), 23, .always⟩,
 ⟨some 18, .assign (.tmp 102), 43, .always⟩] [16, 17, 18, 92, 93, 94])
 (.seq (.ops [⟨some 104, .load 31 (.tmp 16), 31, .always⟩,
 ⟨some 105, .call { callee := .value (.func 28), args := #[.tmp 104], argTypes := #[31] }, 48, .always⟩,
 ⟨some 103, .move (.tmp 105), 48, .always⟩,
 ⟨some 106, .extract (.tmp 103) 0, 23, .always⟩,
 ⟨some 107, .extract (.tmp 103) 1, 43, .always⟩,
 ⟨some 19, .assign (.tmp 106), 23, .always⟩,
 ⟨some 20, .assign (.tmp 107), 43, .always⟩] [16, 17, 18, 19, 20, 92, 93, 94])
 (.seq (.ops [⟨some 109, .load 31 (.tmp 16), 31, .always⟩,
 ⟨some 110, .call { callee := .value (.func 29), args := #[.tmp 109], argTypes := #[31] }, 50, .always⟩,
 ⟨some 108, .move (.tmp 110), 50, .always⟩,
 ⟨some 111, .extract (.tmp 108) 0, 22, .always⟩,
 ⟨some 112, .extract (.tmp 108) 1, 43, .always⟩,
 ⟨some 21, .assign (.tmp 111), 22, .always⟩,
 ⟨some 22, .assign (.tmp 112), 43, .always⟩] [16, 17, 18, 19, 20, 21, 22, 92, 93, 94])
 (.seq (.ops [⟨some 114, .load 31 (.tmp 16), 31, .always⟩,
 ⟨some 115, .call { callee := .value (.func 30), args := #[.tmp 114], argTypes := #[31] }, 50, .always⟩,
 ⟨some 113, .move (.tmp 115), 50, .always⟩,
 ⟨some 116, .extract (.tmp 113) 0, 22, .always⟩,
 ⟨some 117, .extract (.tmp 113) 1, 43, .always⟩,
 ⟨some 23, .assign (.tmp 116), 22, .always⟩,
 ⟨some 24, .assign (.tmp 117), 43, .always⟩] [17, 18, 19, 20, 21, 22, 23, 24, 92, 93, 94])
 (.seq (.ops [⟨some 118, .move (.tmp 18), 43, .always⟩,
 ⟨some 119, .move (.tmp 20), 43, .always⟩,
 ⟨some 120, .binOp .neq 43 (.tmp 118) (.tmp 119) 43, 4, .always⟩,
 ⟨some 121, .move (.tmp 120), 4, .always⟩,
 ⟨some 122, .move (.tmp 22), 43, .tmp 121 false⟩,
 ⟨some 123, .move (.tmp 24), 43, .tmp 121 false⟩,
 ⟨some 124, .binOp .neq 43 (.tmp 122) (.tmp 123) 43, 4, .tmp 121 false⟩,
 ⟨some 125, .pick (.tmp 121) (.const (.bool true)) (.tmp 124), 4, .always⟩,
 ⟨some 126, .move (.tmp 125), 4, .always⟩,
 ⟨some 127, .move (.tmp 17), 23, .tmp 126 false⟩,
 ⟨some 128, .move (.tmp 19), 23, .tmp 126 false⟩,
 ⟨some 129, .call { callee := .value (.func 31), args := #[.tmp 127, .tmp 128], argTypes := #[23, 23] }, 4, .tmp 126 false⟩,
 ⟨some 130, .unOp .not 4 (.tmp 129), 4, .tmp 126 false⟩,
 ⟨some 131, .pick (.tmp 126) (.const (.bool true)) (.tmp 130), 4, .always⟩,
 ⟨some 132, .move (.tmp 131), 4, .always⟩,
 ⟨some 133, .move (.tmp 21), 22, .tmp 132 false⟩,
 ⟨some 134, .move (.tmp 23), 22, .tmp 132 false⟩,
 ⟨some 135, .call { callee := .value (.func 32), args := #[.tmp 133, .tmp 134], argTypes := #[22, 22] }, 4, .tmp 132 false⟩,
 ⟨some 136, .unOp .not 4 (.tmp 135), 4, .tmp 132 false⟩,
 ⟨some 137, .pick (.tmp 132) (.const (.bool true)) (.tmp 136), 4, .always⟩] [92, 93, 94, 137])
 (.cond (.tmp 137)
 (.seq (.ops [⟨some 6, .assign (.const (.bool false)), 4, .always⟩] [6])
 (.ret))
 (.skip)))))))))
 (.ops [⟨some 138, .binOp .add 3 (.tmp 94) (.const (.int .i64 1)) 3, 3, .always⟩,
 ⟨some 94, .move (.tmp 138), 3, .always⟩] [92, 93, 94])))))))
 (.seq (.ops [⟨some 6, .assign (.const (.bool true)), 4, .always⟩] [6])
 (.ret)))))))
theorem w3 {args : List PV} {σ σ' : List Frm} {r : Ret} (hr : ∀ p, r = .val p → erV p = p) (h : wpP cfg s3 (QEndP cfg [.tmp 6] σ' r) ⟨initEnv args, fun _ => [], σ, ⟨fun _ => false, 0⟩⟩) : CallsV cfg 3 args σ r σ' :=
 callsV_of_p follows cfgT a3 (fn := Tryd.f3) (c := Tryd.f3.body.getD .skip) (by kernel_rfl) (by kernel_rfl) (by kernel_rfl) (by kernel_rfl) (by kernel_rfl) (sc := s3) (by kernel_rfl) [.tmp 6] (by kernel_rfl) hr h
end
end Go.Proofs.YtbcejphjmghkbaaDoor.V
