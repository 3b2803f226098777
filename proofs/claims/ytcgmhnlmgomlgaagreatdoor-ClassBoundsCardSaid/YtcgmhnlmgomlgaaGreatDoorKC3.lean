/-
Parts of the proof of one law, put together by program: part 3.
-/
import Derived.Test.YtcgmhnlmgomlgaaGreatDoorKC2
set_option linter.unusedSimpArgs false
set_option linter.unusedVariables false
set_option maxRecDepth 100000
namespace Go.Proofs.YtcgmhnlmgomlgaaGreatDoor.V
open Go Go.Proofs
noncomputable section
def a155 : List Ann := [⟨[0], [], []⟩,
 ⟨[0, 9], [], []⟩,
 ⟨[2, 3], [], []⟩,
 ⟨[2, 3], [], []⟩]
def s155 : SC := .seq (.ops [⟨some 2, .assign (.const (.int .i64 0)), 3, .always⟩,
 ⟨some 3, .assign (.const (.bool false)), 4, .always⟩] [0])
 (.seq (.seq (.ops [⟨some 4, .move (.tmp 0), 3, .always⟩,
 ⟨some 5, .binOp .lss 3 (.tmp 4) (.const (.int .i64 1)) 3, 4, .always⟩,
 ⟨some 6, .move (.tmp 5), 4, .always⟩,
 ⟨some 7, .move (.tmp 0), 3, .tmp 6 false⟩,
 ⟨some 8, .binOp .geq 3 (.tmp 7) (.const (.int .i64 14)) 3, 4, .tmp 6 false⟩,
 ⟨some 9, .pick (.tmp 6) (.const (.bool true)) (.tmp 8), 4, .always⟩] [0, 9])
 (.cond (.tmp 9)
 (.seq (.ops [⟨some 2, .assign (.const (.int .i64 0)), 3, .always⟩,
 ⟨some 3, .assign (.const (.bool false)), 4, .always⟩] [2, 3])
 (.ret))
 (.skip)))
 (.seq (.ops [⟨some 10, .move (.tmp 0), 3, .always⟩,
 ⟨some 11, .indexAddr 138 (.global 0) (.tmp 10), 0, .always⟩,
 ⟨some 12, .load 3 (.tmp 11), 3, .always⟩,
 ⟨some 2, .assign (.tmp 12), 3, .always⟩,
 ⟨some 3, .assign (.const (.bool true)), 4, .always⟩] [2, 3])
 (.ret)))
theorem w155 {args : List PV} {σ σ' : List Frm} {r : Ret} (hr : ∀ p, r = .val p → erV p = p) (h : wpP cfg s155 (QEndP cfg [.tmp 2, .tmp 3] σ' r) ⟨initEnv args, fun _ => [], σ, ⟨fun _ => false, 0⟩⟩) : CallsV cfg 155 args σ r σ' :=
 callsV_of_p follows cfgT a155 (fn := Tryz.f155) (c := Tryz.f155.body.getD .skip) (by kernel_rfl) (by kernel_rfl) (by kernel_rfl) (by kernel_rfl) (by kernel_rfl) (sc := s155) (by kernel_rfl) [.tmp 2, .tmp 3] (by kernel_rfl) hr h
def a156 : List Ann := [⟨[0], [], []⟩,
 ⟨[2], [], []⟩]
def s156 : SC := .seq (.ops [⟨some 2, .assign (.const (.bool false)), 4, .always⟩] [0])
 (.seq (.ops [⟨some 3, .move (.tmp 0), 3, .always⟩,
 ⟨some 4, .binOp .eql 3 (.tmp 3) (.const (.int .i64 2)) 3, 4, .always⟩,
 ⟨some 5, .move (.tmp 4), 4, .always⟩,
 ⟨some 6, .move (.tmp 0), 3, .tmp 5 false⟩,
 ⟨some 7, .binOp .eql 3 (.tmp 6) (.const (.int .i64 6)) 3, 4, .tmp 5 false⟩,
 ⟨some 8, .pick (.tmp 5) (.const (.bool true)) (.tmp 7), 4, .always⟩,
 ⟨some 9, .move (.tmp 8), 4, .always⟩,
 ⟨some 10, .move (.tmp 0), 3, .tmp 9 false⟩,
 ⟨some 11, .binOp .eql 3 (.tmp 10) (.const (.int .i64 9)) 3, 4, .tmp 9 false⟩,
 ⟨some 12, .pick (.tmp 9) (.const (.bool true)) (.tmp 11), 4, .always⟩,
 ⟨some 2, .assign (.tmp 12), 4, .always⟩] [2])
 (.ret))
theorem w156 {args : List PV} {σ σ' : List Frm} {r : Ret} (hr : ∀ p, r = .val p → erV p = p) (h : wpP cfg s156 (QEndP cfg [.tmp 2] σ' r) ⟨initEnv args, fun _ => [], σ, ⟨fun _ => false, 0⟩⟩) : CallsV cfg 156 args σ r σ' :=
 callsV_of_p follows cfgT a156 (fn := Tryz.f156) (c := Tryz.f156.body.getD .skip) (by kernel_rfl) (by kernel_rfl) (by kernel_rfl) (by kernel_rfl) (by kernel_rfl) (sc := s156) (by kernel_rfl) [.tmp 2] (by kernel_rfl) hr h
def a160 : List Ann := [⟨[1], [], []⟩,
 ⟨[1, 4], [], []⟩,
 ⟨[1, 4, 11], [], []⟩,
 ⟨[2, 3], [], []⟩,
 ⟨[1, 4, 11, 12], [], []⟩,
 ⟨[1, 4, 11, 12], [], []⟩,
 ⟨[1, 4, 11, 12], [], []⟩,
 ⟨[1, 11, 16], [], []⟩,
 ⟨[1, 16], [], []⟩,
 ⟨[1, 4], [], []⟩,
 ⟨[1, 23], [], []⟩,
 ⟨[2, 3], [], []⟩,
 ⟨[1, 5], [], []⟩,
 ⟨[5, 25, 26, 27], [], []⟩,
 ⟨[5, 25, 26, 27, 28], [], []⟩,
 ⟨[5, 7, 25, 26, 27], [], []⟩,
 ⟨[5, 8, 9, 25, 26, 27], [], []⟩,
 ⟨[5, 8, 25, 26, 27, 37], [], []⟩,
 ⟨[2, 3], [], []⟩,
 ⟨[5, 25, 26, 27], [], []⟩,
 ⟨[5, 25, 26, 27], [], []⟩,
 ⟨[2, 3], [], []⟩]
def s160 : SC := .seq (.ops [⟨some 1, .box 30 (.tmp 0), 0, .always⟩,
 ⟨some 2, .assign (.const (.int .i64 0)), 3, .always⟩,
 ⟨some 3, .assign (.const (.bool false)), 4, .always⟩] [1])
 (.seq (.ops [⟨some 4, .assign (.const (.int .i64 0)), 3, .always⟩] [1, 4])
 (.seq (.seq (.ops [⟨some 10, .fieldAddr 30 (.tmp 1) 0, 0, .always⟩,
 ⟨some 11, .load 3 (.tmp 10), 3, .always⟩] [1, 4, 11])
 (.block 0
 (.seq (.seq (.ops [⟨some 13, .binOp .eql 3 (.tmp 11) (.const (.int .i64 1)) 3, 4, .always⟩,
 ⟨some 12, .assign (.tmp 13), 4, .always⟩] [1, 4, 11, 12])
 (.cond (.tmp 12)
 (.skip)
 (.seq (.ops [⟨some 14, .binOp .eql 3 (.tmp 11) (.const (.int .i64 2)) 3, 4, .always⟩,
 ⟨some 12, .assign (.tmp 14), 4, .always⟩] [1, 4, 11, 12])
 (.cond (.tmp 12)
 (.skip)
 (.ops [⟨some 15, .binOp .eql 3 (.tmp 11) (.const (.int .i64 5)) 3, 4, .always⟩,
 ⟨some 12, .assign (.tmp 15), 4, .always⟩] [1, 4, 11, 12])))))
 (.cond (.tmp 12)
 (.skip)
 (.seq (.seq (.ops [⟨some 17, .binOp .eql 3 (.tmp 11) (.const (.int .i64 3)) 3, 4, .always⟩,
 ⟨some 16, .assign (.tmp 17), 4, .always⟩] [1, 11, 16])
 (.cond (.tmp 16)
 (.skip)
 (.ops [⟨some 18, .binOp .eql 3 (.tmp 11) (.const (.int .i64 4)) 3, 4, .always⟩,
 ⟨some 16, .assign (.tmp 18), 4, .always⟩] [1, 16])))
 (.cond (.tmp 16)
 (.ops [⟨some 4, .assign (.const (.int .i64 2)), 3, .always⟩] [1, 4])
 (.seq (.ops [⟨some 2, .assign (.const (.int .i64 0)), 3, .always⟩,
 ⟨some 3, .assign (.const (.bool false)), 4, .always⟩] [2, 3])
 (.ret))))))))
 (.seq (.seq (.ops [⟨some 19, .fieldAddr 30 (.tmp 1) 1, 0, .always⟩,
 ⟨some 20, .load 27 (.tmp 19), 27, .always⟩,
 ⟨some 21, .call { callee := .builtin .len, args := #[.tmp 20], argTypes := #[27] }, 3, .always⟩,
 ⟨some 22, .move (.tmp 4), 3, .always⟩,
 ⟨some 23, .binOp .neq 3 (.tmp 21) (.tmp 22) 3, 4, .always⟩] [1, 23])
 (.cond (.tmp 23)
 (.seq (.ops [⟨some 2, .assign (.const (.int .i64 0)), 3, .always⟩,
 ⟨some 3, .assign (.const (.bool false)), 4, .always⟩] [2, 3])
 (.ret))
 (.skip)))
 (.seq (.ops [⟨some 5, .assign (.const (.int .i64 1)), 3, .always⟩] [1, 5])
 (.seq (.seq (.ops [⟨some 24, .fieldAddr 30 (.tmp 1) 1, 0, .always⟩,
 ⟨some 25, .load 27 (.tmp 24), 27, .always⟩,
 ⟨some 26, .call { callee := .builtin .len, args := #[.tmp 25], argTypes := #[27] }, 3, .always⟩,
 ⟨some 27, .move (.const (.int .i64 0)), 3, .always⟩] [5, 25, 26, 27])
 (.block 1
 (.loop
 (.seq (.ops [⟨some 28, .binOp .lss 3 (.tmp 27) (.tmp 26) 3, 0, .always⟩] [5, 25, 26, 27, 28])
 (.seq (.cond (.tmp 28)
 (.skip)
 (.exit 1))
 (.seq (.block 2
 (.seq (.ops [⟨some 29, .indexAddr 27 (.tmp 25) (.tmp 27), 0, .always⟩,
 ⟨some 30, .load 30 (.tmp 29), 30, .always⟩,
 ⟨some 7, .alloc 30, 0, .always⟩,
 ⟨none, .store 30 (.tmp 7) (.tmp 30), 0, .always⟩] [5, 7, 25, 26, 27])
 (.seq (.ops [⟨some 32, .load 30 (.tmp 7), 30, .always⟩,
 ⟨some 33, .call { callee := .value (.func 160), args := #[.tmp 32], argTypes := #[30] }, 122, .always⟩,
 ⟨some 31, .move (.tmp 33), 122, .always⟩,
 ⟨some 34, .extract (.tmp 31) 0, 3, .always⟩,
 ⟨some 35, .extract (.tmp 31) 1, 4, .always⟩,
 ⟨some 8, .assign (.tmp 34), 3, .always⟩,
 ⟨some 9, .assign (.tmp 35), 4, .always⟩] [5, 8, 9, 25, 26, 27])
 (.seq (.seq (.ops [⟨some 36, .move (.tmp 9), 4, .always⟩,
 ⟨some 37, .unOp .not 4 (.tmp 36), 4, .always⟩] [5, 8, 25, 26, 27, 37])
 (.cond (.tmp 37)
 (.seq (.ops [⟨some 2, .assign (.const (.int .i64 0)), 3, .always⟩,
 ⟨some 3, .assign (.const (.bool false)), 4, .always⟩] [2, 3])
 (.ret))
 (.skip)))
 (.ops [⟨some 38, .move (.tmp 5), 3, .always⟩,
 ⟨some 39, .move (.tmp 8), 3, .always⟩,
 ⟨some 40, .binOp .add 3 (.tmp 38) (.tmp 39) 3, 3, .always⟩,
 ⟨some 5, .assign (.tmp 40), 3, .always⟩] [5, 25, 26, 27])))))
 (.ops [⟨some 41, .binOp .add 3 (.tmp 27) (.const (.int .i64 1)) 3, 3, .always⟩,
 ⟨some 27, .move (.tmp 41), 3, .always⟩] [5, 25, 26, 27])))))))
 (.seq (.ops [⟨some 42, .move (.tmp 5), 3, .always⟩,
 ⟨some 2, .assign (.tmp 42), 3, .always⟩,
 ⟨some 3, .assign (.const (.bool true)), 4, .always⟩] [2, 3])
 (.ret)))))))
theorem w160 {args : List PV} {σ σ' : List Frm} {r : Ret} (hr : ∀ p, r = .val p → erV p = p) (h : wpP cfg s160 (QEndP cfg [.tmp 2, .tmp 3] σ' r) ⟨initEnv args, fun _ => [], σ, ⟨fun _ => false, 0⟩⟩) : CallsV cfg 160 args σ r σ' :=
 callsV_of_p follows cfgT a160 (fn := Tryz.f160) (c := Tryz.f160.body.getD .skip) (by kernel_rfl) (by kernel_rfl) (by kernel_rfl) (by kernel_rfl) (by kernel_rfl) (sc := s160) (by kernel_rfl) [.tmp 2, .tmp 3] (by kernel_rfl) hr h
def a157 : List Ann := [⟨[1], [], []⟩,
 ⟨[4, 5], [], []⟩,
 ⟨[4, 11], [], []⟩,
 ⟨[2, 3], [], []⟩,
 ⟨[4, 14], [], []⟩,
 ⟨[2, 3], [], []⟩,
 ⟨[2, 3], [], []⟩]
def s157 : SC := .seq (.ops [⟨some 1, .box 30 (.tmp 0), 0, .always⟩,
 ⟨some 2, .assign (.const (.int .i64 0)), 3, .always⟩,
 ⟨some 3, .assign (.const (.int .i64 0)), 43, .always⟩] [1])
 (.seq (.ops [⟨some 7, .load 30 (.tmp 1), 30, .always⟩,
 ⟨some 8, .call { callee := .value (.func 160), args := #[.tmp 7], argTypes := #[30] }, 122, .always⟩,
 ⟨some 6, .move (.tmp 8), 122, .always⟩,
 ⟨some 9, .extract (.tmp 6) 0, 3, .always⟩,
 ⟨some 10, .extract (.tmp 6) 1, 4, .always⟩,
 ⟨some 4, .assign (.tmp 9), 3, .always⟩,
 ⟨some 5, .assign (.tmp 10), 4, .always⟩] [4, 5])
 (.seq (.block 0
 (.seq (.ops [⟨some 12, .move (.tmp 5), 4, .always⟩,
 ⟨some 13, .unOp .not 4 (.tmp 12), 4, .always⟩,
 ⟨some 11, .assign (.tmp 13), 4, .always⟩] [4, 11])
 (.cond (.tmp 11)
 (.seq (.ops [⟨some 2, .assign (.const (.int .i64 0)), 3, .always⟩,
 ⟨some 3, .assign (.const (.int .i64 2)), 43, .always⟩] [2, 3])
 (.ret))
 (.seq (.ops [⟨some 15, .move (.tmp 4), 3, .always⟩,
 ⟨some 16, .binOp .gtr 3 (.tmp 15) (.const (.int .i64 64)) 3, 4, .always⟩,
 ⟨some 14, .assign (.tmp 16), 4, .always⟩] [4, 14])
 (.cond (.tmp 14)
 (.seq (.ops [⟨some 2, .assign (.const (.int .i64 0)), 3, .always⟩,
 ⟨some 3, .assign (.const (.int .i64 4)), 43, .always⟩] [2, 3])
 (.ret))
 (.skip))))))
 (.seq (.ops [⟨some 17, .move (.tmp 4), 3, .always⟩,
 ⟨some 2, .assign (.tmp 17), 3, .always⟩,
 ⟨some 3, .assign (.const (.int .i64 0)), 43, .always⟩] [2, 3])
 (.ret))))
theorem w157 {args : List PV} {σ σ' : List Frm} {r : Ret} (hr : ∀ p, r = .val p → erV p = p) (h : wpP cfg s157 (QEndP cfg [.tmp 2, .tmp 3] σ' r) ⟨initEnv args, fun _ => [], σ, ⟨fun _ => false, 0⟩⟩) : CallsV cfg 157 args σ r σ' :=
 callsV_of_p follows cfgT a157 (fn := Tryz.f157) (c := Tryz.f157.body.getD .skip) (by kernel_rfl) (by kernel_rfl) (by kernel_rfl) (by kernel_rfl) (by kernel_rfl) (sc := s157) (by kernel_rfl) [.tmp 2, .tmp 3] (by kernel_rfl) hr h
def a158 : List Ann := [⟨[1], [], []⟩,
 ⟨[2], [], []⟩]
def s158 : SC := .seq (.ops [⟨some 1, .box 30 (.tmp 0), 0, .always⟩,
 ⟨some 2, .assign (.const (.bool false)), 4, .always⟩] [1])
 (.seq (.ops [⟨some 3, .fieldAddr 30 (.tmp 1) 0, 0, .always⟩,
 ⟨some 4, .load 3 (.tmp 3), 3, .always⟩,
 ⟨some 5, .binOp .eql 3 (.tmp 4) (.const (.int .i64 0)) 3, 4, .always⟩,
 ⟨some 6, .move (.tmp 5), 4, .always⟩,
 ⟨some 7, .fieldAddr 30 (.tmp 1) 1, 0, .tmp 6 true⟩,
 ⟨some 8, .load 27 (.tmp 7), 27, .tmp 6 true⟩,
 ⟨some 9, .call { callee := .builtin .len, args := #[.tmp 8], argTypes := #[27] }, 3, .tmp 6 true⟩,
 ⟨some 10, .binOp .eql 3 (.tmp 9) (.const (.int .i64 0)) 3, 4, .tmp 6 true⟩,
 ⟨some 11, .pick (.tmp 6) (.tmp 10) (.const (.bool false)), 4, .always⟩,
 ⟨some 2, .assign (.tmp 11), 4, .always⟩] [2])
 (.ret))
theorem w158 {args : List PV} {σ σ' : List Frm} {r : Ret} (hr : ∀ p, r = .val p → erV p = p) (h : wpP cfg s158 (QEndP cfg [.tmp 2] σ' r) ⟨initEnv args, fun _ => [], σ, ⟨fun _ => false, 0⟩⟩) : CallsV cfg 158 args σ r σ' :=
 callsV_of_p follows cfgT a158 (fn := Tryz.f158) (c := Tryz.f158.body.getD .skip) (by kernel_rfl) (by kernel_rfl) (by kernel_rfl) (by kernel_rfl) (by kernel_rfl) (sc := s158) (by kernel_rfl) [.tmp 2] (by kernel_rfl) hr h
def a149 : List Ann := [⟨[1], [], []⟩,
 ⟨[1, 4, 5], [], []⟩,
 ⟨[1, 42], [], []⟩,
 ⟨[2, 3], [], []⟩,
 ⟨[1, 45], [], []⟩,
 ⟨[1, 7], [], []⟩,
 ⟨[1, 53], [], []⟩,
 ⟨[2, 3], [], []⟩,
 ⟨[1, 57], [], []⟩,
 ⟨[2, 3], [], []⟩,
 ⟨[1, 8], [], []⟩,
 ⟨[8, 59, 60, 61], [], []⟩,
 ⟨[8, 59, 60, 61, 62], [], []⟩,
 ⟨[8, 10, 59, 60, 61], [], []⟩,
 ⟨[8, 11, 12, 59, 60, 61], [], []⟩,
 ⟨[8, 11, 59, 60, 61, 71], [], []⟩,
 ⟨[2, 3], [], []⟩,
 ⟨[8, 59, 60, 61], [], []⟩,
 ⟨[8, 59, 60, 61], [], []⟩,
 ⟨[2, 3], [], []⟩]
def s149 : SC := .seq (.ops [⟨some 1, .box 51 (.tmp 0), 0, .always⟩,
 ⟨some 2, .assign (.const (.int .i64 0)), 3, .always⟩,
 ⟨some 3, .assign (.const (.bool false)), 4, .always⟩] [1])
 (.seq (.ops [⟨some 14, .fieldAddr 51 (.tmp 1) 0, 0, .always⟩,
 ⟨some 15, .load 3 (.tmp 14), 3, .always⟩,
 ⟨some 16, .call { callee := .value (.func 155), args := #[.tmp 15], argTypes := #[3] }, 122, .always⟩,
 ⟨some 13, .move (.tmp 16), 122, .always⟩,
 ⟨some 17, .extract (.tmp 13) 0, 3, .always⟩,
 ⟨some 18, .extract (.tmp 13) 1, 4, .always⟩,
 ⟨some 4, .assign (.tmp 17), 3, .always⟩,
 ⟨some 5, .assign (.tmp 18), 4, .always⟩] [1, 4, 5])
 (.seq (.seq (.ops [⟨some 19, .move (.tmp 5), 4, .always⟩,
 ⟨some 20, .unOp .not 4 (.tmp 19), 4, .always⟩,
 ⟨some 21, .move (.tmp 20), 4, .always⟩,
 ⟨some 22, .fieldAddr 51 (.tmp 1) 3, 0, .tmp 21 false⟩,
 ⟨some 23, .load 32 (.tmp 22), 32, .tmp 21 false⟩,
 ⟨some 24, .call { callee := .builtin .len, args := #[.tmp 23], argTypes := #[32] }, 3, .tmp 21 false⟩,
 ⟨some 25, .move (.tmp 4), 3, .tmp 21 false⟩,
 ⟨some 26, .binOp .neq 3 (.tmp 24) (.tmp 25) 3, 4, .tmp 21 false⟩,
 ⟨some 27, .pick (.tmp 21) (.const (.bool true)) (.tmp 26), 4, .always⟩,
 ⟨some 28, .move (.tmp 27), 4, .always⟩,
 ⟨some 29, .fieldAddr 51 (.tmp 1) 1, 0, .tmp 28 false⟩,
 ⟨some 30, .load 3 (.tmp 29), 3, .tmp 28 false⟩,
 ⟨some 31, .binOp .lss 3 (.tmp 30) (.const (.int .i64 0)) 3, 4, .tmp 28 false⟩,
 ⟨some 32, .pick (.tmp 28) (.const (.bool true)) (.tmp 31), 4, .always⟩,
 ⟨some 33, .move (.tmp 32), 4, .always⟩,
 ⟨some 34, .fieldAddr 51 (.tmp 1) 1, 0, .tmp 33 false⟩,
 ⟨some 35, .load 3 (.tmp 34), 3, .tmp 33 false⟩,
 ⟨some 36, .binOp .neq 3 (.tmp 35) (.const (.int .i64 0)) 3, 4, .tmp 33 false⟩,
 ⟨some 37, .move (.tmp 36), 4, .tmp 33 false⟩,
 ⟨some 38, .fieldAddr 51 (.tmp 1) 0, 0, .tmp 37 true⟩,
 ⟨some 39, .load 3 (.tmp 38), 3, .tmp 37 true⟩,
 ⟨some 40, .binOp .neq 3 (.tmp 39) (.const (.int .i64 1)) 3, 4, .tmp 37 true⟩,
 ⟨some 41, .pick (.tmp 37) (.tmp 40) (.const (.bool false)), 4, .tmp 33 false⟩,
 ⟨some 42, .pick (.tmp 33) (.const (.bool true)) (.tmp 41), 4, .always⟩] [1, 42])
 (.cond (.tmp 42)
 (.seq (.ops [⟨some 2, .assign (.const (.int .i64 0)), 3, .always⟩,
 ⟨some 3, .assign (.const (.bool false)), 4, .always⟩] [2, 3])
 (.ret))
 (.skip)))
 (.seq (.seq (.ops [⟨some 43, .fieldAddr 51 (.tmp 1) 0, 0, .always⟩,
 ⟨some 44, .load 3 (.tmp 43), 3, .always⟩,
 ⟨some 45, .call { callee := .value (.func 156), args := #[.tmp 44], argTypes := #[3] }, 4, .always⟩] [1, 45])
 (.cond (.tmp 45)
 (.seq (.ops [⟨some 47, .fieldAddr 51 (.tmp 1) 2, 0, .always⟩,
 ⟨some 48, .load 30 (.tmp 47), 30, .always⟩,
 ⟨some 49, .call { callee := .value (.func 157), args := #[.tmp 48], argTypes := #[30] }, 107, .always⟩,
 ⟨some 46, .move (.tmp 49), 107, .always⟩,
 ⟨some 50, .extract (.tmp 46) 0, 3, .always⟩,
 ⟨some 51, .extract (.tmp 46) 1, 43, .always⟩,
 ⟨some 6, .assign (.tmp 50), 3, .always⟩,
 ⟨some 7, .assign (.tmp 51), 43, .always⟩] [1, 7])
 (.seq (.ops [⟨some 52, .move (.tmp 7), 43, .always⟩,
 ⟨some 53, .binOp .neq 43 (.tmp 52) (.const (.int .i64 0)) 43, 4, .always⟩] [1, 53])
 (.cond (.tmp 53)
 (.seq (.ops [⟨some 2, .assign (.const (.int .i64 0)), 3, .always⟩,
 ⟨some 3, .assign (.const (.bool false)), 4, .always⟩] [2, 3])
 (.ret))
 (.skip))))
 (.seq (.ops [⟨some 54, .fieldAddr 51 (.tmp 1) 2, 0, .always⟩,
 ⟨some 55, .load 30 (.tmp 54), 30, .always⟩,
 ⟨some 56, .call { callee := .value (.func 158), args := #[.tmp 55], argTypes := #[30] }, 4, .always⟩,
 ⟨some 57, .unOp .not 4 (.tmp 56), 4, .always⟩] [1, 57])
 (.cond (.tmp 57)
 (.seq (.ops [⟨some 2, .assign (.const (.int .i64 0)), 3, .always⟩,
 ⟨some 3, .assign (.const (.bool false)), 4, .always⟩] [2, 3])
 (.ret))
 (.skip)))))
 (.seq (.ops [⟨some 8, .assign (.const (.int .i64 1)), 3, .always⟩] [1, 8])
 (.seq (.seq (.ops [⟨some 58, .fieldAddr 51 (.tmp 1) 3, 0, .always⟩,
 ⟨some 59, .load 32 (.tmp 58), 32, .always⟩,
 ⟨some 60, .call { callee := .builtin .len, args := #[.tmp 59], argTypes := #[32] }, 3, .always⟩,
 ⟨some 61, .move (.const (.int .i64 0)), 3, .always⟩] [8, 59, 60, 61])
 (.block 0
 (.loop
 (.seq (.ops [⟨some 62, .binOp .lss 3 (.tmp 61) (.tmp 60) 3, 0, .always⟩] [8, 59, 60, 61, 62])
 (.seq (.cond (.tmp 62)
 (.skip)
 (.exit 0))
 (.seq (.block 1
 (.seq (.ops [⟨some 63, .indexAddr 32 (.tmp 59) (.tmp 61), 0, .always⟩,
 ⟨some 64, .load 51 (.tmp 63), 51, .always⟩,
 ⟨some 10, .alloc 51, 0, .always⟩,
 ⟨none, .store 51 (.tmp 10) (.tmp 64), 0, .always⟩] [8, 10, 59, 60, 61])
 (.seq (.ops [⟨some 66, .load 51 (.tmp 10), 51, .always⟩,
 ⟨some 67, .call { callee := .value (.func 149), args := #[.tmp 66], argTypes := #[51] }, 122, .always⟩,
 ⟨some 65, .move (.tmp 67), 122, .always⟩,
 ⟨some 68, .extract (.tmp 65) 0, 3, .always⟩,
 ⟨some 69, .extract (.tmp 65) 1, 4, .always⟩,
 ⟨some 11, .assign (.tmp 68), 3, .always⟩,
 ⟨some 12, .assign (.tmp 69), 4, .always⟩] [8, 11, 12, 59, 60, 61])
 (.seq (.seq (.ops [⟨some 70, .move (.tmp 12), 4, .always⟩,
 ⟨some 71, .unOp .not 4 (.tmp 70), 4, .always⟩] [8, 11, 59, 60, 61, 71])
 (.cond (.tmp 71)
 (.seq (.ops [⟨some 2, .assign (.const (.int .i64 0)), 3, .always⟩,
 ⟨some 3, .assign (.const (.bool false)), 4, .always⟩] [2, 3])
 (.ret))
 (.skip)))
 (.ops [⟨some 72, .move (.tmp 8), 3, .always⟩,
 ⟨some 73, .move (.tmp 11), 3, .always⟩,
 ⟨some 74, .binOp .add 3 (.tmp 72) (.tmp 73) 3, 3, .always⟩,
 ⟨some 8, .assign (.tmp 74), 3, .always⟩] [8, 59, 60, 61])))))
 (.ops [⟨some 75, .binOp .add 3 (.tmp 61) (.const (.int .i64 1)) 3, 3, .always⟩,
 ⟨some 61, .move (.tmp 75), 3, .always⟩] [8, 59, 60, 61])))))))
 (.seq (.ops [⟨some 76, .move (.tmp 8), 3, .always⟩,
 ⟨some 2, .assign (.tmp 76), 3, .always⟩,
 ⟨some 3, .assign (.const (.bool true)), 4, .always⟩] [2, 3])
 (.ret)))))))
theorem w149 {args : List PV} {σ σ' : List Frm} {r : Ret} (hr : ∀ p, r = .val p → erV p = p) (h : wpP cfg s149 (QEndP cfg [.tmp 2, .tmp 3] σ' r) ⟨initEnv args, fun _ => [], σ, ⟨fun _ => false, 0⟩⟩) : CallsV cfg 149 args σ r σ' :=
 callsV_of_p follows cfgT a149 (fn := Tryz.f149) (c := Tryz.f149.body.getD .skip) (by kernel_rfl) (by kernel_rfl) (by kernel_rfl) (by kernel_rfl) (by kernel_rfl) (sc := s149) (by kernel_rfl) [.tmp 2, .tmp 3] (by kernel_rfl) hr h
def a150 : List Ann := [⟨[1], [], []⟩,
 ⟨[1, 3, 4, 5], [], []⟩,
 ⟨[1, 3, 4, 5, 9], [], []⟩,
 ⟨[2], [], []⟩,
 ⟨[1, 3, 4, 5, 9, 10], [], []⟩,
 ⟨[1, 3, 4, 5], [], []⟩,
 ⟨[1, 3, 5, 9, 12], [], []⟩,
 ⟨[1, 3, 5, 9, 12], [], []⟩,
 ⟨[1, 3, 4, 5], [], []⟩,
 ⟨[1, 3, 9, 15], [], []⟩,
 ⟨[1, 3, 9, 15], [], []⟩,
 ⟨[1, 3, 9, 15], [], []⟩,
 ⟨[1, 3, 15], [], []⟩,
 ⟨[1, 3, 4, 5], [], []⟩,
 ⟨[1, 3, 4, 20], [], []⟩,
 ⟨[1, 3, 4, 7], [], []⟩,
 ⟨[1, 3, 4, 28], [], []⟩,
 ⟨[2], [], []⟩,
 ⟨[1, 3, 4, 32], [], []⟩,
 ⟨[2], [], []⟩,
 ⟨[2], [], []⟩]
def s150 : SC := .seq (.ops [⟨some 1, .box 35 (.tmp 0), 0, .always⟩,
 ⟨some 2, .assign (.const (.bool false)), 4, .always⟩] [1])
 (.seq (.ops [⟨some 3, .assign (.const (.int .i64 0)), 3, .always⟩,
 ⟨some 4, .assign (.const (.int .i64 0)), 3, .always⟩,
 ⟨some 5, .assign (.const (.bool false)), 4, .always⟩] [1, 3, 4, 5])
 (.seq (.seq (.ops [⟨some 8, .fieldAddr 35 (.tmp 1) 0, 0, .always⟩,
 ⟨some 9, .load 3 (.tmp 8), 3, .always⟩] [1, 3, 4, 5, 9])
 (.block 0
 (.seq (.ops [⟨some 11, .binOp .eql 3 (.tmp 9) (.const (.int .i64 1)) 3, 4, .always⟩,
 ⟨some 10, .assign (.tmp 11), 4, .always⟩] [1, 3, 4, 5, 9, 10])
 (.cond (.tmp 10)
 (.ops [⟨some 3, .assign (.const (.int .i64 2)), 3, .always⟩] [1, 3, 4, 5])
 (.seq (.seq (.ops [⟨some 13, .binOp .eql 3 (.tmp 9) (.const (.int .i64 2)) 3, 4, .always⟩,
 ⟨some 12, .assign (.tmp 13), 4, .always⟩] [1, 3, 5, 9, 12])
 (.cond (.tmp 12)
 (.skip)
 (.ops [⟨some 14, .binOp .eql 3 (.tmp 9) (.const (.int .i64 3)) 3, 4, .always⟩,
 ⟨some 12, .assign (.tmp 14), 4, .always⟩] [1, 3, 5, 9, 12])))
 (.cond (.tmp 12)
 (.ops [⟨some 4, .assign (.const (.int .i64 2)), 3, .always⟩] [1, 3, 4, 5])
 (.seq (.seq (.ops [⟨some 16, .binOp .eql 3 (.tmp 9) (.const (.int .i64 4)) 3, 4, .always⟩,
 ⟨some 15, .assign (.tmp 16), 4, .always⟩] [1, 3, 9, 15])
 (.cond (.tmp 15)
 (.skip)
 (.seq (.ops [⟨some 17, .binOp .eql 3 (.tmp 9) (.const (.int .i64 5)) 3, 4, .always⟩,
 ⟨some 15, .assign (.tmp 17), 4, .always⟩] [1, 3, 9, 15])
 (.cond (.tmp 15)
 (.skip)
 (.seq (.ops [⟨some 18, .binOp .eql 3 (.tmp 9) (.const (.int .i64 6)) 3, 4, .always⟩,
 ⟨some 15, .assign (.tmp 18), 4, .always⟩] [1, 3, 9, 15])
 (.cond (.tmp 15)
 (.skip)
 (.ops [⟨some 19, .binOp .eql 3 (.tmp 9) (.const (.int .i64 7)) 3, 4, .always⟩,
 ⟨some 15, .assign (.tmp 19), 4, .always⟩] [1, 3, 15])))))))
 (.cond (.tmp 15)
 (.ops [⟨some 4, .assign (.const (.int .i64 1)), 3, .always⟩,
 ⟨some 5, .assign (.const (.bool true)), 4, .always⟩] [1, 3, 4, 5])
 (.seq (.ops [⟨some 2, .assign (.const (.bool false)), 4, .always⟩] [2])
 (.ret))))))))))
 (.seq (.seq (.ops [⟨some 20, .move (.tmp 5), 4, .always⟩] [1, 3, 4, 20])
 (.cond (.tmp 20)
 (.seq (.ops [⟨some 22, .fieldAddr 35 (.tmp 1) 1, 0, .always⟩,
 ⟨some 23, .load 30 (.tmp 22), 30, .always⟩,
 ⟨some 24, .call { callee := .value (.func 157), args := #[.tmp 23], argTypes := #[30] }, 107, .always⟩,
 ⟨some 21, .move (.tmp 24), 107, .always⟩,
 ⟨some 25, .extract (.tmp 21) 0, 3, .always⟩,
 ⟨some 26, .extract (.tmp 21) 1, 43, .always⟩,
 ⟨some 6, .assign (.tmp 25), 3, .always⟩,
 ⟨some 7, .assign (.tmp 26), 43, .always⟩] [1, 3, 4, 7])
 (.seq (.ops [⟨some 27, .move (.tmp 7), 43, .always⟩,
 ⟨some 28, .binOp .neq 43 (.tmp 27) (.const (.int .i64 0)) 43, 4, .always⟩] [1, 3, 4, 28])
 (.cond (.tmp 28)
 (.seq (.ops [⟨some 2, .assign (.const (.bool false)), 4, .always⟩] [2])
 (.ret))
 (.skip))))
 (.seq (.ops [⟨some 29, .fieldAddr 35 (.tmp 1) 1, 0, .always⟩,
 ⟨some 30, .load 30 (.tmp 29), 30, .always⟩,
 ⟨some 31, .call { callee := .value (.func 158), args := #[.tmp 30], argTypes := #[30] }, 4, .always⟩,
 ⟨some 32, .unOp .not 4 (.tmp 31), 4, .always⟩] [1, 3, 4, 32])
 (.cond (.tmp 32)
 (.seq (.ops [⟨some 2, .assign (.const (.bool false)), 4, .always⟩] [2])
 (.ret))
 (.skip)))))
 (.seq (.ops [⟨some 33, .fieldAddr 35 (.tmp 1) 2, 0, .always⟩,
 ⟨some 34, .load 32 (.tmp 33), 32, .always⟩,
 ⟨some 35, .call { callee := .builtin .len, args := #[.tmp 34], argTypes := #[32] }, 3, .always⟩,
 ⟨some 36, .move (.tmp 3), 3, .always⟩,
 ⟨some 37, .binOp .eql 3 (.tmp 35) (.tmp 36) 3, 4, .always⟩,
 ⟨some 38, .move (.tmp 37), 4, .always⟩,
 ⟨some 39, .fieldAddr 35 (.tmp 1) 3, 0, .tmp 38 true⟩,
 ⟨some 40, .load 33 (.tmp 39), 33, .tmp 38 true⟩,
 ⟨some 41, .call { callee := .builtin .len, args := #[.tmp 40], argTypes := #[33] }, 3, .tmp 38 true⟩,
 ⟨some 42, .move (.tmp 4), 3, .tmp 38 true⟩,
 ⟨some 43, .binOp .eql 3 (.tmp 41) (.tmp 42) 3, 4, .tmp 38 true⟩,
 ⟨some 44, .pick (.tmp 38) (.tmp 43) (.const (.bool false)), 4, .always⟩,
 ⟨some 2, .assign (.tmp 44), 4, .always⟩] [2])
 (.ret)))))
theorem w150 {args : List PV} {σ σ' : List Frm} {r : Ret} (hr : ∀ p, r = .val p → erV p = p) (h : wpP cfg s150 (QEndP cfg [.tmp 2] σ' r) ⟨initEnv args, fun _ => [], σ, ⟨fun _ => false, 0⟩⟩) : CallsV cfg 150 args σ r σ' :=
 callsV_of_p follows cfgT a150 (fn := Tryz.f150) (c := Tryz.f150.body.getD .skip) (by kernel_rfl) (by kernel_rfl) (by kernel_rfl) (by kernel_rfl) (by kernel_rfl) (sc := s150) (by kernel_rfl) [.tmp 2] (by kernel_rfl) hr h
def a129 : List Ann := [⟨[1], [], []⟩,
 ⟨[1, 15], [], []⟩,
 ⟨[2, 3], [], []⟩,
 ⟨[1, 4], [], []⟩,
 ⟨[1, 4, 17, 18, 19], [], []⟩,
 ⟨[1, 4, 17, 18, 19, 20], [], []⟩,
 ⟨[1, 4, 6, 17, 18, 19], [], []⟩,
 ⟨[1, 4, 7, 8, 17, 18, 19], [], []⟩,
 ⟨[1, 4, 7, 17, 18, 19, 29], [], []⟩,
 ⟨[2, 3], [], []⟩,
 ⟨[1, 4, 17, 18, 19], [], []⟩,
 ⟨[1, 4, 17, 18, 19], [], []⟩,
 ⟨[4, 35, 36, 37], [], []⟩,
 ⟨[4, 35, 36, 37, 38], [], []⟩,
 ⟨[4, 10, 35, 36, 37], [], []⟩,
 ⟨[4, 11, 12, 35, 36, 37], [], []⟩,
 ⟨[4, 11, 35, 36, 37, 47], [], []⟩,
 ⟨[2, 3], [], []⟩,
 ⟨[4, 35, 36, 37], [], []⟩,
 ⟨[4, 35, 36, 37], [], []⟩,
 ⟨[2, 3], [], []⟩]
def s129 : SC := .seq (.ops [⟨some 1, .box 35 (.tmp 0), 0, .always⟩,
 ⟨some 2, .assign (.const (.int .i64 0)), 3, .always⟩,
 ⟨some 3, .assign (.const (.bool false)), 4, .always⟩] [1])
 (.seq (.seq (.ops [⟨some 13, .load 35 (.tmp 1), 35, .always⟩,
 ⟨some 14, .call { callee := .value (.func 150), args := #[.tmp 13], argTypes := #[35] }, 4, .always⟩,
 ⟨some 15, .unOp .not 4 (.tmp 14), 4, .always⟩] [1, 15])
 (.cond (.tmp 15)
 (.seq (.ops [⟨some 2, .assign (.const (.int .i64 0)), 3, .always⟩,
 ⟨some 3, .assign (.const (.bool false)), 4, .always⟩] [2, 3])
 (.ret))
 (.skip)))
 (.seq (.ops [⟨some 4, .assign (.const (.int .i64 1)), 3, .always⟩] [1, 4])
 (.seq (.seq (.ops [⟨some 16, .fieldAddr 35 (.tmp 1) 2, 0, .always⟩,
 ⟨some 17, .load 32 (.tmp 16), 32, .always⟩,
 ⟨some 18, .call { callee := .builtin .len, args := #[.tmp 17], argTypes := #[32] }, 3, .always⟩,
 ⟨some 19, .move (.const (.int .i64 0)), 3, .always⟩] [1, 4, 17, 18, 19])
 (.block 0
 (.loop
 (.seq (.ops [⟨some 20, .binOp .lss 3 (.tmp 19) (.tmp 18) 3, 0, .always⟩] [1, 4, 17, 18, 19, 20])
 (.seq (.cond (.tmp 20)
 (.skip)
 (.exit 0))
 (.seq (.block 1
 (.seq (.ops [⟨some 21, .indexAddr 32 (.tmp 17) (.tmp 19), 0, .always⟩,
 ⟨some 22, .load 51 (.tmp 21), 51, .always⟩,
 ⟨some 6, .alloc 51, 0, .always⟩,
 ⟨none, .store 51 (.tmp 6) (.tmp 22), 0, .always⟩] [1, 4, 6, 17, 18, 19])
 (.seq (.ops [⟨some 24, .load 51 (.tmp 6), 51, .always⟩,
 ⟨some 25, .call { callee := .value (.func 149), args := #[.tmp 24], argTypes := #[51] }, 122, .always⟩,
 ⟨some 23, .move (.tmp 25), 122, .always⟩,
 ⟨some 26, .extract (.tmp 23) 0, 3, .always⟩,
 ⟨some 27, .extract (.tmp 23) 1, 4, .always⟩,
 ⟨some 7, .assign (.tmp 26), 3, .always⟩,
 ⟨some 8, .assign (.tmp 27), 4, .always⟩] [1, 4, 7, 8, 17, 18, 19])
 (.seq (.seq (.ops [⟨some 28, .move (.tmp 8), 4, .always⟩,
 ⟨some 29, .unOp .not 4 (.tmp 28), 4, .always⟩] [1, 4, 7, 17, 18, 19, 29])
 (.cond (.tmp 29)
 (.seq (.ops [⟨some 2, .assign (.const (.int .i64 0)), 3, .always⟩,
 ⟨some 3, .assign (.const (.bool false)), 4, .always⟩] [2, 3])
 (.ret))
 (.skip)))
 (.ops [⟨some 30, .move (.tmp 4), 3, .always⟩,
 ⟨some 31, .move (.tmp 7), 3, .always⟩,
 ⟨some 32, .binOp .add 3 (.tmp 30) (.tmp 31) 3, 3, .always⟩,
 ⟨some 4, .assign (.tmp 32), 3, .always⟩] [1, 4, 17, 18, 19])))))
 (.ops [⟨some 33, .binOp .add 3 (.tmp 19) (.const (.int .i64 1)) 3, 3, .always⟩,
 ⟨some 19, .move (.tmp 33), 3, .always⟩] [1, 4, 17, 18, 19])))))))
 (.seq (.seq (.ops [⟨some 34, .fieldAddr 35 (.tmp 1) 3, 0, .always⟩,
 ⟨some 35, .load 33 (.tmp 34), 33, .always⟩,
 ⟨some 36, .call { callee := .builtin .len, args := #[.tmp 35], argTypes := #[33] }, 3, .always⟩,
 ⟨some 37, .move (.const (.int .i64 0)), 3, .always⟩] [4, 35, 36, 37])
 (.block 2
 (.loop
 (.seq (.ops [⟨some 38, .binOp .lss 3 (.tmp 37) (.tmp 36) 3, 0, .always⟩] [4, 35, 36, 37, 38])
 (.seq (.cond (.tmp 38)
 (.skip)
 (.exit 2))
 (.seq (.block 3
 (.seq (.ops [⟨some 39, .indexAddr 33 (.tmp 35) (.tmp 37), 0, .always⟩,
 ⟨some 40, .load 35 (.tmp 39), 35, .always⟩,
 ⟨some 10, .alloc 35, 0, .always⟩,
 ⟨none, .store 35 (.tmp 10) (.tmp 40), 0, .always⟩] [4, 10, 35, 36, 37])
 (.seq (.ops [⟨some 42, .load 35 (.tmp 10), 35, .always⟩,
 ⟨some 43, .call { callee := .value (.func 129), args := #[.tmp 42], argTypes := #[35] }, 122, .always⟩,
 ⟨some 41, .move (.tmp 43), 122, .always⟩,
 ⟨some 44, .extract (.tmp 41) 0, 3, .always⟩,
 ⟨some 45, .extract (.tmp 41) 1, 4, .always⟩,
 ⟨some 11, .assign (.tmp 44), 3, .always⟩,
 ⟨some 12, .assign (.tmp 45), 4, .always⟩] [4, 11, 12, 35, 36, 37])
 (.seq (.seq (.ops [⟨some 46, .move (.tmp 12), 4, .always⟩,
 ⟨some 47, .unOp .not 4 (.tmp 46), 4, .always⟩] [4, 11, 35, 36, 37, 47])
 (.cond (.tmp 47)
 (.seq (.ops [⟨some 2, .assign (.const (.int .i64 0)), 3, .always⟩,
 ⟨some 3, .assign (.const (.bool false)), 4, .always⟩] [2, 3])
 (.ret))
 (.skip)))
 (.ops [⟨some 48, .move (.tmp 4), 3, .always⟩,
 ⟨some 49, .move (.tmp 11), 3, .always⟩,
 ⟨some 50, .binOp .add 3 (.tmp 48) (.tmp 49) 3, 3, .always⟩,
 ⟨some 4, .assign (.tmp 50), 3, .always⟩] [4, 35, 36, 37])))))
 (.ops [⟨some 51, .binOp .add 3 (.tmp 37) (.const (.int .i64 1)) 3, 3, .always⟩,
 ⟨some 37, .move (.tmp 51), 3, .always⟩] [4, 35, 36, 37])))))))
 (.seq (.ops [⟨some 52, .move (.tmp 4), 3, .always⟩,
 ⟨some 2, .assign (.tmp 52), 3, .always⟩,
 ⟨some 3, .assign (.const (.bool true)), 4, .always⟩] [2, 3])
 (.ret))))))
theorem w129 {args : List PV} {σ σ' : List Frm} {r : Ret} (hr : ∀ p, r = .val p → erV p = p) (h : wpP cfg s129 (QEndP cfg [.tmp 2, .tmp 3] σ' r) ⟨initEnv args, fun _ => [], σ, ⟨fun _ => false, 0⟩⟩) : CallsV cfg 129 args σ r σ' :=
 callsV_of_p follows cfgT a129 (fn := Tryz.f129) (c := Tryz.f129.body.getD .skip) (by kernel_rfl) (by kernel_rfl) (by kernel_rfl) (by kernel_rfl) (by kernel_rfl) (sc := s129) (by kernel_rfl) [.tmp 2, .tmp 3] (by kernel_rfl) hr h
def a100 : List Ann := [⟨[1], [], []⟩,
 ⟨[4, 5], [], []⟩,
 ⟨[4, 11], [], []⟩,
 ⟨[2, 3], [], []⟩,
 ⟨[4, 14], [], []⟩,
 ⟨[2, 3], [], []⟩,
 ⟨[2, 3], [], []⟩]
def s100 : SC := .seq (.ops [⟨some 1, .box 35 (.tmp 0), 0, .always⟩,
 ⟨some 2, .assign (.const (.int .i64 0)), 3, .always⟩,
 ⟨some 3, .assign (.const (.int .i64 0)), 43, .always⟩] [1])
 (.seq (.ops [⟨some 7, .load 35 (.tmp 1), 35, .always⟩,
 ⟨some 8, .call { callee := .value (.func 129), args := #[.tmp 7], argTypes := #[35] }, 122, .always⟩,
 ⟨some 6, .move (.tmp 8), 122, .always⟩,
 ⟨some 9, .extract (.tmp 6) 0, 3, .always⟩,
 ⟨some 10, .extract (.tmp 6) 1, 4, .always⟩,
 ⟨some 4, .assign (.tmp 9), 3, .always⟩,
 ⟨some 5, .assign (.tmp 10), 4, .always⟩] [4, 5])
 (.seq (.block 0
 (.seq (.ops [⟨some 12, .move (.tmp 5), 4, .always⟩,
 ⟨some 13, .unOp .not 4 (.tmp 12), 4, .always⟩,
 ⟨some 11, .assign (.tmp 13), 4, .always⟩] [4, 11])
 (.cond (.tmp 11)
 (.seq (.ops [⟨some 2, .assign (.const (.int .i64 0)), 3, .always⟩,
 ⟨some 3, .assign (.const (.int .i64 2)), 43, .always⟩] [2, 3])
 (.ret))
 (.seq (.ops [⟨some 15, .move (.tmp 4), 3, .always⟩,
 ⟨some 16, .binOp .gtr 3 (.tmp 15) (.const (.int .i64 4096)) 3, 4, .always⟩,
 ⟨some 14, .assign (.tmp 16), 4, .always⟩] [4, 14])
 (.cond (.tmp 14)
 (.seq (.ops [⟨some 2, .assign (.const (.int .i64 0)), 3, .always⟩,
 ⟨some 3, .assign (.const (.int .i64 4)), 43, .always⟩] [2, 3])
 (.ret))
 (.skip))))))
 (.seq (.ops [⟨some 17, .move (.tmp 4), 3, .always⟩,
 ⟨some 2, .assign (.tmp 17), 3, .always⟩,
 ⟨some 3, .assign (.const (.int .i64 0)), 43, .always⟩] [2, 3])
 (.ret))))
theorem w100 {args : List PV} {σ σ' : List Frm} {r : Ret} (hr : ∀ p, r = .val p → erV p = p) (h : wpP cfg s100 (QEndP cfg [.tmp 2, .tmp 3] σ' r) ⟨initEnv args, fun _ => [], σ, ⟨fun _ => false, 0⟩⟩) : CallsV cfg 100 args σ r σ' :=
 callsV_of_p follows cfgT a100 (fn := Tryz.f100) (c := Tryz.f100.body.getD .skip) (by kernel_rfl) (by kernel_rfl) (by kernel_rfl) (by kernel_rfl) (by kernel_rfl) (sc := s100) (by kernel_rfl) [.tmp 2, .tmp 3] (by kernel_rfl) hr h
def a54 : List Ann := [⟨[1], [], []⟩,
 ⟨[4], [], []⟩,
 ⟨[2], [], []⟩]
def s54 : SC := .seq (.ops [⟨some 1, .box 35 (.tmp 0), 0, .always⟩,
 ⟨some 2, .assign (.const (.int .i64 0)), 43, .always⟩] [1])
 (.seq (.ops [⟨some 6, .load 35 (.tmp 1), 35, .always⟩,
 ⟨some 7, .call { callee := .value (.func 100), args := #[.tmp 6], argTypes := #[35] }, 107, .always⟩,
 ⟨some 5, .move (.tmp 7), 107, .always⟩,
 ⟨some 8, .extract (.tmp 5) 0, 3, .always⟩,
 ⟨some 9, .extract (.tmp 5) 1, 43, .always⟩,
 ⟨some 3, .assign (.tmp 8), 3, .always⟩,
 ⟨some 4, .assign (.tmp 9), 43, .always⟩] [4])
 (.seq (.ops [⟨some 10, .move (.tmp 4), 43, .always⟩,
 ⟨some 2, .assign (.tmp 10), 43, .always⟩] [2])
 (.ret)))
theorem w54 {args : List PV} {σ σ' : List Frm} {r : Ret} (hr : ∀ p, r = .val p → erV p = p) (h : wpP cfg s54 (QEndP cfg [.tmp 2] σ' r) ⟨initEnv args, fun _ => [], σ, ⟨fun _ => false, 0⟩⟩) : CallsV cfg 54 args σ r σ' :=
 callsV_of_p follows cfgT a54 (fn := Tryz.f54) (c := Tryz.f54.body.getD .skip) (by kernel_rfl) (by kernel_rfl) (by kernel_rfl) (by kernel_rfl) (by kernel_rfl) (sc := s54) (by kernel_rfl) [.tmp 2] (by kernel_rfl) hr h
def a57 : List Ann := [⟨[1, 2], [], []⟩,
 ⟨[1, 2, 3], [], []⟩,
 ⟨[2, 3, 10, 11, 12], [], []⟩,
 ⟨[2, 3, 10, 11, 12, 13], [], []⟩,
 ⟨[2, 3, 5, 10, 11, 12], [], []⟩,
 ⟨[2, 3, 10, 11, 12], [0, 1, 0, 4, 12, 31, 63, 127], [false, true, false, true, false, false, false, false]⟩,
 ⟨[2, 3, 10, 11, 12], [], []⟩,
 ⟨[2], [], []⟩]
def s57 : SC := .seq (.ops [⟨some 1, .box 30 (.tmp 0), 0, .always⟩,
 ⟨some 2, .alloc 30, 0, .always⟩] [1, 2])
 (.seq (.ops [⟨some 6, .fieldAddr 30 (.tmp 1) 0, 0, .always⟩,
 ⟨some 7, .load 3 (.tmp 6), 3, .always⟩,
 ⟨some 8, .build 30 #[(0, .tmp 7)], 30, .always⟩,
 ⟨some 3, .alloc 30, 0, .always⟩,
 ⟨none, .store 30 (.tmp 3) (.tmp 8), 0, .always⟩] [1, 2, 3])
 (.seq (.seq (.ops [⟨some 9, .fieldAddr 30 (.tmp 1) 1, 0, .always⟩,
 ⟨some 10, .load 27 (.tmp 9), 27, .always⟩,
 ⟨some 11, .call { callee := .builtin .len, args := #[.tmp 10], argTypes := #[27] }, 3, .always⟩,
 ⟨some 12, .move (.const (.int .i64 0)), 3, .always⟩] [2, 3, 10, 11, 12])
 (.block 0
 (.loop
 (.seq (.ops [⟨some 13, .binOp .lss 3 (.tmp 12) (.tmp 11) 3, 0, .always⟩] [2, 3, 10, 11, 12, 13])
 (.seq (.cond (.tmp 13)
 (.skip)
 (.exit 0))
 (.seq (.block 1
 (.seq (.ops [⟨some 14, .indexAddr 27 (.tmp 10) (.tmp 12), 0, .always⟩,
 ⟨some 15, .load 30 (.tmp 14), 30, .always⟩,
 ⟨some 5, .alloc 30, 0, .always⟩,
 ⟨none, .store 30 (.tmp 5) (.tmp 15), 0, .always⟩] [2, 3, 5, 10, 11, 12])
 (.draw [⟨some 16, .fieldAddr 30 (.tmp 3) 1, 0, .always⟩,
 ⟨some 17, .load 27 (.tmp 16), 27, .always⟩,
 ⟨some 18, .load 30 (.tmp 5), 30, .always⟩,
 ⟨some 19, .call { callee := .value (.func 57), args := #[.tmp 18], argTypes := #[30] }, 30, .always⟩,
 ⟨some 20, .buildSlice 27 1 #[(0, .tmp 19)], 27, .always⟩,
 ⟨some 21, .call { callee := .builtin .append, args := #[.tmp 17, .tmp 20], argTypes := #[27, 27] }, 27, .always⟩,
 ⟨some 22, .fieldAddr 30 (.tmp 3) 1, 0, .always⟩,
 ⟨none, .store 27 (.tmp 22) (.tmp 21), 0, .always⟩] [false, true, false, true, false, false, false, false] [2, 3, 10, 11, 12])))
 (.ops [⟨some 23, .binOp .add 3 (.tmp 12) (.const (.int .i64 1)) 3, 3, .always⟩,
 ⟨some 12, .move (.tmp 23), 3, .always⟩] [2, 3, 10, 11, 12])))))))
 (.seq (.ops [⟨some 24, .load 30 (.tmp 3), 30, .always⟩,
 ⟨none, .store 30 (.tmp 2) (.tmp 24), 0, .always⟩] [2])
 (.ret))))
theorem w57 {args : List PV} {σ σ' : List Frm} {r : Ret} (hr : ∀ p, r = .val p → erV p = p) (h : wpP cfg s57 (QEndP cfg [.cell 2 30] σ' r) ⟨initEnv args, fun _ => [], σ, ⟨fun _ => false, 0⟩⟩) : CallsV cfg 57 args σ r σ' :=
 callsV_of_p follows cfgT a57 (fn := Tryz.f57) (c := Tryz.f57.body.getD .skip) (by kernel_rfl) (by kernel_rfl) (by kernel_rfl) (by kernel_rfl) (by kernel_rfl) (sc := s57) (by kernel_rfl) [.cell 2 30] (by kernel_rfl) hr h
def a55 : List Ann := [⟨[1, 3], [], []⟩,
 ⟨[1, 3, 4], [], []⟩,
 ⟨[1, 3, 4, 7], [], []⟩,
 ⟨[1, 3, 4], [0, 0, 2, 6, 14, 31, 0, 64, 192, 448, 63, 2047], [false, false, false, true, false, true, false, true, false, true, false, false]⟩,
 ⟨[2, 3], [0, 0, 1, 7], [false, false, false, false]⟩]
def s55 : SC := .seq (.ops [⟨some 1, .box 35 (.tmp 0), 0, .always⟩,
 ⟨some 2, .assign (.const (.slice none 0 0)), 27, .always⟩,
 ⟨some 3, .alloc 35, 0, .always⟩] [1, 3])
 (.seq (.ops [⟨some 4, .assign (.const (.slice none 0 0)), 27, .always⟩] [1, 3, 4])
 (.seq (.block 0
 (.loop
 (.seq (.seq (.ops [⟨some 5, .fieldAddr 35 (.tmp 1) 0, 0, .always⟩,
 ⟨some 6, .load 3 (.tmp 5), 3, .always⟩,
 ⟨some 7, .binOp .eql 3 (.tmp 6) (.const (.int .i64 4)) 3, 4, .always⟩] [1, 3, 4, 7])
 (.cond (.tmp 7)
 (.skip)
 (.exit 0)))
 (.block 1
 (.draw [⟨some 8, .move (.tmp 4), 27, .always⟩,
 ⟨some 9, .fieldAddr 35 (.tmp 1) 1, 0, .always⟩,
 ⟨some 10, .load 30 (.tmp 9), 30, .always⟩,
 ⟨some 11, .call { callee := .value (.func 57), args := #[.tmp 10], argTypes := #[30] }, 30, .always⟩,
 ⟨some 12, .buildSlice 27 1 #[(0, .tmp 11)], 27, .always⟩,
 ⟨some 13, .call { callee := .builtin .append, args := #[.tmp 8, .tmp 12], argTypes := #[27, 27] }, 27, .always⟩,
 ⟨some 14, .fieldAddr 35 (.tmp 1) 3, 0, .always⟩,
 ⟨some 15, .load 33 (.tmp 14), 33, .always⟩,
 ⟨some 16, .indexAddr 33 (.tmp 15) (.const (.int .i64 0)), 0, .always⟩,
 ⟨some 17, .load 35 (.tmp 16), 35, .always⟩,
 ⟨some 4, .assign (.tmp 13), 27, .always⟩,
 ⟨none, .store 35 (.tmp 1) (.tmp 17), 0, .always⟩] [false, false, false, true, false, true, false, true, false, true, false, false] [1, 3, 4])))))
 (.seq (.draw [⟨some 18, .move (.tmp 4), 27, .always⟩,
 ⟨some 19, .load 35 (.tmp 1), 35, .always⟩,
 ⟨some 2, .assign (.tmp 18), 27, .always⟩,
 ⟨none, .store 35 (.tmp 3) (.tmp 19), 0, .always⟩] [false, false, false, false] [2, 3])
 (.ret))))
theorem w55 {args : List PV} {σ σ' : List Frm} {r : Ret} (hr : ∀ p, r = .val p → erV p = p) (h : wpP cfg s55 (QEndP cfg [.tmp 2, .cell 3 35] σ' r) ⟨initEnv args, fun _ => [], σ, ⟨fun _ => false, 0⟩⟩) : CallsV cfg 55 args σ r σ' :=
 callsV_of_p follows cfgT a55 (fn := Tryz.f55) (c := Tryz.f55.body.getD .skip) (by kernel_rfl) (by kernel_rfl) (by kernel_rfl) (by kernel_rfl) (by kernel_rfl) (sc := s55) (by kernel_rfl) [.tmp 2, .cell 3 35] (by kernel_rfl) hr h
def a79 : List Ann := [⟨[0], [], []⟩,
 ⟨[4], [], []⟩,
 ⟨[2, 3], [], []⟩,
 ⟨[2, 3], [], []⟩]
def s79 : SC := .seq (.ops [⟨some 2, .assign (.const (.int .i64 0)), 3, .always⟩,
 ⟨some 3, .assign (.const (.int .i64 0)), 3, .always⟩] [0])
 (.seq (.seq (.ops [⟨some 4, .move (.tmp 0), 4, .always⟩] [4])
 (.cond (.tmp 4)
 (.seq (.ops [⟨some 2, .assign (.const (.int .i64 4)), 3, .always⟩,
 ⟨some 3, .assign (.const (.int .i64 3)), 3, .always⟩] [2, 3])
 (.ret))
 (.skip)))
 (.seq (.ops [⟨some 2, .assign (.const (.int .i64 5)), 3, .always⟩,
 ⟨some 3, .assign (.const (.int .i64 2)), 3, .always⟩] [2, 3])
 (.ret)))
theorem w79 {args : List PV} {σ σ' : List Frm} {r : Ret} (hr : ∀ p, r = .val p → erV p = p) (h : wpP cfg s79 (QEndP cfg [.tmp 2, .tmp 3] σ' r) ⟨initEnv args, fun _ => [], σ, ⟨fun _ => false, 0⟩⟩) : CallsV cfg 79 args σ r σ' :=
 callsV_of_p follows cfgT a79 (fn := Tryz.f79) (c := Tryz.f79.body.getD .skip) (by kernel_rfl) (by kernel_rfl) (by kernel_rfl) (by kernel_rfl) (by kernel_rfl) (sc := s79) (by kernel_rfl) [.tmp 2, .tmp 3] (by kernel_rfl) hr h
def a116 : List Ann := [⟨[2, 3, 4], [], []⟩,
 ⟨[4], [], []⟩]
def s116 : SC := .seq (.ops [⟨some 2, .box 51 (.tmp 0), 0, .always⟩,
 ⟨some 3, .box 51 (.tmp 1), 0, .always⟩,
 ⟨some 4, .alloc 35, 0, .always⟩] [2, 3, 4])
 (.seq (.ops [⟨some 5, .load 51 (.tmp 2), 51, .always⟩,
 ⟨some 6, .load 51 (.tmp 3), 51, .always⟩,
 ⟨some 7, .buildSlice 32 2 #[(0, .tmp 5), (1, .tmp 6)], 32, .always⟩,
 ⟨some 8, .build 35 #[(0, .const (.int .i64 1)), (2, .tmp 7)], 35, .always⟩,
 ⟨none, .store 35 (.tmp 4) (.tmp 8), 0, .always⟩] [4])
 (.ret))
theorem w116 {args : List PV} {σ σ' : List Frm} {r : Ret} (hr : ∀ p, r = .val p → erV p = p) (h : wpP cfg s116 (QEndP cfg [.cell 4 35] σ' r) ⟨initEnv args, fun _ => [], σ, ⟨fun _ => false, 0⟩⟩) : CallsV cfg 116 args σ r σ' :=
 callsV_of_p follows cfgT a116 (fn := Tryz.f116) (c := Tryz.f116.body.getD .skip) (by kernel_rfl) (by kernel_rfl) (by kernel_rfl) (by kernel_rfl) (by kernel_rfl) (sc := s116) (by kernel_rfl) [.cell 4 35] (by kernel_rfl) hr h
def a119 : List Ann := [⟨[0, 1, 4], [], []⟩,
 ⟨[4], [], []⟩]
def s119 : SC := .seq (.ops [⟨some 4, .alloc 51, 0, .always⟩] [0, 1, 4])
 (.seq (.ops [⟨some 5, .move (.tmp 0), 3, .always⟩,
 ⟨some 6, .move (.tmp 1), 32, .always⟩,
 ⟨some 7, .build 51 #[(0, .tmp 5), (3, .tmp 6)], 51, .always⟩,
 ⟨none, .store 51 (.tmp 4) (.tmp 7), 0, .always⟩] [4])
 (.ret))
theorem w119 {args : List PV} {σ σ' : List Frm} {r : Ret} (hr : ∀ p, r = .val p → erV p = p) (h : wpP cfg s119 (QEndP cfg [.cell 4 51] σ' r) ⟨initEnv args, fun _ => [], σ, ⟨fun _ => false, 0⟩⟩) : CallsV cfg 119 args σ r σ' :=
 callsV_of_p follows cfgT a119 (fn := Tryz.f119) (c := Tryz.f119.body.getD .skip) (by kernel_rfl) (by kernel_rfl) (by kernel_rfl) (by kernel_rfl) (by kernel_rfl) (sc := s119) (by kernel_rfl) [.cell 4 51] (by kernel_rfl) hr h
def a117 : List Ann := [⟨[1, 2, 4], [], []⟩,
 ⟨[2, 4, 7, 8, 9], [], []⟩,
 ⟨[2, 4, 7, 8, 9, 10], [], []⟩,
 ⟨[2, 4, 6, 7, 8, 9], [], []⟩,
 ⟨[2, 4, 7, 8, 9], [], []⟩,
 ⟨[2, 4, 7, 8, 9], [], []⟩,
 ⟨[4], [], []⟩]
def s117 : SC := .seq (.ops [⟨some 2, .box 51 (.tmp 0), 0, .always⟩,
 ⟨some 4, .alloc 51, 0, .always⟩] [1, 2, 4])
 (.seq (.seq (.ops [⟨some 7, .move (.tmp 1), 32, .always⟩,
 ⟨some 8, .call { callee := .builtin .len, args := #[.tmp 7], argTypes := #[32] }, 3, .always⟩,
 ⟨some 9, .move (.const (.int .i64 0)), 3, .always⟩] [2, 4, 7, 8, 9])
 (.block 0
 (.loop
 (.seq (.ops [⟨some 10, .binOp .lss 3 (.tmp 9) (.tmp 8) 3, 0, .always⟩] [2, 4, 7, 8, 9, 10])
 (.seq (.cond (.tmp 10)
 (.skip)
 (.exit 0))
 (.seq (.block 1
 (.seq (.ops [⟨some 11, .indexAddr 32 (.tmp 7) (.tmp 9), 0, .always⟩,
 ⟨some 12, .load 51 (.tmp 11), 51, .always⟩,
 ⟨some 6, .alloc 51, 0, .always⟩,
 ⟨none, .store 51 (.tmp 6) (.tmp 12), 0, .always⟩] [2, 4, 6, 7, 8, 9])
 (.ops [⟨some 13, .load 51 (.tmp 2), 51, .always⟩,
 ⟨some 14, .load 51 (.tmp 6), 51, .always⟩,
 ⟨some 15, .buildSlice 32 2 #[(0, .tmp 13), (1, .tmp 14)], 32, .always⟩,
 ⟨some 16, .call { callee := .value (.func 119), args := #[.const (.int .i64 3), .tmp 15], argTypes := #[3, 32] }, 51, .always⟩,
 ⟨none, .store 51 (.tmp 2) (.tmp 16), 0, .always⟩] [2, 4, 7, 8, 9])))
 (.ops [⟨some 17, .binOp .add 3 (.tmp 9) (.const (.int .i64 1)) 3, 3, .always⟩,
 ⟨some 9, .move (.tmp 17), 3, .always⟩] [2, 4, 7, 8, 9])))))))
 (.seq (.ops [⟨some 18, .load 51 (.tmp 2), 51, .always⟩,
 ⟨none, .store 51 (.tmp 4) (.tmp 18), 0, .always⟩] [4])
 (.ret)))
theorem w117 {args : List PV} {σ σ' : List Frm} {r : Ret} (hr : ∀ p, r = .val p → erV p = p) (h : wpP cfg s117 (QEndP cfg [.cell 4 51] σ' r) ⟨initEnv args, fun _ => [], σ, ⟨fun _ => false, 0⟩⟩) : CallsV cfg 117 args σ r σ' :=
 callsV_of_p follows cfgT a117 (fn := Tryz.f117) (c := Tryz.f117.body.getD .skip) (by kernel_rfl) (by kernel_rfl) (by kernel_rfl) (by kernel_rfl) (by kernel_rfl) (sc := s117) (by kernel_rfl) [.cell 4 51] (by kernel_rfl) hr h
def a84 : List Ann := [⟨[0, 2], [], []⟩,
 ⟨[2], [], []⟩]
def s84 : SC := .seq (.ops [⟨some 2, .alloc 51, 0, .always⟩] [0, 2])
 (.seq (.ops [⟨some 3, .move (.tmp 0), 3, .always⟩,
 ⟨some 4, .build 51 #[(0, .const (.int .i64 1)), (1, .tmp 3)], 51, .always⟩,
 ⟨none, .store 51 (.tmp 2) (.tmp 4), 0, .always⟩] [2])
 (.ret))
theorem w84 {args : List PV} {σ σ' : List Frm} {r : Ret} (hr : ∀ p, r = .val p → erV p = p) (h : wpP cfg s84 (QEndP cfg [.cell 2 51] σ' r) ⟨initEnv args, fun _ => [], σ, ⟨fun _ => false, 0⟩⟩) : CallsV cfg 84 args σ r σ' :=
 callsV_of_p follows cfgT a84 (fn := Tryz.f84) (c := Tryz.f84.body.getD .skip) (by kernel_rfl) (by kernel_rfl) (by kernel_rfl) (by kernel_rfl) (by kernel_rfl) (sc := s84) (by kernel_rfl) [.cell 2 51] (by kernel_rfl) hr h
def a81 : List Ann := [⟨[0], [], []⟩,
 ⟨[0], [], []⟩]
def s81 : SC := .seq (.ops [⟨some 0, .alloc 30, 0, .always⟩] [0])
 (.seq (.ops [⟨some 1, .build 30 #[(0, .const (.int .i64 1))], 30, .always⟩,
 ⟨none, .store 30 (.tmp 0) (.tmp 1), 0, .always⟩] [0])
 (.ret))
theorem w81 {args : List PV} {σ σ' : List Frm} {r : Ret} (hr : ∀ p, r = .val p → erV p = p) (h : wpP cfg s81 (QEndP cfg [.cell 0 30] σ' r) ⟨initEnv args, fun _ => [], σ, ⟨fun _ => false, 0⟩⟩) : CallsV cfg 81 args σ r σ' :=
 callsV_of_p follows cfgT a81 (fn := Tryz.f81) (c := Tryz.f81.body.getD .skip) (by kernel_rfl) (by kernel_rfl) (by kernel_rfl) (by kernel_rfl) (by kernel_rfl) (sc := s81) (by kernel_rfl) [.cell 0 30] (by kernel_rfl) hr h
def a152 : List Ann := [⟨[1, 2, 4], [], []⟩,
 ⟨[1, 2, 4, 5], [], []⟩,
 ⟨[1, 2, 4, 5, 10], [], []⟩,
 ⟨[1, 2, 4, 5], [], []⟩,
 ⟨[1, 2, 4, 5], [0, 0, 3, 7, 0, 16, 63, 127], [false, false, false, false, false, false, false, false]⟩,
 ⟨[4], [], []⟩]
def s152 : SC := .seq (.ops [⟨some 2, .box 51 (.tmp 0), 0, .always⟩,
 ⟨some 4, .alloc 51, 0, .always⟩] [1, 2, 4])
 (.seq (.seq (.ops [⟨some 6, .move (.tmp 1), 27, .always⟩,
 ⟨some 7, .call { callee := .builtin .len, args := #[.tmp 6], argTypes := #[27] }, 3, .always⟩,
 ⟨some 8, .binOp .sub 3 (.tmp 7) (.const (.int .i64 1)) 3, 3, .always⟩,
 ⟨some 5, .assign (.tmp 8), 3, .always⟩] [1, 2, 4, 5])
 (.block 0
 (.loop
 (.seq (.seq (.ops [⟨some 9, .move (.tmp 5), 3, .always⟩,
 ⟨some 10, .binOp .geq 3 (.tmp 9) (.const (.int .i64 0)) 3, 4, .always⟩] [1, 2, 4, 5, 10])
 (.cond (.tmp 10)
 (.skip)
 (.exit 0)))
 (.seq (.block 1
 (.draw [⟨some 13, .move (.tmp 1), 27, .always⟩,
 ⟨some 14, .move (.tmp 5), 3, .always⟩,
 ⟨some 15, .indexAddr 27 (.tmp 13) (.tmp 14), 0, .always⟩,
 ⟨some 16, .load 30 (.tmp 15), 30, .always⟩,
 ⟨some 17, .load 51 (.tmp 2), 51, .always⟩,
 ⟨some 18, .buildSlice 32 1 #[(0, .tmp 17)], 32, .always⟩,
 ⟨some 19, .build 51 #[(0, .const (.int .i64 2)), (2, .tmp 16), (3, .tmp 18)], 51, .always⟩,
 ⟨none, .store 51 (.tmp 2) (.tmp 19), 0, .always⟩] [false, false, false, false, false, false, false, false] [1, 2, 4, 5]))
 (.ops [⟨some 11, .move (.tmp 5), 3, .always⟩,
 ⟨some 12, .binOp .sub 3 (.tmp 11) (.const (.int .i64 1)) 3, 3, .always⟩,
 ⟨some 5, .assign (.tmp 12), 3, .always⟩] [1, 2, 4, 5]))))))
 (.seq (.ops [⟨some 20, .load 51 (.tmp 2), 51, .always⟩,
 ⟨none, .store 51 (.tmp 4) (.tmp 20), 0, .always⟩] [4])
 (.ret)))
theorem w152 {args : List PV} {σ σ' : List Frm} {r : Ret} (hr : ∀ p, r = .val p → erV p = p) (h : wpP cfg s152 (QEndP cfg [.cell 4 51] σ' r) ⟨initEnv args, fun _ => [], σ, ⟨fun _ => false, 0⟩⟩) : CallsV cfg 152 args σ r σ' :=
 callsV_of_p follows cfgT a152 (fn := Tryz.f152) (c := Tryz.f152.body.getD .skip) (by kernel_rfl) (by kernel_rfl) (by kernel_rfl) (by kernel_rfl) (by kernel_rfl) (sc := s152) (by kernel_rfl) [.cell 4 51] (by kernel_rfl) hr h
def a139 : List Ann := [⟨[1, 2], [], []⟩,
 ⟨[2], [0, 0, 2, 6, 15, 31], [true, true, true, false, false, false]⟩]
def s139 : SC := .seq (.ops [⟨some 1, .box 51 (.tmp 0), 0, .always⟩,
 ⟨some 2, .alloc 51, 0, .always⟩] [1, 2])
 (.seq (.draw [⟨some 3, .load 51 (.tmp 1), 51, .always⟩,
 ⟨some 4, .call { callee := .value (.func 81), args := #[], argTypes := #[] }, 30, .always⟩,
 ⟨some 5, .call { callee := .value (.func 81), args := #[], argTypes := #[] }, 30, .always⟩,
 ⟨some 6, .buildSlice 27 2 #[(0, .tmp 4), (1, .tmp 5)], 27, .always⟩,
 ⟨some 7, .call { callee := .value (.func 152), args := #[.tmp 3, .tmp 6], argTypes := #[51, 27] }, 51, .always⟩,
 ⟨none, .store 51 (.tmp 2) (.tmp 7), 0, .always⟩] [true, true, true, false, false, false] [2])
 (.ret))
theorem w139 {args : List PV} {σ σ' : List Frm} {r : Ret} (hr : ∀ p, r = .val p → erV p = p) (h : wpP cfg s139 (QEndP cfg [.cell 2 51] σ' r) ⟨initEnv args, fun _ => [], σ, ⟨fun _ => false, 0⟩⟩) : CallsV cfg 139 args σ r σ' :=
 callsV_of_p follows cfgT a139 (fn := Tryz.f139) (c := Tryz.f139.body.getD .skip) (by kernel_rfl) (by kernel_rfl) (by kernel_rfl) (by kernel_rfl) (by kernel_rfl) (sc := s139) (by kernel_rfl) [.cell 2 51] (by kernel_rfl) hr h
def a153 : List Ann := [⟨[0, 6, 7, 8, 9, 10], [], []⟩,
 ⟨[10], [], []⟩]
def s153 : SC := .seq (.ops [⟨some 6, .box 30 (.tmp 1), 0, .always⟩,
 ⟨some 7, .box 51 (.tmp 2), 0, .always⟩,
 ⟨some 8, .box 51 (.tmp 3), 0, .always⟩,
 ⟨some 9, .box 51 (.tmp 4), 0, .always⟩,
 ⟨some 10, .alloc 51, 0, .always⟩] [0, 6, 7, 8, 9, 10])
 (.seq (.ops [⟨some 11, .move (.tmp 0), 3, .always⟩,
 ⟨some 12, .load 30 (.tmp 6), 30, .always⟩,
 ⟨some 13, .load 51 (.tmp 7), 51, .always⟩,
 ⟨some 14, .load 51 (.tmp 8), 51, .always⟩,
 ⟨some 15, .load 51 (.tmp 9), 51, .always⟩,
 ⟨some 16, .buildSlice 32 3 #[(0, .tmp 13), (1, .tmp 14), (2, .tmp 15)], 32, .always⟩,
 ⟨some 17, .build 51 #[(0, .tmp 11), (2, .tmp 12), (3, .tmp 16)], 51, .always⟩,
 ⟨none, .store 51 (.tmp 10) (.tmp 17), 0, .always⟩] [10])
 (.ret))
theorem w153 {args : List PV} {σ σ' : List Frm} {r : Ret} (hr : ∀ p, r = .val p → erV p = p) (h : wpP cfg s153 (QEndP cfg [.cell 10 51] σ' r) ⟨initEnv args, fun _ => [], σ, ⟨fun _ => false, 0⟩⟩) : CallsV cfg 153 args σ r σ' :=
 callsV_of_p follows cfgT a153 (fn := Tryz.f153) (c := Tryz.f153.body.getD .skip) (by kernel_rfl) (by kernel_rfl) (by kernel_rfl) (by kernel_rfl) (by kernel_rfl) (sc := s153) (by kernel_rfl) [.cell 10 51] (by kernel_rfl) hr h
def a140 : List Ann := [⟨[3, 4, 5, 6], [], []⟩,
 ⟨[6], [0, 0, 0, 1, 9, 25, 61, 0, 255, 511], [true, true, true, true, true, false, true, true, false, false]⟩]
def s140 : SC := .seq (.ops [⟨some 3, .box 51 (.tmp 0), 0, .always⟩,
 ⟨some 4, .box 51 (.tmp 1), 0, .always⟩,
 ⟨some 5, .box 51 (.tmp 2), 0, .always⟩,
 ⟨some 6, .alloc 51, 0, .always⟩] [3, 4, 5, 6])
 (.seq (.draw [⟨some 7, .call { callee := .value (.func 81), args := #[], argTypes := #[] }, 30, .always⟩,
 ⟨some 8, .load 51 (.tmp 3), 51, .always⟩,
 ⟨some 9, .load 51 (.tmp 4), 51, .always⟩,
 ⟨some 10, .call { callee := .value (.func 81), args := #[], argTypes := #[] }, 30, .always⟩,
 ⟨some 11, .call { callee := .value (.func 81), args := #[], argTypes := #[] }, 30, .always⟩,
 ⟨some 12, .buildSlice 27 2 #[(0, .tmp 10), (1, .tmp 11)], 27, .always⟩,
 ⟨some 13, .call { callee := .value (.func 152), args := #[.tmp 9, .tmp 12], argTypes := #[51, 27] }, 51, .always⟩,
 ⟨some 14, .load 51 (.tmp 5), 51, .always⟩,
 ⟨some 15, .call { callee := .value (.func 153), args := #[.const (.int .i64 6), .tmp 7, .tmp 8, .tmp 13, .tmp 14], argTypes := #[3, 30, 51, 51, 51] }, 51, .always⟩,
 ⟨none, .store 51 (.tmp 6) (.tmp 15), 0, .always⟩] [true, true, true, true, true, false, true, true, false, false] [6])
 (.ret))
theorem w140 {args : List PV} {σ σ' : List Frm} {r : Ret} (hr : ∀ p, r = .val p → erV p = p) (h : wpP cfg s140 (QEndP cfg [.cell 6 51] σ' r) ⟨initEnv args, fun _ => [], σ, ⟨fun _ => false, 0⟩⟩) : CallsV cfg 140 args σ r σ' :=
 callsV_of_p follows cfgT a140 (fn := Tryz.f140) (c := Tryz.f140.body.getD .skip) (by kernel_rfl) (by kernel_rfl) (by kernel_rfl) (by kernel_rfl) (by kernel_rfl) (sc := s140) (by kernel_rfl) [.cell 6 51] (by kernel_rfl) hr h
def a141 : List Ann := [⟨[0], [], []⟩,
 ⟨[0], [], []⟩]
def s141 : SC := .seq (.ops [⟨some 0, .alloc 51, 0, .always⟩] [0])
 (.seq (.ops [⟨some 1, .call { callee := .value (.func 119), args := #[.const (.int .i64 4), .const (.slice none 0 0)], argTypes := #[3, 32] }, 51, .always⟩,
 ⟨some 2, .call { callee := .value (.func 84), args := #[.const (.int .i64 1)], argTypes := #[3] }, 51, .always⟩,
 ⟨some 3, .call { callee := .value (.func 84), args := #[.const (.int .i64 0)], argTypes := #[3] }, 51, .always⟩,
 ⟨some 4, .call { callee := .value (.func 140), args := #[.tmp 1, .tmp 2, .tmp 3], argTypes := #[51, 51, 51] }, 51, .always⟩,
 ⟨some 5, .call { callee := .value (.func 81), args := #[], argTypes := #[] }, 30, .always⟩,
 ⟨some 6, .buildSlice 27 1 #[(0, .tmp 5)], 27, .always⟩,
 ⟨some 7, .call { callee := .value (.func 152), args := #[.tmp 4, .tmp 6], argTypes := #[51, 27] }, 51, .always⟩,
 ⟨none, .store 51 (.tmp 0) (.tmp 7), 0, .always⟩] [0])
 (.ret))
theorem w141 {args : List PV} {σ σ' : List Frm} {r : Ret} (hr : ∀ p, r = .val p → erV p = p) (h : wpP cfg s141 (QEndP cfg [.cell 0 51] σ' r) ⟨initEnv args, fun _ => [], σ, ⟨fun _ => false, 0⟩⟩) : CallsV cfg 141 args σ r σ' :=
 callsV_of_p follows cfgT a141 (fn := Tryz.f141) (c := Tryz.f141.body.getD .skip) (by kernel_rfl) (by kernel_rfl) (by kernel_rfl) (by kernel_rfl) (by kernel_rfl) (sc := s141) (by kernel_rfl) [.cell 0 51] (by kernel_rfl) hr h
def a118 : List Ann := [⟨[0], [], []⟩,
 ⟨[0], [], []⟩]
def s118 : SC := .seq (.ops [⟨some 0, .alloc 51, 0, .always⟩] [0])
 (.seq (.ops [⟨some 1, .call { callee := .value (.func 84), args := #[.const (.int .i64 1)], argTypes := #[3] }, 51, .always⟩,
 ⟨some 2, .call { callee := .value (.func 141), args := #[], argTypes := #[] }, 51, .always⟩,
 ⟨some 3, .call { callee := .value (.func 84), args := #[.const (.int .i64 0)], argTypes := #[3] }, 51, .always⟩,
 ⟨some 4, .buildSlice 32 1 #[(0, .tmp 3)], 32, .always⟩,
 ⟨some 5, .call { callee := .value (.func 117), args := #[.tmp 2, .tmp 4], argTypes := #[51, 32] }, 51, .always⟩,
 ⟨some 6, .call { callee := .value (.func 84), args := #[.const (.int .i64 0)], argTypes := #[3] }, 51, .always⟩,
 ⟨some 7, .call { callee := .value (.func 140), args := #[.tmp 1, .tmp 5, .tmp 6], argTypes := #[51, 51, 51] }, 51, .always⟩,
 ⟨some 8, .call { callee := .value (.func 139), args := #[.tmp 7], argTypes := #[51] }, 51, .always⟩,
 ⟨none, .store 51 (.tmp 0) (.tmp 8), 0, .always⟩] [0])
 (.ret))
theorem w118 {args : List PV} {σ σ' : List Frm} {r : Ret} (hr : ∀ p, r = .val p → erV p = p) (h : wpP cfg s118 (QEndP cfg [.cell 0 51] σ' r) ⟨initEnv args, fun _ => [], σ, ⟨fun _ => false, 0⟩⟩) : CallsV cfg 118 args σ r σ' :=
 callsV_of_p follows cfgT a118 (fn := Tryz.f118) (c := Tryz.f118.body.getD .skip) (by kernel_rfl) (by kernel_rfl) (by kernel_rfl) (by kernel_rfl) (by kernel_rfl) (sc := s118) (by kernel_rfl) [.cell 0 51] (by kernel_rfl) hr h
def a83 : List Ann := [⟨[2, 3, 4], [], []⟩,
 ⟨[4], [0, 0, 2, 7, 0, 31, 63, 127, 255, 511], [true, true, false, true, true, false, false, false, false, false]⟩]
def s83 : SC := .seq (.ops [⟨some 2, .box 51 (.tmp 0), 0, .always⟩,
 ⟨some 3, .box 51 (.tmp 1), 0, .always⟩,
 ⟨some 4, .alloc 35, 0, .always⟩] [2, 3, 4])
 (.seq (.draw [⟨some 5, .call { callee := .value (.func 118), args := #[], argTypes := #[] }, 51, .always⟩,
 ⟨some 6, .load 51 (.tmp 2), 51, .always⟩,
 ⟨some 7, .buildSlice 32 1 #[(0, .tmp 6)], 32, .always⟩,
 ⟨some 8, .call { callee := .value (.func 119), args := #[.const (.int .i64 5), .tmp 7], argTypes := #[3, 32] }, 51, .always⟩,
 ⟨some 9, .load 51 (.tmp 3), 51, .always⟩,
 ⟨some 10, .buildSlice 32 2 #[(0, .tmp 8), (1, .tmp 9)], 32, .always⟩,
 ⟨some 11, .call { callee := .value (.func 117), args := #[.tmp 5, .tmp 10], argTypes := #[51, 32] }, 51, .always⟩,
 ⟨some 12, .call { callee := .value (.func 119), args := #[.const (.int .i64 4), .const (.slice none 0 0)], argTypes := #[3, 32] }, 51, .always⟩,
 ⟨some 13, .call { callee := .value (.func 116), args := #[.tmp 11, .tmp 12], argTypes := #[51, 51] }, 35, .always⟩,
 ⟨none, .store 35 (.tmp 4) (.tmp 13), 0, .always⟩] [true, true, false, true, true, false, false, false, false, false] [4])
 (.ret))
theorem w83 {args : List PV} {σ σ' : List Frm} {r : Ret} (hr : ∀ p, r = .val p → erV p = p) (h : wpP cfg s83 (QEndP cfg [.cell 4 35] σ' r) ⟨initEnv args, fun _ => [], σ, ⟨fun _ => false, 0⟩⟩) : CallsV cfg 83 args σ r σ' :=
 callsV_of_p follows cfgT a83 (fn := Tryz.f83) (c := Tryz.f83.body.getD .skip) (by kernel_rfl) (by kernel_rfl) (by kernel_rfl) (by kernel_rfl) (by kernel_rfl) (sc := s83) (by kernel_rfl) [.cell 4 35] (by kernel_rfl) hr h
def a151 : List Ann := [⟨[1, 2, 3, 4], [], []⟩,
 ⟨[1, 2, 3, 4, 10], [], []⟩,
 ⟨[1, 3, 4], [], []⟩,
 ⟨[1, 3, 4, 18], [], []⟩,
 ⟨[1, 3, 4], [], []⟩,
 ⟨[1, 3, 22, 23, 24], [], []⟩,
 ⟨[1, 3, 22, 23, 24, 25], [], []⟩,
 ⟨[1, 3, 7, 22, 23, 24], [], []⟩,
 ⟨[1, 3, 22, 23, 24], [], []⟩,
 ⟨[1, 3, 22, 23, 24], [], []⟩]
def s151 : SC := .seq (.ops [⟨some 4, .box 51 (.tmp 0), 0, .always⟩] [1, 2, 3, 4])
 (.seq (.seq (.ops [⟨some 8, .fieldAddr 51 (.tmp 4) 0, 0, .always⟩,
 ⟨some 9, .load 3 (.tmp 8), 3, .always⟩,
 ⟨some 10, .binOp .eql 3 (.tmp 9) (.const (.int .i64 1)) 3, 4, .always⟩] [1, 2, 3, 4, 10])
 (.cond (.tmp 10)
 (.ops [⟨some 11, .load 126 (.tmp 2), 126, .always⟩,
 ⟨some 12, .fieldAddr 51 (.tmp 4) 1, 0, .always⟩,
 ⟨some 13, .load 3 (.tmp 12), 3, .always⟩,
 ⟨some 14, .move (.tmp 1), 3, .always⟩,
 ⟨some 15, .call { callee := .value (.tmp 11), args := #[.tmp 13, .tmp 14], argTypes := #[3, 3] }, 0, .always⟩] [1, 3, 4])
 (.skip)))
 (.seq (.seq (.ops [⟨some 16, .fieldAddr 51 (.tmp 4) 0, 0, .always⟩,
 ⟨some 17, .load 3 (.tmp 16), 3, .always⟩,
 ⟨some 18, .binOp .eql 3 (.tmp 17) (.const (.int .i64 2)) 3, 4, .always⟩] [1, 3, 4, 18])
 (.cond (.tmp 18)
 (.ops [⟨some 19, .move (.tmp 1), 3, .always⟩,
 ⟨some 20, .binOp .add 3 (.tmp 19) (.const (.int .i64 1)) 3, 3, .always⟩,
 ⟨some 1, .assign (.tmp 20), 3, .always⟩] [1, 3, 4])
 (.skip)))
 (.seq (.ops [⟨some 21, .fieldAddr 51 (.tmp 4) 3, 0, .always⟩,
 ⟨some 22, .load 32 (.tmp 21), 32, .always⟩,
 ⟨some 23, .call { callee := .builtin .len, args := #[.tmp 22], argTypes := #[32] }, 3, .always⟩,
 ⟨some 24, .move (.const (.int .i64 0)), 3, .always⟩] [1, 3, 22, 23, 24])
 (.block 0
 (.loop
 (.seq (.ops [⟨some 25, .binOp .lss 3 (.tmp 24) (.tmp 23) 3, 0, .always⟩] [1, 3, 22, 23, 24, 25])
 (.seq (.cond (.tmp 25)
 (.skip)
 (.exit 0))
 (.seq (.block 1
 (.seq (.ops [⟨some 26, .indexAddr 32 (.tmp 22) (.tmp 24), 0, .always⟩,
 ⟨some 27, .load 51 (.tmp 26), 51, .always⟩,
 ⟨some 7, .alloc 51, 0, .always⟩,
 ⟨none, .store 51 (.tmp 7) (.tmp 27), 0, .always⟩] [1, 3, 7, 22, 23, 24])
 (.ops [⟨some 28, .load 132 (.tmp 3), 132, .always⟩,
 ⟨some 29, .load 51 (.tmp 7), 51, .always⟩,
 ⟨some 30, .move (.tmp 1), 3, .always⟩,
 ⟨some 31, .call { callee := .value (.tmp 28), args := #[.tmp 29, .tmp 30], argTypes := #[51, 3] }, 0, .always⟩] [1, 3, 22, 23, 24])))
 (.ops [⟨some 32, .binOp .add 3 (.tmp 24) (.const (.int .i64 1)) 3, 3, .always⟩,
 ⟨some 24, .move (.tmp 32), 3, .always⟩] [1, 3, 22, 23, 24])))))))))
theorem w151 {args : List PV} {σ σ' : List Frm} {r : Ret} (hr : ∀ p, r = .val p → erV p = p) (h : wpP cfg s151 (QEndP cfg [] σ' r) ⟨initEnv args, fun _ => [], σ, ⟨fun _ => false, 0⟩⟩) : CallsV cfg 151 args σ r σ' :=
 callsV_of_p follows cfgT a151 (fn := Tryz.f151) (c := Tryz.f151.body.getD .skip) (by kernel_rfl) (by kernel_rfl) (by kernel_rfl) (by kernel_rfl) (by kernel_rfl) (sc := s151) (by kernel_rfl) [] (by kernel_rfl) hr h
def a136 : List Ann := [⟨[2, 3], [], []⟩,
 ⟨[2, 3, 4], [], []⟩,
 ⟨[2, 4], [], []⟩,
 ⟨[], [], []⟩]
def s136 : SC := .seq (.ops [⟨some 2, .box 51 (.tmp 0), 0, .always⟩,
 ⟨some 3, .box 126 (.tmp 1), 0, .always⟩] [2, 3])
 (.seq (.ops [⟨some 4, .alloc 132, 0, .always⟩] [2, 3, 4])
 (.seq (.ops [⟨some 5, .makeFunc (.func 151) #[] #[.tmp 3, .tmp 4], 132, .always⟩,
 ⟨none, .store 132 (.tmp 4) (.tmp 5), 0, .always⟩] [2, 4])
 (.ops [⟨some 6, .load 132 (.tmp 4), 132, .always⟩,
 ⟨some 7, .load 51 (.tmp 2), 51, .always⟩,
 ⟨some 8, .call { callee := .value (.tmp 6), args := #[.tmp 7, .const (.int .i64 0)], argTypes := #[51, 3] }, 0, .always⟩] [])))
theorem w136 {args : List PV} {σ σ' : List Frm} {r : Ret} (hr : ∀ p, r = .val p → erV p = p) (h : wpP cfg s136 (QEndP cfg [] σ' r) ⟨initEnv args, fun _ => [], σ, ⟨fun _ => false, 0⟩⟩) : CallsV cfg 136 args σ r σ' :=
 callsV_of_p follows cfgT a136 (fn := Tryz.f136) (c := Tryz.f136.body.getD .skip) (by kernel_rfl) (by kernel_rfl) (by kernel_rfl) (by kernel_rfl) (by kernel_rfl) (sc := s136) (by kernel_rfl) [] (by kernel_rfl) hr h
def a142 : List Ann := [⟨[3, 10], [], []⟩,
 ⟨[], [], []⟩]
def s142 : SC := .seq (.ops [⟨some 6, .move (.tmp 0), 3, .always⟩,
 ⟨some 7, .move (.tmp 1), 3, .always⟩,
 ⟨some 8, .binOp .sub 3 (.tmp 6) (.tmp 7) 3, 3, .always⟩,
 ⟨some 9, .load 3 (.tmp 2), 3, .always⟩,
 ⟨some 10, .binOp .eql 3 (.tmp 8) (.tmp 9) 3, 4, .always⟩] [3, 10])
 (.cond (.tmp 10)
 (.ops [⟨some 11, .load 3 (.tmp 3), 3, .always⟩,
 ⟨some 12, .binOp .add 3 (.tmp 11) (.const (.int .i64 1)) 3, 3, .always⟩,
 ⟨none, .store 3 (.tmp 3) (.tmp 12), 0, .always⟩] [])
 (.skip))
theorem w142 {args : List PV} {σ σ' : List Frm} {r : Ret} (hr : ∀ p, r = .val p → erV p = p) (h : wpP cfg s142 (QEndP cfg [] σ' r) ⟨initEnv args, fun _ => [], σ, ⟨fun _ => false, 0⟩⟩) : CallsV cfg 142 args σ r σ' :=
 callsV_of_p follows cfgT a142 (fn := Tryz.f142) (c := Tryz.f142.body.getD .skip) (by kernel_rfl) (by kernel_rfl) (by kernel_rfl) (by kernel_rfl) (by kernel_rfl) (sc := s142) (by kernel_rfl) [] (by kernel_rfl) hr h
def a120 : List Ann := [⟨[2, 3], [], []⟩,
 ⟨[2, 3, 5], [], []⟩,
 ⟨[5], [], []⟩,
 ⟨[4], [], []⟩]
def s120 : SC := .seq (.ops [⟨some 2, .box 51 (.tmp 0), 0, .always⟩,
 ⟨some 3, .box 3 (.tmp 1), 0, .always⟩,
 ⟨some 4, .assign (.const (.int .i64 0)), 3, .always⟩] [2, 3])
 (.seq (.ops [⟨some 5, .alloc 3, 0, .always⟩,
 ⟨none, .store 3 (.tmp 5) (.const (.int .i64 0)), 0, .always⟩] [2, 3, 5])
 (.seq (.ops [⟨some 6, .load 51 (.tmp 2), 51, .always⟩,
 ⟨some 7, .makeFunc (.func 142) #[] #[.tmp 3, .tmp 5], 126, .always⟩,
 ⟨some 8, .call { callee := .value (.func 136), args := #[.tmp 6, .tmp 7], argTypes := #[51, 126] }, 0, .always⟩] [5])
 (.seq (.ops [⟨some 9, .load 3 (.tmp 5), 3, .always⟩,
 ⟨some 4, .assign (.tmp 9), 3, .always⟩] [4])
 (.ret))))
theorem w120 {args : List PV} {σ σ' : List Frm} {r : Ret} (hr : ∀ p, r = .val p → erV p = p) (h : wpP cfg s120 (QEndP cfg [.tmp 4] σ' r) ⟨initEnv args, fun _ => [], σ, ⟨fun _ => false, 0⟩⟩) : CallsV cfg 120 args σ r σ' :=
 callsV_of_p follows cfgT a120 (fn := Tryz.f120) (c := Tryz.f120.body.getD .skip) (by kernel_rfl) (by kernel_rfl) (by kernel_rfl) (by kernel_rfl) (by kernel_rfl) (sc := s120) (by kernel_rfl) [.tmp 4] (by kernel_rfl) hr h
def a143 : List Ann := [⟨[2, 3], [], []⟩,
 ⟨[2, 3, 20], [], []⟩,
 ⟨[4], [], []⟩,
 ⟨[3, 22, 23, 24], [], []⟩,
 ⟨[3, 22, 23, 24, 25], [], []⟩,
 ⟨[3, 5, 6, 22, 23, 24], [], []⟩,
 ⟨[3, 22, 23, 24, 36], [0, 0, 2, 0, 14, 30, 63, 127], [false, false, false, false, false, false, false, false]⟩,
 ⟨[4], [], []⟩,
 ⟨[3, 22, 23, 24], [], []⟩,
 ⟨[4], [], []⟩]
def s143 : SC := .seq (.ops [⟨some 2, .box 30 (.tmp 0), 0, .always⟩,
 ⟨some 3, .box 30 (.tmp 1), 0, .always⟩,
 ⟨some 4, .assign (.const (.bool false)), 4, .always⟩] [2, 3])
 (.seq (.seq (.ops [⟨some 7, .fieldAddr 30 (.tmp 2) 0, 0, .always⟩,
 ⟨some 8, .load 3 (.tmp 7), 3, .always⟩,
 ⟨some 9, .fieldAddr 30 (.tmp 3) 0, 0, .always⟩,
 ⟨some 10, .load 3 (.tmp 9), 3, .always⟩,
 ⟨some 11, .binOp .neq 3 (.tmp 8) (.tmp 10) 3, 4, .always⟩,
 ⟨some 12, .move (.tmp 11), 4, .always⟩,
 ⟨some 13, .fieldAddr 30 (.tmp 2) 1, 0, .tmp 12 false⟩,
 ⟨some 14, .load 27 (.tmp 13), 27, .tmp 12 false⟩,
 ⟨some 15, .call { callee := .builtin .len, args := #[.tmp 14], argTypes := #[27] }, 3, .tmp 12 false⟩,
 ⟨some 16, .fieldAddr 30 (.tmp 3) 1, 0, .tmp 12 false⟩,
 ⟨some 17, .load 27 (.tmp 16), 27, .tmp 12 false⟩,
 ⟨some 18, .call { callee := .builtin .len, args := #[.tmp 17], argTypes := #[27] }, 3, .tmp 12 false⟩,
 ⟨some 19, .binOp .neq 3 (.tmp 15) (.tmp 18) 3, 4, .tmp 12 false⟩,
 ⟨some 20, .pick (.tmp 12) (.const (.bool true)) (.tmp 19), 4, .always⟩] [2, 3, 20])
 (.cond (.tmp 20)
 (.seq (.ops [⟨some 4, .assign (.const (.bool false)), 4, .always⟩] [4])
 (.ret))
 (.skip)))
 (.seq (.seq (.ops [⟨some 21, .fieldAddr 30 (.tmp 2) 1, 0, .always⟩,
 ⟨some 22, .load 27 (.tmp 21), 27, .always⟩,
 ⟨some 23, .call { callee := .builtin .len, args := #[.tmp 22], argTypes := #[27] }, 3, .always⟩,
 ⟨some 24, .move (.const (.int .i64 0)), 3, .always⟩] [3, 22, 23, 24])
 (.block 0
 (.loop
 (.seq (.ops [⟨some 25, .binOp .lss 3 (.tmp 24) (.tmp 23) 3, 0, .always⟩] [3, 22, 23, 24, 25])
 (.seq (.cond (.tmp 25)
 (.skip)
 (.exit 0))
 (.seq (.block 1
 (.seq (.ops [⟨some 26, .move (.tmp 24), 3, .always⟩,
 ⟨some 27, .indexAddr 27 (.tmp 22) (.tmp 24), 0, .always⟩,
 ⟨some 28, .load 30 (.tmp 27), 30, .always⟩,
 ⟨some 6, .alloc 30, 0, .always⟩,
 ⟨some 5, .assign (.tmp 26), 3, .always⟩,
 ⟨none, .store 30 (.tmp 6) (.tmp 28), 0, .always⟩] [3, 5, 6, 22, 23, 24])
 (.seq (.draw [⟨some 29, .load 30 (.tmp 6), 30, .always⟩,
 ⟨some 30, .fieldAddr 30 (.tmp 3) 1, 0, .always⟩,
 ⟨some 31, .load 27 (.tmp 30), 27, .always⟩,
 ⟨some 32, .move (.tmp 5), 3, .always⟩,
 ⟨some 33, .indexAddr 27 (.tmp 31) (.tmp 32), 0, .always⟩,
 ⟨some 34, .load 30 (.tmp 33), 30, .always⟩,
 ⟨some 35, .call { callee := .value (.func 143), args := #[.tmp 29, .tmp 34], argTypes := #[30, 30] }, 4, .always⟩,
 ⟨some 36, .unOp .not 4 (.tmp 35), 4, .always⟩] [false, false, false, false, false, false, false, false] [3, 22, 23, 24, 36])
 (.cond (.tmp 36)
 (.seq (.ops [⟨some 4, .assign (.const (.bool false)), 4, .always⟩] [4])
 (.ret))
 (.skip)))))
 (.ops [⟨some 37, .binOp .add 3 (.tmp 24) (.const (.int .i64 1)) 3, 3, .always⟩,
 ⟨some 24, .move (.tmp 37), 3, .always⟩] [3, 22, 23, 24])))))))
 (.seq (.ops [⟨some 4, .assign (.const (.bool true)), 4, .always⟩] [4])
 (.ret))))
theorem w143 {args : List PV} {σ σ' : List Frm} {r : Ret} (hr : ∀ p, r = .val p → erV p = p) (h : wpP cfg s143 (QEndP cfg [.tmp 4] σ' r) ⟨initEnv args, fun _ => [], σ, ⟨fun _ => false, 0⟩⟩) : CallsV cfg 143 args σ r σ' :=
 callsV_of_p follows cfgT a143 (fn := Tryz.f143) (c := Tryz.f143.body.getD .skip) (by kernel_rfl) (by kernel_rfl) (by kernel_rfl) (by kernel_rfl) (by kernel_rfl) (sc := s143) (by kernel_rfl) [.tmp 4] (by kernel_rfl) hr h
def a144 : List Ann := [⟨[2, 3], [], []⟩,
 ⟨[2, 3, 35], [], []⟩,
 ⟨[4], [], []⟩,
 ⟨[3, 37, 38, 39], [], []⟩,
 ⟨[3, 37, 38, 39, 40], [], []⟩,
 ⟨[3, 5, 6, 37, 38, 39], [], []⟩,
 ⟨[3, 37, 38, 39, 51], [0, 0, 2, 0, 14, 30, 63, 127], [false, false, false, false, false, false, false, false]⟩,
 ⟨[4], [], []⟩,
 ⟨[3, 37, 38, 39], [], []⟩,
 ⟨[4], [], []⟩]
def s144 : SC := .seq (.ops [⟨some 2, .box 51 (.tmp 0), 0, .always⟩,
 ⟨some 3, .box 51 (.tmp 1), 0, .always⟩,
 ⟨some 4, .assign (.const (.bool false)), 4, .always⟩] [2, 3])
 (.seq (.seq (.ops [⟨some 7, .fieldAddr 51 (.tmp 2) 0, 0, .always⟩,
 ⟨some 8, .load 3 (.tmp 7), 3, .always⟩,
 ⟨some 9, .fieldAddr 51 (.tmp 3) 0, 0, .always⟩,
 ⟨some 10, .load 3 (.tmp 9), 3, .always⟩,
 ⟨some 11, .binOp .neq 3 (.tmp 8) (.tmp 10) 3, 4, .always⟩,
 ⟨some 12, .move (.tmp 11), 4, .always⟩,
 ⟨some 13, .fieldAddr 51 (.tmp 2) 1, 0, .tmp 12 false⟩,
 ⟨some 14, .load 3 (.tmp 13), 3, .tmp 12 false⟩,
 ⟨some 15, .fieldAddr 51 (.tmp 3) 1, 0, .tmp 12 false⟩,
 ⟨some 16, .load 3 (.tmp 15), 3, .tmp 12 false⟩,
 ⟨some 17, .binOp .neq 3 (.tmp 14) (.tmp 16) 3, 4, .tmp 12 false⟩,
 ⟨some 18, .pick (.tmp 12) (.const (.bool true)) (.tmp 17), 4, .always⟩,
 ⟨some 19, .move (.tmp 18), 4, .always⟩,
 ⟨some 20, .fieldAddr 51 (.tmp 2) 2, 0, .tmp 19 false⟩,
 ⟨some 21, .load 30 (.tmp 20), 30, .tmp 19 false⟩,
 ⟨some 22, .fieldAddr 51 (.tmp 3) 2, 0, .tmp 19 false⟩,
 ⟨some 23, .load 30 (.tmp 22), 30, .tmp 19 false⟩,
 ⟨some 24, .call { callee := .value (.func 143), args := #[.tmp 21, .tmp 23], argTypes := #[30, 30] }, 4, .tmp 19 false⟩,
 ⟨some 25, .unOp .not 4 (.tmp 24), 4, .tmp 19 false⟩,
 ⟨some 26, .pick (.tmp 19) (.const (.bool true)) (.tmp 25), 4, .always⟩,
 ⟨some 27, .move (.tmp 26), 4, .always⟩,
 ⟨some 28, .fieldAddr 51 (.tmp 2) 3, 0, .tmp 27 false⟩,
 ⟨some 29, .load 32 (.tmp 28), 32, .tmp 27 false⟩,
 ⟨some 30, .call { callee := .builtin .len, args := #[.tmp 29], argTypes := #[32] }, 3, .tmp 27 false⟩,
 ⟨some 31, .fieldAddr 51 (.tmp 3) 3, 0, .tmp 27 false⟩,
 ⟨some 32, .load 32 (.tmp 31), 32, .tmp 27 false⟩,
 ⟨some 33, .call { callee := .builtin .len, args := #[.tmp 32], argTypes := #[32] }, 3, .tmp 27 false⟩,
 ⟨some 34, .binOp .neq 3 (.tmp 30) (.tmp 33) 3, 4, .tmp 27 false⟩,
 ⟨some 35, .pick (.tmp 27) (.const (.bool true)) (.tmp 34), 4, .always⟩] [2, 3, 35])
 (.cond (.tmp 35)
 (.seq (.ops [⟨some 4, .assign (.const (.bool false)), 4, .always⟩] [4])
 (.ret))
 (.skip)))
 (.seq (.seq (.ops [⟨some 36, .fieldAddr 51 (.tmp 2) 3, 0, .always⟩,
 ⟨some 37, .load 32 (.tmp 36), 32, .always⟩,
 ⟨some 38, .call { callee := .builtin .len, args := #[.tmp 37], argTypes := #[32] }, 3, .always⟩,
 ⟨some 39, .move (.const (.int .i64 0)), 3, .always⟩] [3, 37, 38, 39])
 (.block 0
 (.loop
 (.seq (.ops [⟨some 40, .binOp .lss 3 (.tmp 39) (.tmp 38) 3, 0, .always⟩] [3, 37, 38, 39, 40])
 (.seq (.cond (.tmp 40)
 (.skip)
 (.exit 0))
 (.seq (.block 1
 (.seq (.ops [⟨some 41, .move (.tmp 39), 3, .always⟩,
 ⟨some 42, .indexAddr 32 (.tmp 37) (.tmp 39), 0, .always⟩,
 ⟨some 43, .load 51 (.tmp 42), 51, .always⟩,
 ⟨some 6, .alloc 51, 0, .always⟩,
 ⟨some 5, .assign (.tmp 41), 3, .always⟩,
 ⟨none, .store 51 (.tmp 6) (.tmp 43), 0, .always⟩] [3, 5, 6, 37, 38, 39])
 (.seq (.draw [⟨some 44, .load 51 (.tmp 6), 51, .always⟩,
 ⟨some 45, .fieldAddr 51 (.tmp 3) 3, 0, .always⟩,
 ⟨some 46, .load 32 (.tmp 45), 32, .always⟩,
 ⟨some 47, .move (.tmp 5), 3, .always⟩,
 ⟨some 48, .indexAddr 32 (.tmp 46) (.tmp 47), 0, .always⟩,
 ⟨some 49, .load 51 (.tmp 48), 51, .always⟩,
 ⟨some 50, .call { callee := .value (.func 144), args := #[.tmp 44, .tmp 49], argTypes := #[51, 51] }, 4, .always⟩,
 ⟨some 51, .unOp .not 4 (.tmp 50), 4, .always⟩] [false, false, false, false, false, false, false, false] [3, 37, 38, 39, 51])
 (.cond (.tmp 51)
 (.seq (.ops [⟨some 4, .assign (.const (.bool false)), 4, .always⟩] [4])
 (.ret))
 (.skip)))))
 (.ops [⟨some 52, .binOp .add 3 (.tmp 39) (.const (.int .i64 1)) 3, 3, .always⟩,
 ⟨some 39, .move (.tmp 52), 3, .always⟩] [3, 37, 38, 39])))))))
 (.seq (.ops [⟨some 4, .assign (.const (.bool true)), 4, .always⟩] [4])
 (.ret))))
theorem w144 {args : List PV} {σ σ' : List Frm} {r : Ret} (hr : ∀ p, r = .val p → erV p = p) (h : wpP cfg s144 (QEndP cfg [.tmp 4] σ' r) ⟨initEnv args, fun _ => [], σ, ⟨fun _ => false, 0⟩⟩) : CallsV cfg 144 args σ r σ' :=
 callsV_of_p follows cfgT a144 (fn := Tryz.f144) (c := Tryz.f144.body.getD .skip) (by kernel_rfl) (by kernel_rfl) (by kernel_rfl) (by kernel_rfl) (by kernel_rfl) (sc := s144) (by kernel_rfl) [.tmp 4] (by kernel_rfl) hr h
def a121 : List Ann := [⟨[2, 3], [], []⟩,
 ⟨[2, 3, 39], [], []⟩,
 ⟨[4], [], []⟩,
 ⟨[2, 3, 41, 42, 43], [], []⟩,
 ⟨[2, 3, 41, 42, 43, 44], [], []⟩,
 ⟨[2, 3, 5, 6, 41, 42, 43], [], []⟩,
 ⟨[2, 3, 41, 42, 43, 55], [0, 0, 2, 0, 14, 30, 63, 127], [false, false, false, false, false, false, false, false]⟩,
 ⟨[4], [], []⟩,
 ⟨[2, 3, 41, 42, 43], [], []⟩,
 ⟨[3, 58, 59, 60], [], []⟩,
 ⟨[3, 58, 59, 60, 61], [], []⟩,
 ⟨[3, 7, 8, 58, 59, 60], [], []⟩,
 ⟨[3, 58, 59, 60, 72], [0, 0, 2, 0, 14, 30, 63, 127], [false, false, false, false, false, false, false, false]⟩,
 ⟨[4], [], []⟩,
 ⟨[3, 58, 59, 60], [], []⟩,
 ⟨[4], [], []⟩]
def s121 : SC := .seq (.ops [⟨some 2, .box 35 (.tmp 0), 0, .always⟩,
 ⟨some 3, .box 35 (.tmp 1), 0, .always⟩,
 ⟨some 4, .assign (.const (.bool false)), 4, .always⟩] [2, 3])
 (.seq (.seq (.ops [⟨some 9, .fieldAddr 35 (.tmp 2) 0, 0, .always⟩,
 ⟨some 10, .load 3 (.tmp 9), 3, .always⟩,
 ⟨some 11, .fieldAddr 35 (.tmp 3) 0, 0, .always⟩,
 ⟨some 12, .load 3 (.tmp 11), 3, .always⟩,
 ⟨some 13, .binOp .neq 3 (.tmp 10) (.tmp 12) 3, 4, .always⟩,
 ⟨some 14, .move (.tmp 13), 4, .always⟩,
 ⟨some 15, .fieldAddr 35 (.tmp 2) 1, 0, .tmp 14 false⟩,
 ⟨some 16, .load 30 (.tmp 15), 30, .tmp 14 false⟩,
 ⟨some 17, .fieldAddr 35 (.tmp 3) 1, 0, .tmp 14 false⟩,
 ⟨some 18, .load 30 (.tmp 17), 30, .tmp 14 false⟩,
 ⟨some 19, .call { callee := .value (.func 143), args := #[.tmp 16, .tmp 18], argTypes := #[30, 30] }, 4, .tmp 14 false⟩,
 ⟨some 20, .unOp .not 4 (.tmp 19), 4, .tmp 14 false⟩,
 ⟨some 21, .pick (.tmp 14) (.const (.bool true)) (.tmp 20), 4, .always⟩,
 ⟨some 22, .move (.tmp 21), 4, .always⟩,
 ⟨some 23, .fieldAddr 35 (.tmp 2) 2, 0, .tmp 22 false⟩,
 ⟨some 24, .load 32 (.tmp 23), 32, .tmp 22 false⟩,
 ⟨some 25, .call { callee := .builtin .len, args := #[.tmp 24], argTypes := #[32] }, 3, .tmp 22 false⟩,
 ⟨some 26, .fieldAddr 35 (.tmp 3) 2, 0, .tmp 22 false⟩,
 ⟨some 27, .load 32 (.tmp 26), 32, .tmp 22 false⟩,
 ⟨some 28, .call { callee := .builtin .len, args := #[.tmp 27], argTypes := #[32] }, 3, .tmp 22 false⟩,
 ⟨some 29, .binOp .neq 3 (.tmp 25) (.tmp 28) 3, 4, .tmp 22 false⟩,
 ⟨some 30, .pick (.tmp 22) (.const (.bool true)) (.tmp 29), 4, .always⟩,
 ⟨some 31, .move (.tmp 30), 4, .always⟩,
 ⟨some 32, .fieldAddr 35 (.tmp 2) 3, 0, .tmp 31 false⟩,
 ⟨some 33, .load 33 (.tmp 32), 33, .tmp 31 false⟩,
 ⟨some 34, .call { callee := .builtin .len, args := #[.tmp 33], argTypes := #[33] }, 3, .tmp 31 false⟩,
 ⟨some 35, .fieldAddr 35 (.tmp 3) 3, 0, .tmp 31 false⟩,
 ⟨some 36, .load 33 (.tmp 35), 33, .tmp 31 false⟩,
 ⟨some 37, .call { callee := .builtin .len, args := #[.tmp 36], argTypes := #[33] }, 3, .tmp 31 false⟩,
 ⟨some 38, .binOp .neq 3 (.tmp 34) (.tmp 37) 3, 4, .tmp 31 false⟩,
 ⟨some 39, .pick (.tmp 31) (.const (.bool true)) (.tmp 38), 4, .always⟩] [2, 3, 39])
 (.cond (.tmp 39)
 (.seq (.ops [⟨some 4, .assign (.const (.bool false)), 4, .always⟩] [4])
 (.ret))
 (.skip)))
 (.seq (.seq (.ops [⟨some 40, .fieldAddr 35 (.tmp 2) 2, 0, .always⟩,
 ⟨some 41, .load 32 (.tmp 40), 32, .always⟩,
 ⟨some 42, .call { callee := .builtin .len, args := #[.tmp 41], argTypes := #[32] }, 3, .always⟩,
 ⟨some 43, .move (.const (.int .i64 0)), 3, .always⟩] [2, 3, 41, 42, 43])
 (.block 0
 (.loop
 (.seq (.ops [⟨some 44, .binOp .lss 3 (.tmp 43) (.tmp 42) 3, 0, .always⟩] [2, 3, 41, 42, 43, 44])
 (.seq (.cond (.tmp 44)
 (.skip)
 (.exit 0))
 (.seq (.block 1
 (.seq (.ops [⟨some 45, .move (.tmp 43), 3, .always⟩,
 ⟨some 46, .indexAddr 32 (.tmp 41) (.tmp 43), 0, .always⟩,
 ⟨some 47, .load 51 (.tmp 46), 51, .always⟩,
 ⟨some 6, .alloc 51, 0, .always⟩,
 ⟨some 5, .assign (.tmp 45), 3, .always⟩,
 ⟨none, .store 51 (.tmp 6) (.tmp 47), 0, .always⟩] [2, 3, 5, 6, 41, 42, 43])
 (.seq (.draw [⟨some 48, .load 51 (.tmp 6), 51, .always⟩,
 ⟨some 49, .fieldAddr 35 (.tmp 3) 2, 0, .always⟩,
 ⟨some 50, .load 32 (.tmp 49), 32, .always⟩,
 ⟨some 51, .move (.tmp 5), 3, .always⟩,
 ⟨some 52, .indexAddr 32 (.tmp 50) (.tmp 51), 0, .always⟩,
 ⟨some 53, .load 51 (.tmp 52), 51, .always⟩,
 ⟨some 54, .call { callee := .value (.func 144), args := #[.tmp 48, .tmp 53], argTypes := #[51, 51] }, 4, .always⟩,
 ⟨some 55, .unOp .not 4 (.tmp 54), 4, .always⟩] [false, false, false, false, false, false, false, false] [2, 3, 41, 42, 43, 55])
 (.cond (.tmp 55)
 (.seq (.ops [⟨some 4, .assign (.const (.bool false)), 4, .always⟩] [4])
 (.ret))
 (.skip)))))
 (.ops [⟨some 56, .binOp .add 3 (.tmp 43) (.const (.int .i64 1)) 3, 3, .always⟩,
 ⟨some 43, .move (.tmp 56), 3, .always⟩] [2, 3, 41, 42, 43])))))))
 (.seq (.seq (.ops [⟨some 57, .fieldAddr 35 (.tmp 2) 3, 0, .always⟩,
 ⟨some 58, .load 33 (.tmp 57), 33, .always⟩,
 ⟨some 59, .call { callee := .builtin .len, args := #[.tmp 58], argTypes := #[33] }, 3, .always⟩,
 ⟨some 60, .move (.const (.int .i64 0)), 3, .always⟩] [3, 58, 59, 60])
 (.block 2
 (.loop
 (.seq (.ops [⟨some 61, .binOp .lss 3 (.tmp 60) (.tmp 59) 3, 0, .always⟩] [3, 58, 59, 60, 61])
 (.seq (.cond (.tmp 61)
 (.skip)
 (.exit 2))
 (.seq (.block 3
 (.seq (.ops [⟨some 62, .move (.tmp 60), 3, .always⟩,
 ⟨some 63, .indexAddr 33 (.tmp 58) (.tmp 60), 0, .always⟩,
 ⟨some 64, .load 35 (.tmp 63), 35, .always⟩,
 ⟨some 8, .alloc 35, 0, .always⟩,
 ⟨some 7, .assign (.tmp 62), 3, .always⟩,
 ⟨none, .store 35 (.tmp 8) (.tmp 64), 0, .always⟩] [3, 7, 8, 58, 59, 60])
 (.seq (.draw [⟨some 65, .load 35 (.tmp 8), 35, .always⟩,
 ⟨some 66, .fieldAddr 35 (.tmp 3) 3, 0, .always⟩,
 ⟨some 67, .load 33 (.tmp 66), 33, .always⟩,
 ⟨some 68, .move (.tmp 7), 3, .always⟩,
 ⟨some 69, .indexAddr 33 (.tmp 67) (.tmp 68), 0, .always⟩,
 ⟨some 70, .load 35 (.tmp 69), 35, .always⟩,
 ⟨some 71, .call { callee := .value (.func 121), args := #[.tmp 65, .tmp 70], argTypes := #[35, 35] }, 4, .always⟩,
 ⟨some 72, .unOp .not 4 (.tmp 71), 4, .always⟩] [false, false, false, false, false, false, false, false] [3, 58, 59, 60, 72])
 (.cond (.tmp 72)
 (.seq (.ops [⟨some 4, .assign (.const (.bool false)), 4, .always⟩] [4])
 (.ret))
 (.skip)))))
 (.ops [⟨some 73, .binOp .add 3 (.tmp 60) (.const (.int .i64 1)) 3, 3, .always⟩,
 ⟨some 60, .move (.tmp 73), 3, .always⟩] [3, 58, 59, 60])))))))
 (.seq (.ops [⟨some 4, .assign (.const (.bool true)), 4, .always⟩] [4])
 (.ret)))))
theorem w121 {args : List PV} {σ σ' : List Frm} {r : Ret} (hr : ∀ p, r = .val p → erV p = p) (h : wpP cfg s121 (QEndP cfg [.tmp 4] σ' r) ⟨initEnv args, fun _ => [], σ, ⟨fun _ => false, 0⟩⟩) : CallsV cfg 121 args σ r σ' :=
 callsV_of_p follows cfgT a121 (fn := Tryz.f121) (c := Tryz.f121.body.getD .skip) (by kernel_rfl) (by kernel_rfl) (by kernel_rfl) (by kernel_rfl) (by kernel_rfl) (sc := s121) (by kernel_rfl) [.tmp 4] (by kernel_rfl) hr h
def a85 : List Ann := [⟨[1, 3, 4], [], []⟩,
 ⟨[1, 3, 4, 6], [], []⟩,
 ⟨[1, 3, 4, 6, 7, 8], [], []⟩,
 ⟨[1, 3, 4, 6, 48], [], []⟩,
 ⟨[2, 3, 4, 5], [], []⟩,
 ⟨[1, 3, 4, 6, 9], [], []⟩,
 ⟨[1, 3, 4, 6, 9, 10], [], []⟩,
 ⟨[1, 3, 4, 6, 10, 83], [0, 1, 3, 7, 15, 31, 63, 127, 255, 511, 1023, 2047, 4095, 4095, 4095, 20479, 53247, 118783, 258047, 524287, 1048575, 2097151], [false, false, false, false, false, false, false, false, false, false, false, false, true, true, false, true, false, true, true, false, false, false]⟩,
 ⟨[2, 3, 4, 5], [], []⟩,
 ⟨[2, 3, 4, 5], [0, 0, 2, 6, 14, 0, 32, 96, 224, 480, 992, 2016, 1, 4127, 16383, 32767], [false, false, false, false, false, false, true, false, false, true, false, true, false, true, false, false]⟩]
def s85 : SC := .seq (.ops [⟨some 1, .box 35 (.tmp 0), 0, .always⟩,
 ⟨some 2, .assign (.const (.bool false)), 4, .always⟩,
 ⟨some 3, .alloc 51, 0, .always⟩,
 ⟨some 4, .alloc 35, 0, .always⟩,
 ⟨some 5, .assign (.const (.bool false)), 4, .always⟩] [1, 3, 4])
 (.seq (.ops [⟨some 11, .fieldAddr 35 (.tmp 1) 0, 0, .always⟩,
 ⟨some 12, .load 3 (.tmp 11), 3, .always⟩,
 ⟨some 13, .binOp .eql 3 (.tmp 12) (.const (.int .i64 4)) 3, 4, .always⟩,
 ⟨some 6, .assign (.tmp 13), 4, .always⟩] [1, 3, 4, 6])
 (.seq (.ops [⟨some 15, .move (.tmp 6), 4, .always⟩,
 ⟨some 16, .call { callee := .value (.func 79), args := #[.tmp 15], argTypes := #[4] }, 97, .always⟩,
 ⟨some 14, .move (.tmp 16), 97, .always⟩,
 ⟨some 17, .extract (.tmp 14) 0, 3, .always⟩,
 ⟨some 18, .extract (.tmp 14) 1, 3, .always⟩,
 ⟨some 7, .assign (.tmp 17), 3, .always⟩,
 ⟨some 8, .assign (.tmp 18), 3, .always⟩] [1, 3, 4, 6, 7, 8])
 (.seq (.seq (.ops [⟨some 19, .fieldAddr 35 (.tmp 1) 0, 0, .always⟩,
 ⟨some 20, .load 3 (.tmp 19), 3, .always⟩,
 ⟨some 21, .move (.tmp 7), 3, .always⟩,
 ⟨some 22, .binOp .neq 3 (.tmp 20) (.tmp 21) 3, 4, .always⟩,
 ⟨some 23, .move (.tmp 22), 4, .always⟩,
 ⟨some 24, .fieldAddr 35 (.tmp 1) 1, 0, .tmp 23 false⟩,
 ⟨some 25, .fieldAddr 30 (.tmp 24) 0, 0, .tmp 23 false⟩,
 ⟨some 26, .load 3 (.tmp 25), 3, .tmp 23 false⟩,
 ⟨some 27, .binOp .neq 3 (.tmp 26) (.const (.int .i64 1)) 3, 4, .tmp 23 false⟩,
 ⟨some 28, .pick (.tmp 23) (.const (.bool true)) (.tmp 27), 4, .always⟩,
 ⟨some 29, .move (.tmp 28), 4, .always⟩,
 ⟨some 30, .fieldAddr 35 (.tmp 1) 3, 0, .tmp 29 false⟩,
 ⟨some 31, .load 33 (.tmp 30), 33, .tmp 29 false⟩,
 ⟨some 32, .indexAddr 33 (.tmp 31) (.const (.int .i64 0)), 0, .tmp 29 false⟩,
 ⟨some 33, .fieldAddr 35 (.tmp 32) 0, 0, .tmp 29 false⟩,
 ⟨some 34, .load 3 (.tmp 33), 3, .tmp 29 false⟩,
 ⟨some 35, .move (.tmp 8), 3, .tmp 29 false⟩,
 ⟨some 36, .binOp .neq 3 (.tmp 34) (.tmp 35) 3, 4, .tmp 29 false⟩,
 ⟨some 37, .pick (.tmp 29) (.const (.bool true)) (.tmp 36), 4, .always⟩,
 ⟨some 38, .move (.tmp 37), 4, .always⟩,
 ⟨some 39, .fieldAddr 35 (.tmp 1) 3, 0, .tmp 38 false⟩,
 ⟨some 40, .load 33 (.tmp 39), 33, .tmp 38 false⟩,
 ⟨some 41, .indexAddr 33 (.tmp 40) (.const (.int .i64 0)), 0, .tmp 38 false⟩,
 ⟨some 42, .fieldAddr 35 (.tmp 41) 3, 0, .tmp 38 false⟩,
 ⟨some 43, .load 33 (.tmp 42), 33, .tmp 38 false⟩,
 ⟨some 44, .indexAddr 33 (.tmp 43) (.const (.int .i64 0)), 0, .tmp 38 false⟩,
 ⟨some 45, .fieldAddr 35 (.tmp 44) 0, 0, .tmp 38 false⟩,
 ⟨some 46, .load 3 (.tmp 45), 3, .tmp 38 false⟩,
 ⟨some 47, .binOp .neq 3 (.tmp 46) (.const (.int .i64 1)) 3, 4, .tmp 38 false⟩,
 ⟨some 48, .pick (.tmp 38) (.const (.bool true)) (.tmp 47), 4, .always⟩] [1, 3, 4, 6, 48])
 (.cond (.tmp 48)
 (.seq (.ops [⟨some 49, .build 51 #[], 51, .always⟩,
 ⟨some 50, .build 35 #[], 35, .always⟩,
 ⟨some 2, .assign (.const (.bool false)), 4, .always⟩,
 ⟨none, .store 51 (.tmp 3) (.tmp 49), 0, .always⟩,
 ⟨none, .store 35 (.tmp 4) (.tmp 50), 0, .always⟩,
 ⟨some 5, .assign (.const (.bool false)), 4, .always⟩] [2, 3, 4, 5])
 (.ret))
 (.skip)))
 (.seq (.ops [⟨some 51, .fieldAddr 35 (.tmp 1) 3, 0, .always⟩,
 ⟨some 52, .load 33 (.tmp 51), 33, .always⟩,
 ⟨some 53, .indexAddr 33 (.tmp 52) (.const (.int .i64 0)), 0, .always⟩,
 ⟨some 54, .fieldAddr 35 (.tmp 53) 3, 0, .always⟩,
 ⟨some 55, .load 33 (.tmp 54), 33, .always⟩,
 ⟨some 56, .indexAddr 33 (.tmp 55) (.const (.int .i64 0)), 0, .always⟩,
 ⟨some 57, .load 35 (.tmp 56), 35, .always⟩,
 ⟨some 9, .alloc 35, 0, .always⟩,
 ⟨none, .store 35 (.tmp 9) (.tmp 57), 0, .always⟩] [1, 3, 4, 6, 9])
 (.seq (.ops [⟨some 58, .fieldAddr 35 (.tmp 9) 2, 0, .always⟩,
 ⟨some 59, .load 32 (.tmp 58), 32, .always⟩,
 ⟨some 60, .indexAddr 32 (.tmp 59) (.const (.int .i64 0)), 0, .always⟩,
 ⟨some 61, .load 51 (.tmp 60), 51, .always⟩,
 ⟨some 10, .alloc 51, 0, .always⟩,
 ⟨none, .store 51 (.tmp 10) (.tmp 61), 0, .always⟩] [1, 3, 4, 6, 9, 10])
 (.seq (.seq (.draw [⟨some 62, .fieldAddr 51 (.tmp 10) 0, 0, .always⟩,
 ⟨some 63, .load 3 (.tmp 62), 3, .always⟩,
 ⟨some 64, .binOp .neq 3 (.tmp 63) (.const (.int .i64 3)) 3, 4, .always⟩,
 ⟨some 65, .move (.tmp 64), 4, .always⟩,
 ⟨some 66, .fieldAddr 51 (.tmp 10) 3, 0, .tmp 65 false⟩,
 ⟨some 67, .load 32 (.tmp 66), 32, .tmp 65 false⟩,
 ⟨some 68, .indexAddr 32 (.tmp 67) (.const (.int .i64 1)), 0, .tmp 65 false⟩,
 ⟨some 69, .load 51 (.tmp 68), 51, .tmp 65 false⟩,
 ⟨some 70, .call { callee := .value (.func 120), args := #[.tmp 69, .const (.int .i64 0)], argTypes := #[51, 3] }, 3, .tmp 65 false⟩,
 ⟨some 71, .binOp .gtr 3 (.tmp 70) (.const (.int .i64 0)) 3, 4, .tmp 65 false⟩,
 ⟨some 72, .pick (.tmp 65) (.const (.bool true)) (.tmp 71), 4, .always⟩,
 ⟨some 73, .move (.tmp 72), 4, .always⟩,
 ⟨some 74, .load 35 (.tmp 9), 35, .tmp 73 false⟩,
 ⟨some 75, .call { callee := .value (.func 84), args := #[.const (.int .i64 0)], argTypes := #[3] }, 51, .tmp 73 false⟩,
 ⟨some 76, .fieldAddr 51 (.tmp 10) 3, 0, .tmp 73 false⟩,
 ⟨some 77, .load 32 (.tmp 76), 32, .tmp 73 false⟩,
 ⟨some 78, .indexAddr 32 (.tmp 77) (.const (.int .i64 1)), 0, .tmp 73 false⟩,
 ⟨some 79, .load 51 (.tmp 78), 51, .tmp 73 false⟩,
 ⟨some 80, .call { callee := .value (.func 83), args := #[.tmp 75, .tmp 79], argTypes := #[51, 51] }, 35, .tmp 73 false⟩,
 ⟨some 81, .call { callee := .value (.func 121), args := #[.tmp 74, .tmp 80], argTypes := #[35, 35] }, 4, .tmp 73 false⟩,
 ⟨some 82, .unOp .not 4 (.tmp 81), 4, .tmp 73 false⟩,
 ⟨some 83, .pick (.tmp 73) (.const (.bool true)) (.tmp 82), 4, .always⟩] [false, false, false, false, false, false, false, false, false, false, false, false, true, true, false, true, false, true, true, false, false, false] [1, 3, 4, 6, 10, 83])
 (.cond (.tmp 83)
 (.seq (.ops [⟨some 84, .build 51 #[], 51, .always⟩,
 ⟨some 85, .build 35 #[], 35, .always⟩,
 ⟨some 2, .assign (.const (.bool false)), 4, .always⟩,
 ⟨none, .store 51 (.tmp 3) (.tmp 84), 0, .always⟩,
 ⟨none, .store 35 (.tmp 4) (.tmp 85), 0, .always⟩,
 ⟨some 5, .assign (.const (.bool false)), 4, .always⟩] [2, 3, 4, 5])
 (.ret))
 (.skip)))
 (.seq (.draw [⟨some 86, .move (.tmp 6), 4, .always⟩,
 ⟨some 87, .fieldAddr 51 (.tmp 10) 3, 0, .always⟩,
 ⟨some 88, .load 32 (.tmp 87), 32, .always⟩,
 ⟨some 89, .indexAddr 32 (.tmp 88) (.const (.int .i64 1)), 0, .always⟩,
 ⟨some 90, .load 51 (.tmp 89), 51, .always⟩,
 ⟨some 91, .fieldAddr 35 (.tmp 1) 3, 0, .always⟩,
 ⟨some 92, .load 33 (.tmp 91), 33, .always⟩,
 ⟨some 93, .indexAddr 33 (.tmp 92) (.const (.int .i64 0)), 0, .always⟩,
 ⟨some 94, .fieldAddr 35 (.tmp 93) 3, 0, .always⟩,
 ⟨some 95, .load 33 (.tmp 94), 33, .always⟩,
 ⟨some 96, .indexAddr 33 (.tmp 95) (.const (.int .i64 1)), 0, .always⟩,
 ⟨some 97, .load 35 (.tmp 96), 35, .always⟩,
 ⟨some 2, .assign (.tmp 86), 4, .always⟩,
 ⟨none, .store 51 (.tmp 3) (.tmp 90), 0, .always⟩,
 ⟨none, .store 35 (.tmp 4) (.tmp 97), 0, .always⟩,
 ⟨some 5, .assign (.const (.bool true)), 4, .always⟩] [false, false, false, false, false, false, true, false, false, true, false, true, false, true, false, false] [2, 3, 4, 5])
 (.ret))))))))
theorem w85 {args : List PV} {σ σ' : List Frm} {r : Ret} (hr : ∀ p, r = .val p → erV p = p) (h : wpP cfg s85 (QEndP cfg [.tmp 2, .cell 3 51, .cell 4 35, .tmp 5] σ' r) ⟨initEnv args, fun _ => [], σ, ⟨fun _ => false, 0⟩⟩) : CallsV cfg 85 args σ r σ' :=
 callsV_of_p follows cfgT a85 (fn := Tryz.f85) (c := Tryz.f85.body.getD .skip) (by kernel_rfl) (by kernel_rfl) (by kernel_rfl) (by kernel_rfl) (by kernel_rfl) (sc := s85) (by kernel_rfl) [.tmp 2, .cell 3 51, .cell 4 35, .tmp 5] (by kernel_rfl) hr h
def a56 : List Ann := [⟨[1], [], []⟩,
 ⟨[1, 13], [], []⟩,
 ⟨[2], [], []⟩,
 ⟨[1, 3], [], []⟩,
 ⟨[1, 3, 24], [], []⟩,
 ⟨[1, 3, 24, 25], [], []⟩,
 ⟨[1, 3, 24, 25], [], []⟩,
 ⟨[1, 3, 4], [], []⟩,
 ⟨[1, 3, 4, 5], [], []⟩,
 ⟨[3, 4, 5, 39], [], []⟩,
 ⟨[3, 5], [], []⟩,
 ⟨[2], [], []⟩,
 ⟨[1, 3, 47], [], []⟩,
 ⟨[1, 3], [], []⟩,
 ⟨[1, 6], [], []⟩,
 ⟨[6, 9, 10], [], []⟩,
 ⟨[6, 9, 60], [], []⟩,
 ⟨[6], [], []⟩,
 ⟨[2], [], []⟩]
def s56 : SC := .seq (.ops [⟨some 1, .box 35 (.tmp 0), 0, .always⟩,
 ⟨some 2, .assign (.const (.int .u8 0)), 79, .always⟩] [1])
 (.seq (.seq (.ops [⟨some 11, .fieldAddr 35 (.tmp 1) 0, 0, .always⟩,
 ⟨some 12, .load 3 (.tmp 11), 3, .always⟩,
 ⟨some 13, .binOp .eql 3 (.tmp 12) (.const (.int .i64 1)) 3, 4, .always⟩] [1, 13])
 (.cond (.tmp 13)
 (.seq (.ops [⟨some 2, .assign (.const (.int .u8 6)), 79, .always⟩] [2])
 (.ret))
 (.skip)))
 (.seq (.ops [⟨some 14, .fieldAddr 35 (.tmp 1) 3, 0, .always⟩,
 ⟨some 15, .load 33 (.tmp 14), 33, .always⟩,
 ⟨some 16, .fieldAddr 35 (.tmp 1) 3, 0, .always⟩,
 ⟨some 17, .load 33 (.tmp 16), 33, .always⟩,
 ⟨some 18, .call { callee := .builtin .len, args := #[.tmp 17], argTypes := #[33] }, 3, .always⟩,
 ⟨some 19, .binOp .sub 3 (.tmp 18) (.const (.int .i64 1)) 3, 3, .always⟩,
 ⟨some 20, .indexAddr 33 (.tmp 15) (.tmp 19), 0, .always⟩,
 ⟨some 21, .load 35 (.tmp 20), 35, .always⟩,
 ⟨some 22, .call { callee := .value (.func 56), args := #[.tmp 21], argTypes := #[35] }, 79, .always⟩,
 ⟨some 3, .assign (.tmp 22), 79, .always⟩] [1, 3])
 (.seq (.seq (.ops [⟨some 23, .fieldAddr 35 (.tmp 1) 0, 0, .always⟩,
 ⟨some 24, .load 3 (.tmp 23), 3, .always⟩] [1, 3, 24])
 (.block 0
 (.seq (.seq (.ops [⟨some 26, .binOp .eql 3 (.tmp 24) (.const (.int .i64 2)) 3, 4, .always⟩,
 ⟨some 25, .assign (.tmp 26), 4, .always⟩] [1, 3, 24, 25])
 (.cond (.tmp 25)
 (.skip)
 (.ops [⟨some 27, .binOp .eql 3 (.tmp 24) (.const (.int .i64 3)) 3, 4, .always⟩,
 ⟨some 25, .assign (.tmp 27), 4, .always⟩] [1, 3, 24, 25])))
 (.cond (.tmp 25)
 (.seq (.ops [⟨some 28, .fieldAddr 35 (.tmp 1) 3, 0, .always⟩,
 ⟨some 29, .load 33 (.tmp 28), 33, .always⟩,
 ⟨some 30, .indexAddr 33 (.tmp 29) (.const (.int .i64 0)), 0, .always⟩,
 ⟨some 31, .load 35 (.tmp 30), 35, .always⟩,
 ⟨some 32, .call { callee := .value (.func 56), args := #[.tmp 31], argTypes := #[35] }, 79, .always⟩,
 ⟨some 4, .assign (.tmp 32), 79, .always⟩] [1, 3, 4])
 (.seq (.ops [⟨some 33, .move (.tmp 4), 79, .always⟩,
 ⟨some 34, .move (.tmp 3), 79, .always⟩,
 ⟨some 35, .binOp .and 79 (.tmp 33) (.tmp 34) 79, 79, .always⟩,
 ⟨some 36, .binOp .and 79 (.tmp 35) (.const (.int .u8 6)) 79, 79, .always⟩,
 ⟨some 5, .assign (.tmp 36), 79, .always⟩] [1, 3, 4, 5])
 (.seq (.seq (.ops [⟨some 37, .fieldAddr 35 (.tmp 1) 0, 0, .always⟩,
 ⟨some 38, .load 3 (.tmp 37), 3, .always⟩,
 ⟨some 39, .binOp .eql 3 (.tmp 38) (.const (.int .i64 2)) 3, 4, .always⟩] [3, 4, 5, 39])
 (.cond (.tmp 39)
 (.ops [⟨some 40, .move (.tmp 3), 79, .always⟩,
 ⟨some 41, .move (.tmp 4), 79, .always⟩,
 ⟨some 42, .binOp .or 79 (.tmp 40) (.tmp 41) 79, 79, .always⟩,
 ⟨some 3, .assign (.tmp 42), 79, .always⟩] [3, 5])
 (.skip)))
 (.seq (.ops [⟨some 43, .move (.tmp 5), 79, .always⟩,
 ⟨some 44, .move (.tmp 3), 79, .always⟩,
 ⟨some 45, .binOp .and 79 (.tmp 44) (.const (.int .u8 1)) 79, 79, .always⟩,
 ⟨some 46, .binOp .or 79 (.tmp 43) (.tmp 45) 79, 79, .always⟩,
 ⟨some 2, .assign (.tmp 46), 79, .always⟩] [2])
 (.ret)))))
 (.seq (.ops [⟨some 48, .binOp .eql 3 (.tmp 24) (.const (.int .i64 5)) 3, 4, .always⟩,
 ⟨some 47, .assign (.tmp 48), 4, .always⟩] [1, 3, 47])
 (.cond (.tmp 47)
 (.ops [⟨some 49, .move (.tmp 3), 79, .always⟩,
 ⟨some 50, .binOp .or 79 (.tmp 49) (.const (.int .u8 1)) 79, 79, .always⟩,
 ⟨some 3, .assign (.tmp 50), 79, .always⟩] [1, 3])
 (.skip)))))))
 (.seq (.ops [⟨some 51, .move (.tmp 3), 79, .always⟩,
 ⟨some 52, .binOp .and 79 (.tmp 51) (.const (.int .u8 1)) 79, 79, .always⟩,
 ⟨some 6, .assign (.tmp 52), 79, .always⟩] [1, 6])
 (.seq (.seq (.ops [⟨some 54, .load 35 (.tmp 1), 35, .always⟩,
 ⟨some 55, .call { callee := .value (.func 85), args := #[.tmp 54], argTypes := #[35] }, 58, .always⟩,
 ⟨some 53, .move (.tmp 55), 58, .always⟩,
 ⟨some 56, .extract (.tmp 53) 0, 4, .always⟩,
 ⟨some 57, .extract (.tmp 53) 1, 51, .always⟩,
 ⟨some 58, .extract (.tmp 53) 2, 35, .always⟩,
 ⟨some 59, .extract (.tmp 53) 3, 4, .always⟩,
 ⟨some 8, .alloc 51, 0, .always⟩,
 ⟨some 9, .alloc 35, 0, .always⟩,
 ⟨some 7, .assign (.tmp 56), 4, .always⟩,
 ⟨none, .store 51 (.tmp 8) (.tmp 57), 0, .always⟩,
 ⟨none, .store 35 (.tmp 9) (.tmp 58), 0, .always⟩,
 ⟨some 10, .assign (.tmp 59), 4, .always⟩] [6, 9, 10])
 (.seq (.ops [⟨some 60, .move (.tmp 10), 4, .always⟩] [6, 9, 60])
 (.cond (.tmp 60)
 (.ops [⟨some 61, .move (.tmp 6), 79, .always⟩,
 ⟨some 62, .load 35 (.tmp 9), 35, .always⟩,
 ⟨some 63, .call { callee := .value (.func 56), args := #[.tmp 62], argTypes := #[35] }, 79, .always⟩,
 ⟨some 64, .binOp .and 79 (.tmp 63) (.const (.int .u8 4)) 79, 79, .always⟩,
 ⟨some 65, .binOp .or 79 (.tmp 61) (.tmp 64) 79, 79, .always⟩,
 ⟨some 6, .assign (.tmp 65), 79, .always⟩] [6])
 (.skip))))
 (.seq (.ops [⟨some 66, .move (.tmp 6), 79, .always⟩,
 ⟨some 2, .assign (.tmp 66), 79, .always⟩] [2])
 (.ret)))))))
theorem w56 {args : List PV} {σ σ' : List Frm} {r : Ret} (hr : ∀ p, r = .val p → erV p = p) (h : wpP cfg s56 (QEndP cfg [.tmp 2] σ' r) ⟨initEnv args, fun _ => [], σ, ⟨fun _ => false, 0⟩⟩) : CallsV cfg 56 args σ r σ' :=
 callsV_of_p follows cfgT a56 (fn := Tryz.f56) (c := Tryz.f56.body.getD .skip) (by kernel_rfl) (by kernel_rfl) (by kernel_rfl) (by kernel_rfl) (by kernel_rfl) (sc := s56) (by kernel_rfl) [.tmp 2] (by kernel_rfl) hr h
def a130 : List Ann := [⟨[0], [], []⟩,
 ⟨[2], [], []⟩]
def s130 : SC := .seq (.ops [⟨some 2, .assign (.const (.bool false)), 4, .always⟩] [0])
 (.seq (.ops [⟨some 3, .move (.tmp 0), 3, .always⟩,
 ⟨some 4, .binOp .geq 3 (.tmp 3) (.const (.int .i64 4)) 3, 4, .always⟩,
 ⟨some 5, .move (.tmp 4), 4, .always⟩,
 ⟨some 6, .move (.tmp 0), 3, .tmp 5 true⟩,
 ⟨some 7, .binOp .leq 3 (.tmp 6) (.const (.int .i64 7)) 3, 4, .tmp 5 true⟩,
 ⟨some 8, .pick (.tmp 5) (.tmp 7) (.const (.bool false)), 4, .always⟩,
 ⟨some 2, .assign (.tmp 8), 4, .always⟩] [2])
 (.ret))
theorem w130 {args : List PV} {σ σ' : List Frm} {r : Ret} (hr : ∀ p, r = .val p → erV p = p) (h : wpP cfg s130 (QEndP cfg [.tmp 2] σ' r) ⟨initEnv args, fun _ => [], σ, ⟨fun _ => false, 0⟩⟩) : CallsV cfg 130 args σ r σ' :=
 callsV_of_p follows cfgT a130 (fn := Tryz.f130) (c := Tryz.f130.body.getD .skip) (by kernel_rfl) (by kernel_rfl) (by kernel_rfl) (by kernel_rfl) (by kernel_rfl) (sc := s130) (by kernel_rfl) [.tmp 2] (by kernel_rfl) hr h
def a101 : List Ann := [⟨[1, 2, 3, 6], [], []⟩,
 ⟨[1, 2, 3, 6, 7], [0, 1, 0, 4, 12, 31, 0, 127], [false, true, false, false, true, false, true, false]⟩,
 ⟨[1, 2, 3, 6, 7, 19, 20, 21], [], []⟩,
 ⟨[1, 2, 3, 6, 7, 19, 20, 21, 22], [], []⟩,
 ⟨[1, 2, 3, 6, 7, 9, 19, 20, 21], [], []⟩,
 ⟨[1, 2, 3, 6, 7, 19, 20, 21], [0, 1, 0, 0, 0, 28, 60, 127, 255, 511], [false, true, false, false, false, true, false, false, false, false]⟩,
 ⟨[1, 2, 3, 6, 7, 19, 20, 21], [], []⟩,
 ⟨[1, 2, 3, 6, 7, 37], [], []⟩,
 ⟨[1, 2, 3, 6, 7], [], []⟩,
 ⟨[1, 2, 6, 7, 41, 42, 43], [], []⟩,
 ⟨[1, 2, 6, 7, 41, 42, 43, 44], [], []⟩,
 ⟨[1, 2, 6, 7, 11, 41, 42, 43], [], []⟩,
 ⟨[1, 2, 6, 7, 41, 42, 43], [0, 1, 0, 0, 0, 28, 60, 127, 255, 511], [false, true, false, false, false, true, false, false, false, false]⟩,
 ⟨[1, 2, 6, 7, 41, 42, 43], [], []⟩,
 ⟨[6], [], []⟩]
def s101 : SC := .seq (.ops [⟨some 3, .box 35 (.tmp 0), 0, .always⟩,
 ⟨some 6, .alloc 35, 0, .always⟩] [1, 2, 3, 6])
 (.seq (.draw [⟨some 12, .fieldAddr 35 (.tmp 3) 0, 0, .always⟩,
 ⟨some 13, .load 3 (.tmp 12), 3, .always⟩,
 ⟨some 14, .fieldAddr 35 (.tmp 3) 1, 0, .always⟩,
 ⟨some 15, .load 30 (.tmp 14), 30, .always⟩,
 ⟨some 16, .call { callee := .value (.func 57), args := #[.tmp 15], argTypes := #[30] }, 30, .always⟩,
 ⟨some 17, .build 35 #[(0, .tmp 13), (1, .tmp 16)], 35, .always⟩,
 ⟨some 7, .alloc 35, 0, .always⟩,
 ⟨none, .store 35 (.tmp 7) (.tmp 17), 0, .always⟩] [false, true, false, false, true, false, true, false] [1, 2, 3, 6, 7])
 (.seq (.seq (.ops [⟨some 18, .fieldAddr 35 (.tmp 3) 2, 0, .always⟩,
 ⟨some 19, .load 32 (.tmp 18), 32, .always⟩,
 ⟨some 20, .call { callee := .builtin .len, args := #[.tmp 19], argTypes := #[32] }, 3, .always⟩,
 ⟨some 21, .move (.const (.int .i64 0)), 3, .always⟩] [1, 2, 3, 6, 7, 19, 20, 21])
 (.block 0
 (.loop
 (.seq (.ops [⟨some 22, .binOp .lss 3 (.tmp 21) (.tmp 20) 3, 0, .always⟩] [1, 2, 3, 6, 7, 19, 20, 21, 22])
 (.seq (.cond (.tmp 22)
 (.skip)
 (.exit 0))
 (.seq (.block 1
 (.seq (.ops [⟨some 23, .indexAddr 32 (.tmp 19) (.tmp 21), 0, .always⟩,
 ⟨some 24, .load 51 (.tmp 23), 51, .always⟩,
 ⟨some 9, .alloc 51, 0, .always⟩,
 ⟨none, .store 51 (.tmp 9) (.tmp 24), 0, .always⟩] [1, 2, 3, 6, 7, 9, 19, 20, 21])
 (.draw [⟨some 25, .fieldAddr 35 (.tmp 7) 2, 0, .always⟩,
 ⟨some 26, .load 32 (.tmp 25), 32, .always⟩,
 ⟨some 27, .move (.tmp 2), 110, .always⟩,
 ⟨some 28, .load 51 (.tmp 9), 51, .always⟩,
 ⟨some 29, .move (.tmp 1), 3, .always⟩,
 ⟨some 30, .call { callee := .value (.tmp 27), args := #[.tmp 28, .tmp 29], argTypes := #[51, 3] }, 51, .always⟩,
 ⟨some 31, .buildSlice 32 1 #[(0, .tmp 30)], 32, .always⟩,
 ⟨some 32, .call { callee := .builtin .append, args := #[.tmp 26, .tmp 31], argTypes := #[32, 32] }, 32, .always⟩,
 ⟨some 33, .fieldAddr 35 (.tmp 7) 2, 0, .always⟩,
 ⟨none, .store 32 (.tmp 33) (.tmp 32), 0, .always⟩] [false, true, false, false, false, true, false, false, false, false] [1, 2, 3, 6, 7, 19, 20, 21])))
 (.ops [⟨some 34, .binOp .add 3 (.tmp 21) (.const (.int .i64 1)) 3, 3, .always⟩,
 ⟨some 21, .move (.tmp 34), 3, .always⟩] [1, 2, 3, 6, 7, 19, 20, 21])))))))
 (.seq (.seq (.ops [⟨some 35, .fieldAddr 35 (.tmp 3) 0, 0, .always⟩,
 ⟨some 36, .load 3 (.tmp 35), 3, .always⟩,
 ⟨some 37, .call { callee := .value (.func 130), args := #[.tmp 36], argTypes := #[3] }, 4, .always⟩] [1, 2, 3, 6, 7, 37])
 (.cond (.tmp 37)
 (.ops [⟨some 38, .move (.tmp 1), 3, .always⟩,
 ⟨some 39, .binOp .add 3 (.tmp 38) (.const (.int .i64 1)) 3, 3, .always⟩,
 ⟨some 1, .assign (.tmp 39), 3, .always⟩] [1, 2, 3, 6, 7])
 (.skip)))
 (.seq (.seq (.ops [⟨some 40, .fieldAddr 35 (.tmp 3) 3, 0, .always⟩,
 ⟨some 41, .load 33 (.tmp 40), 33, .always⟩,
 ⟨some 42, .call { callee := .builtin .len, args := #[.tmp 41], argTypes := #[33] }, 3, .always⟩,
 ⟨some 43, .move (.const (.int .i64 0)), 3, .always⟩] [1, 2, 6, 7, 41, 42, 43])
 (.block 2
 (.loop
 (.seq (.ops [⟨some 44, .binOp .lss 3 (.tmp 43) (.tmp 42) 3, 0, .always⟩] [1, 2, 6, 7, 41, 42, 43, 44])
 (.seq (.cond (.tmp 44)
 (.skip)
 (.exit 2))
 (.seq (.block 3
 (.seq (.ops [⟨some 45, .indexAddr 33 (.tmp 41) (.tmp 43), 0, .always⟩,
 ⟨some 46, .load 35 (.tmp 45), 35, .always⟩,
 ⟨some 11, .alloc 35, 0, .always⟩,
 ⟨none, .store 35 (.tmp 11) (.tmp 46), 0, .always⟩] [1, 2, 6, 7, 11, 41, 42, 43])
 (.draw [⟨some 47, .fieldAddr 35 (.tmp 7) 3, 0, .always⟩,
 ⟨some 48, .load 33 (.tmp 47), 33, .always⟩,
 ⟨some 49, .load 35 (.tmp 11), 35, .always⟩,
 ⟨some 50, .move (.tmp 1), 3, .always⟩,
 ⟨some 51, .move (.tmp 2), 110, .always⟩,
 ⟨some 52, .call { callee := .value (.func 101), args := #[.tmp 49, .tmp 50, .tmp 51], argTypes := #[35, 3, 110] }, 35, .always⟩,
 ⟨some 53, .buildSlice 33 1 #[(0, .tmp 52)], 33, .always⟩,
 ⟨some 54, .call { callee := .builtin .append, args := #[.tmp 48, .tmp 53], argTypes := #[33, 33] }, 33, .always⟩,
 ⟨some 55, .fieldAddr 35 (.tmp 7) 3, 0, .always⟩,
 ⟨none, .store 33 (.tmp 55) (.tmp 54), 0, .always⟩] [false, true, false, false, false, true, false, false, false, false] [1, 2, 6, 7, 41, 42, 43])))
 (.ops [⟨some 56, .binOp .add 3 (.tmp 43) (.const (.int .i64 1)) 3, 3, .always⟩,
 ⟨some 43, .move (.tmp 56), 3, .always⟩] [1, 2, 6, 7, 41, 42, 43])))))))
 (.seq (.ops [⟨some 57, .load 35 (.tmp 7), 35, .always⟩,
 ⟨none, .store 35 (.tmp 6) (.tmp 57), 0, .always⟩] [6])
 (.ret))))))
theorem w101 {args : List PV} {σ σ' : List Frm} {r : Ret} (hr : ∀ p, r = .val p → erV p = p) (h : wpP cfg s101 (QEndP cfg [.cell 6 35] σ' r) ⟨initEnv args, fun _ => [], σ, ⟨fun _ => false, 0⟩⟩) : CallsV cfg 101 args σ r σ' :=
 callsV_of_p follows cfgT a101 (fn := Tryz.f101) (c := Tryz.f101.body.getD .skip) (by kernel_rfl) (by kernel_rfl) (by kernel_rfl) (by kernel_rfl) (by kernel_rfl) (sc := s101) (by kernel_rfl) [.cell 6 35] (by kernel_rfl) hr h
def a97 : List Ann := [⟨[1, 2], [], []⟩,
 ⟨[1, 2, 3], [0, 1, 0, 4, 0, 16, 48, 127, 0, 511], [false, true, false, true, false, false, true, false, true, false]⟩,
 ⟨[2, 3, 15, 16, 17], [], []⟩,
 ⟨[2, 3, 15, 16, 17, 18], [], []⟩,
 ⟨[2, 3, 5, 15, 16, 17], [], []⟩,
 ⟨[2, 3, 15, 16, 17], [0, 1, 0, 4, 12, 31, 63, 127], [false, true, false, true, false, false, false, false]⟩,
 ⟨[2, 3, 15, 16, 17], [], []⟩,
 ⟨[2], [], []⟩]
def s97 : SC := .seq (.ops [⟨some 1, .box 51 (.tmp 0), 0, .always⟩,
 ⟨some 2, .alloc 51, 0, .always⟩] [1, 2])
 (.seq (.draw [⟨some 6, .fieldAddr 51 (.tmp 1) 0, 0, .always⟩,
 ⟨some 7, .load 3 (.tmp 6), 3, .always⟩,
 ⟨some 8, .fieldAddr 51 (.tmp 1) 1, 0, .always⟩,
 ⟨some 9, .load 3 (.tmp 8), 3, .always⟩,
 ⟨some 10, .fieldAddr 51 (.tmp 1) 2, 0, .always⟩,
 ⟨some 11, .load 30 (.tmp 10), 30, .always⟩,
 ⟨some 12, .call { callee := .value (.func 57), args := #[.tmp 11], argTypes := #[30] }, 30, .always⟩,
 ⟨some 13, .build 51 #[(0, .tmp 7), (1, .tmp 9), (2, .tmp 12)], 51, .always⟩,
 ⟨some 3, .alloc 51, 0, .always⟩,
 ⟨none, .store 51 (.tmp 3) (.tmp 13), 0, .always⟩] [false, true, false, true, false, false, true, false, true, false] [1, 2, 3])
 (.seq (.seq (.ops [⟨some 14, .fieldAddr 51 (.tmp 1) 3, 0, .always⟩,
 ⟨some 15, .load 32 (.tmp 14), 32, .always⟩,
 ⟨some 16, .call { callee := .builtin .len, args := #[.tmp 15], argTypes := #[32] }, 3, .always⟩,
 ⟨some 17, .move (.const (.int .i64 0)), 3, .always⟩] [2, 3, 15, 16, 17])
 (.block 0
 (.loop
 (.seq (.ops [⟨some 18, .binOp .lss 3 (.tmp 17) (.tmp 16) 3, 0, .always⟩] [2, 3, 15, 16, 17, 18])
 (.seq (.cond (.tmp 18)
 (.skip)
 (.exit 0))
 (.seq (.block 1
 (.seq (.ops [⟨some 19, .indexAddr 32 (.tmp 15) (.tmp 17), 0, .always⟩,
 ⟨some 20, .load 51 (.tmp 19), 51, .always⟩,
 ⟨some 5, .alloc 51, 0, .always⟩,
 ⟨none, .store 51 (.tmp 5) (.tmp 20), 0, .always⟩] [2, 3, 5, 15, 16, 17])
 (.draw [⟨some 21, .fieldAddr 51 (.tmp 3) 3, 0, .always⟩,
 ⟨some 22, .load 32 (.tmp 21), 32, .always⟩,
 ⟨some 23, .load 51 (.tmp 5), 51, .always⟩,
 ⟨some 24, .call { callee := .value (.func 97), args := #[.tmp 23], argTypes := #[51] }, 51, .always⟩,
 ⟨some 25, .buildSlice 32 1 #[(0, .tmp 24)], 32, .always⟩,
 ⟨some 26, .call { callee := .builtin .append, args := #[.tmp 22, .tmp 25], argTypes := #[32, 32] }, 32, .always⟩,
 ⟨some 27, .fieldAddr 51 (.tmp 3) 3, 0, .always⟩,
 ⟨none, .store 32 (.tmp 27) (.tmp 26), 0, .always⟩] [false, true, false, true, false, false, false, false] [2, 3, 15, 16, 17])))
 (.ops [⟨some 28, .binOp .add 3 (.tmp 17) (.const (.int .i64 1)) 3, 3, .always⟩,
 ⟨some 17, .move (.tmp 28), 3, .always⟩] [2, 3, 15, 16, 17])))))))
 (.seq (.ops [⟨some 29, .load 51 (.tmp 3), 51, .always⟩,
 ⟨none, .store 51 (.tmp 2) (.tmp 29), 0, .always⟩] [2])
 (.ret))))
theorem w97 {args : List PV} {σ σ' : List Frm} {r : Ret} (hr : ∀ p, r = .val p → erV p = p) (h : wpP cfg s97 (QEndP cfg [.cell 2 51] σ' r) ⟨initEnv args, fun _ => [], σ, ⟨fun _ => false, 0⟩⟩) : CallsV cfg 97 args σ r σ' :=
 callsV_of_p follows cfgT a97 (fn := Tryz.f97) (c := Tryz.f97.body.getD .skip) (by kernel_rfl) (by kernel_rfl) (by kernel_rfl) (by kernel_rfl) (by kernel_rfl) (sc := s97) (by kernel_rfl) [.cell 2 51] (by kernel_rfl) hr h
def a102 : List Ann := [⟨[2, 4], [], []⟩,
 ⟨[4], [], []⟩]
def s102 : SC := .seq (.ops [⟨some 2, .box 51 (.tmp 0), 0, .always⟩,
 ⟨some 4, .alloc 51, 0, .always⟩] [2, 4])
 (.seq (.ops [⟨some 5, .load 51 (.tmp 2), 51, .always⟩,
 ⟨some 6, .call { callee := .value (.func 97), args := #[.tmp 5], argTypes := #[51] }, 51, .always⟩,
 ⟨none, .store 51 (.tmp 4) (.tmp 6), 0, .always⟩] [4])
 (.ret))
theorem w102 {args : List PV} {σ σ' : List Frm} {r : Ret} (hr : ∀ p, r = .val p → erV p = p) (h : wpP cfg s102 (QEndP cfg [.cell 4 51] σ' r) ⟨initEnv args, fun _ => [], σ, ⟨fun _ => false, 0⟩⟩) : CallsV cfg 102 args σ r σ' :=
 callsV_of_p follows cfgT a102 (fn := Tryz.f102) (c := Tryz.f102.body.getD .skip) (by kernel_rfl) (by kernel_rfl) (by kernel_rfl) (by kernel_rfl) (by kernel_rfl) (sc := s102) (by kernel_rfl) [.cell 4 51] (by kernel_rfl) hr h
def a58 : List Ann := [⟨[1, 2], [], []⟩,
 ⟨[2], [], []⟩]
def s58 : SC := .seq (.ops [⟨some 1, .box 35 (.tmp 0), 0, .always⟩,
 ⟨some 2, .alloc 35, 0, .always⟩] [1, 2])
 (.seq (.ops [⟨some 3, .load 35 (.tmp 1), 35, .always⟩,
 ⟨some 4, .call { callee := .value (.func 101), args := #[.tmp 3, .const (.int .i64 0), .func 102], argTypes := #[35, 3, 110] }, 35, .always⟩,
 ⟨none, .store 35 (.tmp 2) (.tmp 4), 0, .always⟩] [2])
 (.ret))
theorem w58 {args : List PV} {σ σ' : List Frm} {r : Ret} (hr : ∀ p, r = .val p → erV p = p) (h : wpP cfg s58 (QEndP cfg [.cell 2 35] σ' r) ⟨initEnv args, fun _ => [], σ, ⟨fun _ => false, 0⟩⟩) : CallsV cfg 58 args σ r σ' :=
 callsV_of_p follows cfgT a58 (fn := Tryz.f58) (c := Tryz.f58.body.getD .skip) (by kernel_rfl) (by kernel_rfl) (by kernel_rfl) (by kernel_rfl) (by kernel_rfl) (sc := s58) (by kernel_rfl) [.cell 2 35] (by kernel_rfl) hr h
def a14 : List Ann := [⟨[1, 3, 4], [], []⟩,
 ⟨[1, 3, 4, 10], [], []⟩,
 ⟨[2, 3, 4, 5], [], []⟩,
 ⟨[3, 4, 6, 7], [], []⟩,
 ⟨[3, 4, 6, 7, 29], [], []⟩,
 ⟨[2, 3, 4, 5], [], []⟩,
 ⟨[2, 3, 4, 5], [0, 0, 2, 6, 0, 16, 48, 112, 254, 511, 1023, 2047, 4095], [false, false, false, true, false, true, false, true, false, false, false, false, false]⟩]
def s14 : SC := .seq (.ops [⟨some 1, .box 35 (.tmp 0), 0, .always⟩,
 ⟨some 2, .assign (.const (.slice none 0 0)), 27, .always⟩,
 ⟨some 3, .alloc 30, 0, .always⟩,
 ⟨some 4, .alloc 35, 0, .always⟩,
 ⟨some 5, .assign (.const (.bool false)), 4, .always⟩] [1, 3, 4])
 (.seq (.seq (.ops [⟨some 8, .load 35 (.tmp 1), 35, .always⟩,
 ⟨some 9, .call { callee := .value (.func 54), args := #[.tmp 8], argTypes := #[35] }, 43, .always⟩,
 ⟨some 10, .binOp .neq 43 (.tmp 9) (.const (.int .i64 0)) 43, 4, .always⟩] [1, 3, 4, 10])
 (.cond (.tmp 10)
 (.seq (.ops [⟨some 11, .build 30 #[], 30, .always⟩,
 ⟨some 12, .build 35 #[], 35, .always⟩,
 ⟨some 2, .assign (.const (.slice none 0 0)), 27, .always⟩,
 ⟨none, .store 30 (.tmp 3) (.tmp 11), 0, .always⟩,
 ⟨none, .store 35 (.tmp 4) (.tmp 12), 0, .always⟩,
 ⟨some 5, .assign (.const (.bool false)), 4, .always⟩] [2, 3, 4, 5])
 (.ret))
 (.skip)))
 (.seq (.ops [⟨some 14, .load 35 (.tmp 1), 35, .always⟩,
 ⟨some 15, .call { callee := .value (.func 55), args := #[.tmp 14], argTypes := #[35] }, 77, .always⟩,
 ⟨some 13, .move (.tmp 15), 77, .always⟩,
 ⟨some 16, .extract (.tmp 13) 0, 27, .always⟩,
 ⟨some 17, .extract (.tmp 13) 1, 35, .always⟩,
 ⟨some 7, .alloc 35, 0, .always⟩,
 ⟨some 6, .assign (.tmp 16), 27, .always⟩,
 ⟨none, .store 35 (.tmp 7) (.tmp 17), 0, .always⟩] [3, 4, 6, 7])
 (.seq (.seq (.ops [⟨some 18, .fieldAddr 35 (.tmp 7) 0, 0, .always⟩,
 ⟨some 19, .load 3 (.tmp 18), 3, .always⟩,
 ⟨some 20, .binOp .neq 3 (.tmp 19) (.const (.int .i64 5)) 3, 4, .always⟩,
 ⟨some 21, .move (.tmp 20), 4, .always⟩,
 ⟨some 22, .fieldAddr 35 (.tmp 7) 3, 0, .tmp 21 false⟩,
 ⟨some 23, .load 33 (.tmp 22), 33, .tmp 21 false⟩,
 ⟨some 24, .indexAddr 33 (.tmp 23) (.const (.int .i64 0)), 0, .tmp 21 false⟩,
 ⟨some 25, .load 35 (.tmp 24), 35, .tmp 21 false⟩,
 ⟨some 26, .call { callee := .value (.func 56), args := #[.tmp 25], argTypes := #[35] }, 79, .tmp 21 false⟩,
 ⟨some 27, .binOp .and 79 (.tmp 26) (.const (.int .u8 4)) 79, 79, .tmp 21 false⟩,
 ⟨some 28, .binOp .eql 79 (.tmp 27) (.const (.int .u8 0)) 79, 4, .tmp 21 false⟩,
 ⟨some 29, .pick (.tmp 21) (.const (.bool true)) (.tmp 28), 4, .always⟩] [3, 4, 6, 7, 29])
 (.cond (.tmp 29)
 (.seq (.ops [⟨some 30, .build 30 #[], 30, .always⟩,
 ⟨some 31, .build 35 #[], 35, .always⟩,
 ⟨some 2, .assign (.const (.slice none 0 0)), 27, .always⟩,
 ⟨none, .store 30 (.tmp 3) (.tmp 30), 0, .always⟩,
 ⟨none, .store 35 (.tmp 4) (.tmp 31), 0, .always⟩,
 ⟨some 5, .assign (.const (.bool false)), 4, .always⟩] [2, 3, 4, 5])
 (.ret))
 (.skip)))
 (.seq (.draw [⟨some 32, .move (.tmp 6), 27, .always⟩,
 ⟨some 33, .fieldAddr 35 (.tmp 7) 1, 0, .always⟩,
 ⟨some 34, .load 30 (.tmp 33), 30, .always⟩,
 ⟨some 35, .call { callee := .value (.func 57), args := #[.tmp 34], argTypes := #[30] }, 30, .always⟩,
 ⟨some 36, .fieldAddr 35 (.tmp 7) 3, 0, .always⟩,
 ⟨some 37, .load 33 (.tmp 36), 33, .always⟩,
 ⟨some 38, .indexAddr 33 (.tmp 37) (.const (.int .i64 0)), 0, .always⟩,
 ⟨some 39, .load 35 (.tmp 38), 35, .always⟩,
 ⟨some 40, .call { callee := .value (.func 58), args := #[.tmp 39], argTypes := #[35] }, 35, .always⟩,
 ⟨some 2, .assign (.tmp 32), 27, .always⟩,
 ⟨none, .store 30 (.tmp 3) (.tmp 35), 0, .always⟩,
 ⟨none, .store 35 (.tmp 4) (.tmp 40), 0, .always⟩,
 ⟨some 5, .assign (.const (.bool true)), 4, .always⟩] [false, false, false, true, false, true, false, true, false, false, false, false, false] [2, 3, 4, 5])
 (.ret)))))
theorem w14 {args : List PV} {σ σ' : List Frm} {r : Ret} (hr : ∀ p, r = .val p → erV p = p) (h : wpP cfg s14 (QEndP cfg [.tmp 2, .cell 3 30, .cell 4 35, .tmp 5] σ' r) ⟨initEnv args, fun _ => [], σ, ⟨fun _ => false, 0⟩⟩) : CallsV cfg 14 args σ r σ' :=
 callsV_of_p follows cfgT a14 (fn := Tryz.f14) (c := Tryz.f14.body.getD .skip) (by kernel_rfl) (by kernel_rfl) (by kernel_rfl) (by kernel_rfl) (by kernel_rfl) (sc := s14) (by kernel_rfl) [.tmp 2, .cell 3 30, .cell 4 35, .tmp 5] (by kernel_rfl) hr h
def a7 : List Ann := [⟨[], [], []⟩,
 ⟨[1], [], []⟩,
 ⟨[1, 2, 3, 4, 5], [0, 0, 0, 4, 12, 30, 63, 127, 255, 511, 511, 511, 511, 0, 0, 25599, 59391, 126975, 262143], [true, true, true, true, true, true, true, true, false, false, false, false, false, true, true, false, false, false, false]⟩,
 ⟨[0], [], []⟩]
def s7 : SC := .seq (.ops [⟨some 0, .assign (.const (.bool false)), 4, .always⟩] [])
 (.seq (.ops [⟨some 6, .call { callee := .value (.func 27), args := #[], argTypes := #[] }, 30, .always⟩,
 ⟨some 1, .alloc 30, 0, .always⟩,
 ⟨none, .store 30 (.tmp 1) (.tmp 6), 0, .always⟩] [1])
 (.seq (.draw [⟨some 8, .load 30 (.tmp 1), 30, .always⟩,
 ⟨some 9, .load 30 (.tmp 1), 30, .always⟩,
 ⟨some 10, .call { callee := .value (.func 46), args := #[.const (.int .i64 0)], argTypes := #[3] }, 51, .always⟩,
 ⟨some 11, .call { callee := .value (.func 46), args := #[.const (.int .i64 1)], argTypes := #[3] }, 51, .always⟩,
 ⟨some 12, .call { callee := .value (.func 45), args := #[.tmp 10, .tmp 11], argTypes := #[51, 51] }, 35, .always⟩,
 ⟨some 13, .call { callee := .value (.func 13), args := #[.const (.int .i64 5), .tmp 9, .tmp 12], argTypes := #[3, 30, 35] }, 35, .always⟩,
 ⟨some 14, .call { callee := .value (.func 13), args := #[.const (.int .i64 4), .tmp 8, .tmp 13], argTypes := #[3, 30, 35] }, 35, .always⟩,
 ⟨some 15, .call { callee := .value (.func 14), args := #[.tmp 14], argTypes := #[35] }, 38, .always⟩,
 ⟨some 7, .move (.tmp 15), 38, .always⟩,
 ⟨some 16, .extract (.tmp 7) 0, 27, .always⟩,
 ⟨some 17, .extract (.tmp 7) 1, 30, .always⟩,
 ⟨some 18, .extract (.tmp 7) 2, 35, .always⟩,
 ⟨some 19, .extract (.tmp 7) 3, 4, .always⟩,
 ⟨some 3, .alloc 30, 0, .always⟩,
 ⟨some 4, .alloc 35, 0, .always⟩,
 ⟨some 2, .assign (.tmp 16), 27, .always⟩,
 ⟨none, .store 30 (.tmp 3) (.tmp 17), 0, .always⟩,
 ⟨none, .store 35 (.tmp 4) (.tmp 18), 0, .always⟩,
 ⟨some 5, .assign (.tmp 19), 4, .always⟩] [true, true, true, true, true, true, true, true, false, false, false, false, false, true, true, false, false, false, false] [1, 2, 3, 4, 5])
 (.seq (.ops [⟨some 20, .move (.tmp 5), 4, .always⟩,
 ⟨some 21, .move (.tmp 20), 4, .always⟩,
 ⟨some 22, .move (.tmp 2), 27, .tmp 21 true⟩,
 ⟨some 23, .call { callee := .builtin .len, args := #[.tmp 22], argTypes := #[27] }, 3, .tmp 21 true⟩,
 ⟨some 24, .binOp .eql 3 (.tmp 23) (.const (.int .i64 1)) 3, 4, .tmp 21 true⟩,
 ⟨some 25, .pick (.tmp 21) (.tmp 24) (.const (.bool false)), 4, .always⟩,
 ⟨some 26, .move (.tmp 25), 4, .always⟩,
 ⟨some 27, .load 30 (.tmp 3), 30, .tmp 26 true⟩,
 ⟨some 28, .load 30 (.tmp 1), 30, .tmp 26 true⟩,
 ⟨some 29, .call { callee := .value (.func 16), args := #[.tmp 27, .tmp 28], argTypes := #[30, 30] }, 4, .tmp 26 true⟩,
 ⟨some 30, .pick (.tmp 26) (.tmp 29) (.const (.bool false)), 4, .always⟩,
 ⟨some 31, .move (.tmp 30), 4, .always⟩,
 ⟨some 32, .fieldAddr 35 (.tmp 4) 0, 0, .tmp 31 true⟩,
 ⟨some 33, .load 3 (.tmp 32), 3, .tmp 31 true⟩,
 ⟨some 34, .binOp .eql 3 (.tmp 33) (.const (.int .i64 1)) 3, 4, .tmp 31 true⟩,
 ⟨some 35, .pick (.tmp 31) (.tmp 34) (.const (.bool false)), 4, .always⟩,
 ⟨some 0, .assign (.tmp 35), 4, .always⟩] [0])
 (.ret))))
theorem w7 {args : List PV} {σ σ' : List Frm} {r : Ret} (hr : ∀ p, r = .val p → erV p = p) (h : wpP cfg s7 (QEndP cfg [.tmp 0] σ' r) ⟨initEnv args, fun _ => [], σ, ⟨fun _ => false, 0⟩⟩) : CallsV cfg 7 args σ r σ' :=
 callsV_of_p follows cfgT a7 (fn := Tryz.f7) (c := Tryz.f7.body.getD .skip) (by kernel_rfl) (by kernel_rfl) (by kernel_rfl) (by kernel_rfl) (by kernel_rfl) (sc := s7) (by kernel_rfl) [.tmp 0] (by kernel_rfl) hr h
def a8 : List Ann := [⟨[0], [], []⟩,
 ⟨[2], [], []⟩]
def s8 : SC := .seq (.ops [⟨some 2, .assign (.const (.bool false)), 4, .always⟩] [0])
 (.seq (.ops [⟨some 3, .move (.tmp 0), 22, .always⟩,
 ⟨some 4, .call { callee := .builtin .len, args := #[.tmp 3], argTypes := #[22] }, 3, .always⟩,
 ⟨some 5, .binOp .leq 3 (.tmp 4) (.const (.int .i64 500)) 3, 4, .always⟩,
 ⟨some 2, .assign (.tmp 5), 4, .always⟩] [2])
 (.ret))
theorem w8 {args : List PV} {σ σ' : List Frm} {r : Ret} (hr : ∀ p, r = .val p → erV p = p) (h : wpP cfg s8 (QEndP cfg [.tmp 2] σ' r) ⟨initEnv args, fun _ => [], σ, ⟨fun _ => false, 0⟩⟩) : CallsV cfg 8 args σ r σ' :=
 callsV_of_p follows cfgT a8 (fn := Tryz.f8) (c := Tryz.f8.body.getD .skip) (by kernel_rfl) (by kernel_rfl) (by kernel_rfl) (by kernel_rfl) (by kernel_rfl) (sc := s8) (by kernel_rfl) [.tmp 2] (by kernel_rfl) hr h
def a9 : List Ann := [⟨[0], [], []⟩,
 ⟨[2], [], []⟩]
def s9 : SC := .seq (.ops [⟨some 2, .assign (.const (.pointer none)), 25, .always⟩] [0])
 (.seq (.ops [⟨some 3, .move (.tmp 0), 22, .always⟩,
 ⟨some 4, .build 71 #[(0, .tmp 3)], 71, .always⟩,
 ⟨some 5, .box 71 (.tmp 4), 25, .always⟩,
 ⟨some 2, .assign (.tmp 5), 25, .always⟩] [2])
 (.ret))
theorem w9 {args : List PV} {σ σ' : List Frm} {r : Ret} (hr : ∀ p, r = .val p → erV p = p) (h : wpP cfg s9 (QEndP cfg [.tmp 2] σ' r) ⟨initEnv args, fun _ => [], σ, ⟨fun _ => false, 0⟩⟩) : CallsV cfg 9 args σ r σ' :=
 callsV_of_p follows cfgT a9 (fn := Tryz.f9) (c := Tryz.f9.body.getD .skip) (by kernel_rfl) (by kernel_rfl) (by kernel_rfl) (by kernel_rfl) (by kernel_rfl) (sc := s9) (by kernel_rfl) [.tmp 2] (by kernel_rfl) hr h
def a67 : List Ann := [⟨[1], [], []⟩,
 ⟨[1, 3], [], []⟩,
 ⟨[3, 7, 8, 9], [], []⟩,
 ⟨[3, 7, 8, 9, 10], [], []⟩,
 ⟨[3, 5, 7, 8, 9], [], []⟩,
 ⟨[3, 7, 8, 9], [], []⟩,
 ⟨[3, 7, 8, 9], [], []⟩,
 ⟨[2], [], []⟩]
def s67 : SC := .seq (.ops [⟨some 1, .box 51 (.tmp 0), 0, .always⟩,
 ⟨some 2, .assign (.const (.int .i64 0)), 3, .always⟩] [1])
 (.seq (.ops [⟨some 3, .assign (.const (.int .i64 1)), 3, .always⟩] [1, 3])
 (.seq (.seq (.ops [⟨some 6, .fieldAddr 51 (.tmp 1) 3, 0, .always⟩,
 ⟨some 7, .load 32 (.tmp 6), 32, .always⟩,
 ⟨some 8, .call { callee := .builtin .len, args := #[.tmp 7], argTypes := #[32] }, 3, .always⟩,
 ⟨some 9, .move (.const (.int .i64 0)), 3, .always⟩] [3, 7, 8, 9])
 (.block 0
 (.loop
 (.seq (.ops [⟨some 10, .binOp .lss 3 (.tmp 9) (.tmp 8) 3, 0, .always⟩] [3, 7, 8, 9, 10])
 (.seq (.cond (.tmp 10)
 (.skip)
 (.exit 0))
 (.seq (.block 1
 (.seq (.ops [⟨some 11, .indexAddr 32 (.tmp 7) (.tmp 9), 0, .always⟩,
 ⟨some 12, .load 51 (.tmp 11), 51, .always⟩,
 ⟨some 5, .alloc 51, 0, .always⟩,
 ⟨none, .store 51 (.tmp 5) (.tmp 12), 0, .always⟩] [3, 5, 7, 8, 9])
 (.ops [⟨some 13, .move (.tmp 3), 3, .always⟩,
 ⟨some 14, .load 51 (.tmp 5), 51, .always⟩,
 ⟨some 15, .call { callee := .value (.func 67), args := #[.tmp 14], argTypes := #[51] }, 3, .always⟩,
 ⟨some 16, .binOp .add 3 (.tmp 13) (.tmp 15) 3, 3, .always⟩,
 ⟨some 3, .assign (.tmp 16), 3, .always⟩] [3, 7, 8, 9])))
 (.ops [⟨some 17, .binOp .add 3 (.tmp 9) (.const (.int .i64 1)) 3, 3, .always⟩,
 ⟨some 9, .move (.tmp 17), 3, .always⟩] [3, 7, 8, 9])))))))
 (.seq (.ops [⟨some 18, .move (.tmp 3), 3, .always⟩,
 ⟨some 2, .assign (.tmp 18), 3, .always⟩] [2])
 (.ret))))
theorem w67 {args : List PV} {σ σ' : List Frm} {r : Ret} (hr : ∀ p, r = .val p → erV p = p) (h : wpP cfg s67 (QEndP cfg [.tmp 2] σ' r) ⟨initEnv args, fun _ => [], σ, ⟨fun _ => false, 0⟩⟩) : CallsV cfg 67 args σ r σ' :=
 callsV_of_p follows cfgT a67 (fn := Tryz.f67) (c := Tryz.f67.body.getD .skip) (by kernel_rfl) (by kernel_rfl) (by kernel_rfl) (by kernel_rfl) (by kernel_rfl) (sc := s67) (by kernel_rfl) [.tmp 2] (by kernel_rfl) hr h
def a146 : List Ann := [⟨[1], [], []⟩,
 ⟨[1, 3], [], []⟩,
 ⟨[1, 3, 7], [], []⟩,
 ⟨[2], [], []⟩,
 ⟨[1, 3, 7, 8], [], []⟩,
 ⟨[1, 3, 7, 8], [], []⟩,
 ⟨[1, 3, 7, 8], [], []⟩,
 ⟨[1, 7, 12], [], []⟩,
 ⟨[1, 12], [], []⟩,
 ⟨[1, 3], [], []⟩,
 ⟨[1, 19], [], []⟩,
 ⟨[2], [], []⟩,
 ⟨[21, 22, 23], [], []⟩,
 ⟨[21, 22, 23, 24], [], []⟩,
 ⟨[5, 21, 22, 23], [], []⟩,
 ⟨[21, 22, 23, 29], [], []⟩,
 ⟨[2], [], []⟩,
 ⟨[21, 22, 23], [], []⟩,
 ⟨[2], [], []⟩]
def s146 : SC := .seq (.ops [⟨some 1, .box 30 (.tmp 0), 0, .always⟩,
 ⟨some 2, .assign (.const (.bool false)), 4, .always⟩] [1])
 (.seq (.ops [⟨some 3, .assign (.const (.int .i64 0)), 3, .always⟩] [1, 3])
 (.seq (.seq (.ops [⟨some 6, .fieldAddr 30 (.tmp 1) 0, 0, .always⟩,
 ⟨some 7, .load 3 (.tmp 6), 3, .always⟩] [1, 3, 7])
 (.block 0
 (.seq (.seq (.ops [⟨some 9, .binOp .eql 3 (.tmp 7) (.const (.int .i64 1)) 3, 4, .always⟩,
 ⟨some 8, .assign (.tmp 9), 4, .always⟩] [1, 3, 7, 8])
 (.cond (.tmp 8)
 (.skip)
 (.seq (.ops [⟨some 10, .binOp .eql 3 (.tmp 7) (.const (.int .i64 2)) 3, 4, .always⟩,
 ⟨some 8, .assign (.tmp 10), 4, .always⟩] [1, 3, 7, 8])
 (.cond (.tmp 8)
 (.skip)
 (.ops [⟨some 11, .binOp .eql 3 (.tmp 7) (.const (.int .i64 5)) 3, 4, .always⟩,
 ⟨some 8, .assign (.tmp 11), 4, .always⟩] [1, 3, 7, 8])))))
 (.cond (.tmp 8)
 (.skip)
 (.seq (.seq (.ops [⟨some 13, .binOp .eql 3 (.tmp 7) (.const (.int .i64 3)) 3, 4, .always⟩,
 ⟨some 12, .assign (.tmp 13), 4, .always⟩] [1, 7, 12])
 (.cond (.tmp 12)
 (.skip)
 (.ops [⟨some 14, .binOp .eql 3 (.tmp 7) (.const (.int .i64 4)) 3, 4, .always⟩,
 ⟨some 12, .assign (.tmp 14), 4, .always⟩] [1, 12])))
 (.cond (.tmp 12)
 (.ops [⟨some 3, .assign (.const (.int .i64 2)), 3, .always⟩] [1, 3])
 (.seq (.ops [⟨some 2, .assign (.const (.bool false)), 4, .always⟩] [2])
 (.ret))))))))
 (.seq (.seq (.ops [⟨some 15, .fieldAddr 30 (.tmp 1) 1, 0, .always⟩,
 ⟨some 16, .load 27 (.tmp 15), 27, .always⟩,
 ⟨some 17, .call { callee := .builtin .len, args := #[.tmp 16], argTypes := #[27] }, 3, .always⟩,
 ⟨some 18, .move (.tmp 3), 3, .always⟩,
 ⟨some 19, .binOp .neq 3 (.tmp 17) (.tmp 18) 3, 4, .always⟩] [1, 19])
 (.cond (.tmp 19)
 (.seq (.ops [⟨some 2, .assign (.const (.bool false)), 4, .always⟩] [2])
 (.ret))
 (.skip)))
 (.seq (.seq (.ops [⟨some 20, .fieldAddr 30 (.tmp 1) 1, 0, .always⟩,
 ⟨some 21, .load 27 (.tmp 20), 27, .always⟩,
 ⟨some 22, .call { callee := .builtin .len, args := #[.tmp 21], argTypes := #[27] }, 3, .always⟩,
 ⟨some 23, .move (.const (.int .i64 0)), 3, .always⟩] [21, 22, 23])
 (.block 1
 (.loop
 (.seq (.ops [⟨some 24, .binOp .lss 3 (.tmp 23) (.tmp 22) 3, 0, .always⟩] [21, 22, 23, 24])
 (.seq (.cond (.tmp 24)
 (.skip)
 (.exit 1))
 (.seq (.block 2
 (.seq (.ops [⟨some 25, .indexAddr 27 (.tmp 21) (.tmp 23), 0, .always⟩,
 ⟨some 26, .load 30 (.tmp 25), 30, .always⟩,
 ⟨some 5, .alloc 30, 0, .always⟩,
 ⟨none, .store 30 (.tmp 5) (.tmp 26), 0, .always⟩] [5, 21, 22, 23])
 (.seq (.ops [⟨some 27, .load 30 (.tmp 5), 30, .always⟩,
 ⟨some 28, .call { callee := .value (.func 146), args := #[.tmp 27], argTypes := #[30] }, 4, .always⟩,
 ⟨some 29, .unOp .not 4 (.tmp 28), 4, .always⟩] [21, 22, 23, 29])
 (.cond (.tmp 29)
 (.seq (.ops [⟨some 2, .assign (.const (.bool false)), 4, .always⟩] [2])
 (.ret))
 (.skip)))))
 (.ops [⟨some 30, .binOp .add 3 (.tmp 23) (.const (.int .i64 1)) 3, 3, .always⟩,
 ⟨some 23, .move (.tmp 30), 3, .always⟩] [21, 22, 23])))))))
 (.seq (.ops [⟨some 2, .assign (.const (.bool true)), 4, .always⟩] [2])
 (.ret))))))
theorem w146 {args : List PV} {σ σ' : List Frm} {r : Ret} (hr : ∀ p, r = .val p → erV p = p) (h : wpP cfg s146 (QEndP cfg [.tmp 2] σ' r) ⟨initEnv args, fun _ => [], σ, ⟨fun _ => false, 0⟩⟩) : CallsV cfg 146 args σ r σ' :=
 callsV_of_p follows cfgT a146 (fn := Tryz.f146) (c := Tryz.f146.body.getD .skip) (by kernel_rfl) (by kernel_rfl) (by kernel_rfl) (by kernel_rfl) (by kernel_rfl) (sc := s146) (by kernel_rfl) [.tmp 2] (by kernel_rfl) hr h
def a147 : List Ann := [⟨[1], [], []⟩,
 ⟨[1, 3], [], []⟩,
 ⟨[3, 7, 8, 9], [], []⟩,
 ⟨[3, 7, 8, 9, 10], [], []⟩,
 ⟨[3, 5, 7, 8, 9], [], []⟩,
 ⟨[3, 7, 8, 9], [], []⟩,
 ⟨[3, 7, 8, 9], [], []⟩,
 ⟨[2], [], []⟩]
def s147 : SC := .seq (.ops [⟨some 1, .box 30 (.tmp 0), 0, .always⟩,
 ⟨some 2, .assign (.const (.int .i64 0)), 3, .always⟩] [1])
 (.seq (.ops [⟨some 3, .assign (.const (.int .i64 1)), 3, .always⟩] [1, 3])
 (.seq (.seq (.ops [⟨some 6, .fieldAddr 30 (.tmp 1) 1, 0, .always⟩,
 ⟨some 7, .load 27 (.tmp 6), 27, .always⟩,
 ⟨some 8, .call { callee := .builtin .len, args := #[.tmp 7], argTypes := #[27] }, 3, .always⟩,
 ⟨some 9, .move (.const (.int .i64 0)), 3, .always⟩] [3, 7, 8, 9])
 (.block 0
 (.loop
 (.seq (.ops [⟨some 10, .binOp .lss 3 (.tmp 9) (.tmp 8) 3, 0, .always⟩] [3, 7, 8, 9, 10])
 (.seq (.cond (.tmp 10)
 (.skip)
 (.exit 0))
 (.seq (.block 1
 (.seq (.ops [⟨some 11, .indexAddr 27 (.tmp 7) (.tmp 9), 0, .always⟩,
 ⟨some 12, .load 30 (.tmp 11), 30, .always⟩,
 ⟨some 5, .alloc 30, 0, .always⟩,
 ⟨none, .store 30 (.tmp 5) (.tmp 12), 0, .always⟩] [3, 5, 7, 8, 9])
 (.ops [⟨some 13, .move (.tmp 3), 3, .always⟩,
 ⟨some 14, .load 30 (.tmp 5), 30, .always⟩,
 ⟨some 15, .call { callee := .value (.func 147), args := #[.tmp 14], argTypes := #[30] }, 3, .always⟩,
 ⟨some 16, .binOp .add 3 (.tmp 13) (.tmp 15) 3, 3, .always⟩,
 ⟨some 3, .assign (.tmp 16), 3, .always⟩] [3, 7, 8, 9])))
 (.ops [⟨some 17, .binOp .add 3 (.tmp 9) (.const (.int .i64 1)) 3, 3, .always⟩,
 ⟨some 9, .move (.tmp 17), 3, .always⟩] [3, 7, 8, 9])))))))
 (.seq (.ops [⟨some 18, .move (.tmp 3), 3, .always⟩,
 ⟨some 2, .assign (.tmp 18), 3, .always⟩] [2])
 (.ret))))
theorem w147 {args : List PV} {σ σ' : List Frm} {r : Ret} (hr : ∀ p, r = .val p → erV p = p) (h : wpP cfg s147 (QEndP cfg [.tmp 2] σ' r) ⟨initEnv args, fun _ => [], σ, ⟨fun _ => false, 0⟩⟩) : CallsV cfg 147 args σ r σ' :=
 callsV_of_p follows cfgT a147 (fn := Tryz.f147) (c := Tryz.f147.body.getD .skip) (by kernel_rfl) (by kernel_rfl) (by kernel_rfl) (by kernel_rfl) (by kernel_rfl) (sc := s147) (by kernel_rfl) [.tmp 2] (by kernel_rfl) hr h
def a124 : List Ann := [⟨[1], [], []⟩,
 ⟨[1, 5], [], []⟩,
 ⟨[2], [], []⟩,
 ⟨[8], [], []⟩,
 ⟨[2], [], []⟩,
 ⟨[2], [], []⟩]
def s124 : SC := .seq (.ops [⟨some 1, .box 30 (.tmp 0), 0, .always⟩,
 ⟨some 2, .assign (.const (.int .i64 0)), 43, .always⟩] [1])
 (.seq (.seq (.ops [⟨some 3, .load 30 (.tmp 1), 30, .always⟩,
 ⟨some 4, .call { callee := .value (.func 146), args := #[.tmp 3], argTypes := #[30] }, 4, .always⟩,
 ⟨some 5, .unOp .not 4 (.tmp 4), 4, .always⟩] [1, 5])
 (.cond (.tmp 5)
 (.seq (.ops [⟨some 2, .assign (.const (.int .i64 2)), 43, .always⟩] [2])
 (.ret))
 (.skip)))
 (.seq (.seq (.ops [⟨some 6, .load 30 (.tmp 1), 30, .always⟩,
 ⟨some 7, .call { callee := .value (.func 147), args := #[.tmp 6], argTypes := #[30] }, 3, .always⟩,
 ⟨some 8, .binOp .gtr 3 (.tmp 7) (.const (.int .i64 64)) 3, 4, .always⟩] [8])
 (.cond (.tmp 8)
 (.seq (.ops [⟨some 2, .assign (.const (.int .i64 4)), 43, .always⟩] [2])
 (.ret))
 (.skip)))
 (.seq (.ops [⟨some 2, .assign (.const (.int .i64 0)), 43, .always⟩] [2])
 (.ret))))
theorem w124 {args : List PV} {σ σ' : List Frm} {r : Ret} (hr : ∀ p, r = .val p → erV p = p) (h : wpP cfg s124 (QEndP cfg [.tmp 2] σ' r) ⟨initEnv args, fun _ => [], σ, ⟨fun _ => false, 0⟩⟩) : CallsV cfg 124 args σ r σ' :=
 callsV_of_p follows cfgT a124 (fn := Tryz.f124) (c := Tryz.f124.body.getD .skip) (by kernel_rfl) (by kernel_rfl) (by kernel_rfl) (by kernel_rfl) (by kernel_rfl) (sc := s124) (by kernel_rfl) [.tmp 2] (by kernel_rfl) hr h
def a131 : List Ann := [⟨[1], [], []⟩,
 ⟨[2], [], []⟩]
def s131 : SC := .seq (.ops [⟨some 1, .box 30 (.tmp 0), 0, .always⟩,
 ⟨some 2, .assign (.const (.bool false)), 4, .always⟩] [1])
 (.seq (.ops [⟨some 3, .fieldAddr 30 (.tmp 1) 0, 0, .always⟩,
 ⟨some 4, .load 3 (.tmp 3), 3, .always⟩,
 ⟨some 5, .binOp .eql 3 (.tmp 4) (.const (.int .i64 0)) 3, 4, .always⟩,
 ⟨some 6, .move (.tmp 5), 4, .always⟩,
 ⟨some 7, .fieldAddr 30 (.tmp 1) 1, 0, .tmp 6 true⟩,
 ⟨some 8, .load 27 (.tmp 7), 27, .tmp 6 true⟩,
 ⟨some 9, .call { callee := .builtin .len, args := #[.tmp 8], argTypes := #[27] }, 3, .tmp 6 true⟩,
 ⟨some 10, .binOp .eql 3 (.tmp 9) (.const (.int .i64 0)) 3, 4, .tmp 6 true⟩,
 ⟨some 11, .pick (.tmp 6) (.tmp 10) (.const (.bool false)), 4, .always⟩,
 ⟨some 2, .assign (.tmp 11), 4, .always⟩] [2])
 (.ret))
theorem w131 {args : List PV} {σ σ' : List Frm} {r : Ret} (hr : ∀ p, r = .val p → erV p = p) (h : wpP cfg s131 (QEndP cfg [.tmp 2] σ' r) ⟨initEnv args, fun _ => [], σ, ⟨fun _ => false, 0⟩⟩) : CallsV cfg 131 args σ r σ' :=
 callsV_of_p follows cfgT a131 (fn := Tryz.f131) (c := Tryz.f131.body.getD .skip) (by kernel_rfl) (by kernel_rfl) (by kernel_rfl) (by kernel_rfl) (by kernel_rfl) (sc := s131) (by kernel_rfl) [.tmp 2] (by kernel_rfl) hr h
def a134 : List Ann := [⟨[0], [], []⟩,
 ⟨[3], [], []⟩,
 ⟨[3, 4], [], []⟩,
 ⟨[3, 4], [], []⟩,
 ⟨[3, 4], [], []⟩,
 ⟨[3, 4], [], []⟩,
 ⟨[2], [], []⟩,
 ⟨[3, 9], [], []⟩,
 ⟨[3, 9], [], []⟩,
 ⟨[3, 9], [], []⟩,
 ⟨[3, 9], [], []⟩,
 ⟨[2], [], []⟩,
 ⟨[3, 14], [], []⟩,
 ⟨[3, 14], [], []⟩,
 ⟨[3, 14], [], []⟩,
 ⟨[2], [], []⟩,
 ⟨[3, 18], [], []⟩,
 ⟨[18], [], []⟩,
 ⟨[2], [], []⟩,
 ⟨[2], [], []⟩]
def s134 : SC := .seq (.ops [⟨some 2, .assign (.const (.int .i64 0)), 3, .always⟩] [0])
 (.seq (.seq (.ops [⟨some 3, .move (.tmp 0), 3, .always⟩] [3])
 (.block 0
 (.seq (.seq (.ops [⟨some 5, .binOp .eql 3 (.tmp 3) (.const (.int .i64 1)) 3, 4, .always⟩,
 ⟨some 4, .assign (.tmp 5), 4, .always⟩] [3, 4])
 (.cond (.tmp 4)
 (.skip)
 (.seq (.ops [⟨some 6, .binOp .eql 3 (.tmp 3) (.const (.int .i64 4)) 3, 4, .always⟩,
 ⟨some 4, .assign (.tmp 6), 4, .always⟩] [3, 4])
 (.cond (.tmp 4)
 (.skip)
 (.seq (.ops [⟨some 7, .binOp .eql 3 (.tmp 3) (.const (.int .i64 7)) 3, 4, .always⟩,
 ⟨some 4, .assign (.tmp 7), 4, .always⟩] [3, 4])
 (.cond (.tmp 4)
 (.skip)
 (.ops [⟨some 8, .binOp .eql 3 (.tmp 3) (.const (.int .i64 13)) 3, 4, .always⟩,
 ⟨some 4, .assign (.tmp 8), 4, .always⟩] [3, 4])))))))
 (.cond (.tmp 4)
 (.seq (.ops [⟨some 2, .assign (.const (.int .i64 0)), 3, .always⟩] [2])
 (.ret))
 (.seq (.seq (.ops [⟨some 10, .binOp .eql 3 (.tmp 3) (.const (.int .i64 2)) 3, 4, .always⟩,
 ⟨some 9, .assign (.tmp 10), 4, .always⟩] [3, 9])
 (.cond (.tmp 9)
 (.skip)
 (.seq (.ops [⟨some 11, .binOp .eql 3 (.tmp 3) (.const (.int .i64 5)) 3, 4, .always⟩,
 ⟨some 9, .assign (.tmp 11), 4, .always⟩] [3, 9])
 (.cond (.tmp 9)
 (.skip)
 (.seq (.ops [⟨some 12, .binOp .eql 3 (.tmp 3) (.const (.int .i64 11)) 3, 4, .always⟩,
 ⟨some 9, .assign (.tmp 12), 4, .always⟩] [3, 9])
 (.cond (.tmp 9)
 (.skip)
 (.ops [⟨some 13, .binOp .eql 3 (.tmp 3) (.const (.int .i64 12)) 3, 4, .always⟩,
 ⟨some 9, .assign (.tmp 13), 4, .always⟩] [3, 9])))))))
 (.cond (.tmp 9)
 (.seq (.ops [⟨some 2, .assign (.const (.int .i64 1)), 3, .always⟩] [2])
 (.ret))
 (.seq (.seq (.ops [⟨some 15, .binOp .eql 3 (.tmp 3) (.const (.int .i64 3)) 3, 4, .always⟩,
 ⟨some 14, .assign (.tmp 15), 4, .always⟩] [3, 14])
 (.cond (.tmp 14)
 (.skip)
 (.seq (.ops [⟨some 16, .binOp .eql 3 (.tmp 3) (.const (.int .i64 8)) 3, 4, .always⟩,
 ⟨some 14, .assign (.tmp 16), 4, .always⟩] [3, 14])
 (.cond (.tmp 14)
 (.skip)
 (.ops [⟨some 17, .binOp .eql 3 (.tmp 3) (.const (.int .i64 10)) 3, 4, .always⟩,
 ⟨some 14, .assign (.tmp 17), 4, .always⟩] [3, 14])))))
 (.cond (.tmp 14)
 (.seq (.ops [⟨some 2, .assign (.const (.int .i64 2)), 3, .always⟩] [2])
 (.ret))
 (.seq (.seq (.ops [⟨some 19, .binOp .eql 3 (.tmp 3) (.const (.int .i64 6)) 3, 4, .always⟩,
 ⟨some 18, .assign (.tmp 19), 4, .always⟩] [3, 18])
 (.cond (.tmp 18)
 (.skip)
 (.ops [⟨some 20, .binOp .eql 3 (.tmp 3) (.const (.int .i64 9)) 3, 4, .always⟩,
 ⟨some 18, .assign (.tmp 20), 4, .always⟩] [18])))
 (.cond (.tmp 18)
 (.seq (.ops [⟨some 2, .assign (.const (.int .i64 3)), 3, .always⟩] [2])
 (.ret))
 (.skip)))))))))))
 (.seq (.ops [⟨some 2, .assign (.const (.int .i64 (-1))), 3, .always⟩] [2])
 (.ret)))
theorem w134 {args : List PV} {σ σ' : List Frm} {r : Ret} (hr : ∀ p, r = .val p → erV p = p) (h : wpP cfg s134 (QEndP cfg [.tmp 2] σ' r) ⟨initEnv args, fun _ => [], σ, ⟨fun _ => false, 0⟩⟩) : CallsV cfg 134 args σ r σ' :=
 callsV_of_p follows cfgT a134 (fn := Tryz.f134) (c := Tryz.f134.body.getD .skip) (by kernel_rfl) (by kernel_rfl) (by kernel_rfl) (by kernel_rfl) (by kernel_rfl) (sc := s134) (by kernel_rfl) [.tmp 2] (by kernel_rfl) hr h
def a106 : List Ann := [⟨[1], [], []⟩,
 ⟨[1, 26], [0, 1, 3, 0, 8, 24, 63, 127, 255, 511, 1023, 2047, 4095, 8191, 16383, 32767, 65535, 131071, 262143, 524287, 1048575, 2097151], [false, true, false, false, false, true, false, false, false, false, false, false, false, false, false, false, false, false, false, false, false, false]⟩,
 ⟨[2], [], []⟩,
 ⟨[1, 28], [], []⟩,
 ⟨[1, 32], [], []⟩,
 ⟨[2], [], []⟩,
 ⟨[1, 28, 33], [], []⟩,
 ⟨[1, 28, 33], [], []⟩,
 ⟨[1, 33], [], []⟩,
 ⟨[1, 40], [], []⟩,
 ⟨[2], [], []⟩,
 ⟨[42, 43, 44], [], []⟩,
 ⟨[42, 43, 44, 45], [], []⟩,
 ⟨[4, 42, 43, 44], [], []⟩,
 ⟨[42, 43, 44, 50], [], []⟩,
 ⟨[2], [], []⟩,
 ⟨[42, 43, 44], [], []⟩,
 ⟨[2], [], []⟩]
def s106 : SC := .seq (.ops [⟨some 1, .box 51 (.tmp 0), 0, .always⟩,
 ⟨some 2, .assign (.const (.bool false)), 4, .always⟩] [1])
 (.seq (.seq (.draw [⟨some 5, .fieldAddr 51 (.tmp 1) 3, 0, .always⟩,
 ⟨some 6, .load 32 (.tmp 5), 32, .always⟩,
 ⟨some 7, .call { callee := .builtin .len, args := #[.tmp 6], argTypes := #[32] }, 3, .always⟩,
 ⟨some 8, .fieldAddr 51 (.tmp 1) 0, 0, .always⟩,
 ⟨some 9, .load 3 (.tmp 8), 3, .always⟩,
 ⟨some 10, .call { callee := .value (.func 134), args := #[.tmp 9], argTypes := #[3] }, 3, .always⟩,
 ⟨some 11, .binOp .neq 3 (.tmp 7) (.tmp 10) 3, 4, .always⟩,
 ⟨some 12, .move (.tmp 11), 4, .always⟩,
 ⟨some 13, .fieldAddr 51 (.tmp 1) 1, 0, .tmp 12 false⟩,
 ⟨some 14, .load 3 (.tmp 13), 3, .tmp 12 false⟩,
 ⟨some 15, .binOp .lss 3 (.tmp 14) (.const (.int .i64 0)) 3, 4, .tmp 12 false⟩,
 ⟨some 16, .pick (.tmp 12) (.const (.bool true)) (.tmp 15), 4, .always⟩,
 ⟨some 17, .move (.tmp 16), 4, .always⟩,
 ⟨some 18, .fieldAddr 51 (.tmp 1) 0, 0, .tmp 17 false⟩,
 ⟨some 19, .load 3 (.tmp 18), 3, .tmp 17 false⟩,
 ⟨some 20, .binOp .neq 3 (.tmp 19) (.const (.int .i64 1)) 3, 4, .tmp 17 false⟩,
 ⟨some 21, .move (.tmp 20), 4, .tmp 17 false⟩,
 ⟨some 22, .fieldAddr 51 (.tmp 1) 1, 0, .tmp 21 true⟩,
 ⟨some 23, .load 3 (.tmp 22), 3, .tmp 21 true⟩,
 ⟨some 24, .binOp .neq 3 (.tmp 23) (.const (.int .i64 0)) 3, 4, .tmp 21 true⟩,
 ⟨some 25, .pick (.tmp 21) (.tmp 24) (.const (.bool false)), 4, .tmp 17 false⟩,
 ⟨some 26, .pick (.tmp 17) (.const (.bool true)) (.tmp 25), 4, .always⟩] [false, true, false, false, false, true, false, false, false, false, false, false, false, false, false, false, false, false, false, false, false, false] [1, 26])
 (.cond (.tmp 26)
 (.seq (.ops [⟨some 2, .assign (.const (.bool false)), 4, .always⟩] [2])
 (.ret))
 (.skip)))
 (.seq (.seq (.ops [⟨some 27, .fieldAddr 51 (.tmp 1) 0, 0, .always⟩,
 ⟨some 28, .load 3 (.tmp 27), 3, .always⟩] [1, 28])
 (.block 0
 (.seq (.seq (.ops [⟨some 34, .binOp .eql 3 (.tmp 28) (.const (.int .i64 2)) 3, 4, .always⟩,
 ⟨some 33, .assign (.tmp 34), 4, .always⟩] [1, 28, 33])
 (.cond (.tmp 33)
 (.skip)
 (.seq (.ops [⟨some 35, .binOp .eql 3 (.tmp 28) (.const (.int .i64 6)) 3, 4, .always⟩,
 ⟨some 33, .assign (.tmp 35), 4, .always⟩] [1, 28, 33])
 (.cond (.tmp 33)
 (.skip)
 (.ops [⟨some 36, .binOp .eql 3 (.tmp 28) (.const (.int .i64 9)) 3, 4, .always⟩,
 ⟨some 33, .assign (.tmp 36), 4, .always⟩] [1, 33])))))
 (.cond (.tmp 33)
 (.seq (.ops [⟨some 37, .fieldAddr 51 (.tmp 1) 2, 0, .always⟩,
 ⟨some 38, .load 30 (.tmp 37), 30, .always⟩,
 ⟨some 39, .call { callee := .value (.func 124), args := #[.tmp 38], argTypes := #[30] }, 43, .always⟩,
 ⟨some 40, .binOp .neq 43 (.tmp 39) (.const (.int .i64 0)) 43, 4, .always⟩] [1, 40])
 (.cond (.tmp 40)
 (.seq (.ops [⟨some 2, .assign (.const (.bool false)), 4, .always⟩] [2])
 (.ret))
 (.skip)))
 (.seq (.ops [⟨some 29, .fieldAddr 51 (.tmp 1) 2, 0, .always⟩,
 ⟨some 30, .load 30 (.tmp 29), 30, .always⟩,
 ⟨some 31, .call { callee := .value (.func 131), args := #[.tmp 30], argTypes := #[30] }, 4, .always⟩,
 ⟨some 32, .unOp .not 4 (.tmp 31), 4, .always⟩] [1, 32])
 (.cond (.tmp 32)
 (.seq (.ops [⟨some 2, .assign (.const (.bool false)), 4, .always⟩] [2])
 (.ret))
 (.skip)))))))
 (.seq (.seq (.ops [⟨some 41, .fieldAddr 51 (.tmp 1) 3, 0, .always⟩,
 ⟨some 42, .load 32 (.tmp 41), 32, .always⟩,
 ⟨some 43, .call { callee := .builtin .len, args := #[.tmp 42], argTypes := #[32] }, 3, .always⟩,
 ⟨some 44, .move (.const (.int .i64 0)), 3, .always⟩] [42, 43, 44])
 (.block 1
 (.loop
 (.seq (.ops [⟨some 45, .binOp .lss 3 (.tmp 44) (.tmp 43) 3, 0, .always⟩] [42, 43, 44, 45])
 (.seq (.cond (.tmp 45)
 (.skip)
 (.exit 1))
 (.seq (.block 2
 (.seq (.ops [⟨some 46, .indexAddr 32 (.tmp 42) (.tmp 44), 0, .always⟩,
 ⟨some 47, .load 51 (.tmp 46), 51, .always⟩,
 ⟨some 4, .alloc 51, 0, .always⟩,
 ⟨none, .store 51 (.tmp 4) (.tmp 47), 0, .always⟩] [4, 42, 43, 44])
 (.seq (.ops [⟨some 48, .load 51 (.tmp 4), 51, .always⟩,
 ⟨some 49, .call { callee := .value (.func 106), args := #[.tmp 48], argTypes := #[51] }, 4, .always⟩,
 ⟨some 50, .unOp .not 4 (.tmp 49), 4, .always⟩] [42, 43, 44, 50])
 (.cond (.tmp 50)
 (.seq (.ops [⟨some 2, .assign (.const (.bool false)), 4, .always⟩] [2])
 (.ret))
 (.skip)))))
 (.ops [⟨some 51, .binOp .add 3 (.tmp 44) (.const (.int .i64 1)) 3, 3, .always⟩,
 ⟨some 44, .move (.tmp 51), 3, .always⟩] [42, 43, 44])))))))
 (.seq (.ops [⟨some 2, .assign (.const (.bool true)), 4, .always⟩] [2])
 (.ret)))))
theorem w106 {args : List PV} {σ σ' : List Frm} {r : Ret} (hr : ∀ p, r = .val p → erV p = p) (h : wpP cfg s106 (QEndP cfg [.tmp 2] σ' r) ⟨initEnv args, fun _ => [], σ, ⟨fun _ => false, 0⟩⟩) : CallsV cfg 106 args σ r σ' :=
 callsV_of_p follows cfgT a106 (fn := Tryz.f106) (c := Tryz.f106.body.getD .skip) (by kernel_rfl) (by kernel_rfl) (by kernel_rfl) (by kernel_rfl) (by kernel_rfl) (sc := s106) (by kernel_rfl) [.tmp 2] (by kernel_rfl) hr h
def a63 : List Ann := [⟨[1], [], []⟩,
 ⟨[1, 5], [], []⟩,
 ⟨[2], [], []⟩,
 ⟨[8], [], []⟩,
 ⟨[2], [], []⟩,
 ⟨[2], [], []⟩]
def s63 : SC := .seq (.ops [⟨some 1, .box 51 (.tmp 0), 0, .always⟩,
 ⟨some 2, .assign (.const (.int .i64 0)), 43, .always⟩] [1])
 (.seq (.seq (.ops [⟨some 3, .load 51 (.tmp 1), 51, .always⟩,
 ⟨some 4, .call { callee := .value (.func 106), args := #[.tmp 3], argTypes := #[51] }, 4, .always⟩,
 ⟨some 5, .unOp .not 4 (.tmp 4), 4, .always⟩] [1, 5])
 (.cond (.tmp 5)
 (.seq (.ops [⟨some 2, .assign (.const (.int .i64 2)), 43, .always⟩] [2])
 (.ret))
 (.skip)))
 (.seq (.seq (.ops [⟨some 6, .load 51 (.tmp 1), 51, .always⟩,
 ⟨some 7, .call { callee := .value (.func 67), args := #[.tmp 6], argTypes := #[51] }, 3, .always⟩,
 ⟨some 8, .binOp .gtr 3 (.tmp 7) (.const (.int .i64 4096)) 3, 4, .always⟩] [8])
 (.cond (.tmp 8)
 (.seq (.ops [⟨some 2, .assign (.const (.int .i64 4)), 43, .always⟩] [2])
 (.ret))
 (.skip)))
 (.seq (.ops [⟨some 2, .assign (.const (.int .i64 0)), 43, .always⟩] [2])
 (.ret))))
theorem w63 {args : List PV} {σ σ' : List Frm} {r : Ret} (hr : ∀ p, r = .val p → erV p = p) (h : wpP cfg s63 (QEndP cfg [.tmp 2] σ' r) ⟨initEnv args, fun _ => [], σ, ⟨fun _ => false, 0⟩⟩) : CallsV cfg 63 args σ r σ' :=
 callsV_of_p follows cfgT a63 (fn := Tryz.f63) (c := Tryz.f63.body.getD .skip) (by kernel_rfl) (by kernel_rfl) (by kernel_rfl) (by kernel_rfl) (by kernel_rfl) (sc := s63) (by kernel_rfl) [.tmp 2] (by kernel_rfl) hr h
def a65 : List Ann := [⟨[1], [], []⟩,
 ⟨[1, 3], [], []⟩,
 ⟨[1, 3, 9, 10, 11], [], []⟩,
 ⟨[1, 3, 9, 10, 11, 12], [], []⟩,
 ⟨[1, 3, 5, 9, 10, 11], [], []⟩,
 ⟨[1, 3, 9, 10, 11], [], []⟩,
 ⟨[1, 3, 9, 10, 11], [], []⟩,
 ⟨[3, 21, 22, 23], [], []⟩,
 ⟨[3, 21, 22, 23, 24], [], []⟩,
 ⟨[3, 7, 21, 22, 23], [], []⟩,
 ⟨[3, 21, 22, 23], [], []⟩,
 ⟨[3, 21, 22, 23], [], []⟩,
 ⟨[2], [], []⟩]
def s65 : SC := .seq (.ops [⟨some 1, .box 35 (.tmp 0), 0, .always⟩,
 ⟨some 2, .assign (.const (.int .i64 0)), 3, .always⟩] [1])
 (.seq (.ops [⟨some 3, .assign (.const (.int .i64 1)), 3, .always⟩] [1, 3])
 (.seq (.seq (.ops [⟨some 8, .fieldAddr 35 (.tmp 1) 2, 0, .always⟩,
 ⟨some 9, .load 32 (.tmp 8), 32, .always⟩,
 ⟨some 10, .call { callee := .builtin .len, args := #[.tmp 9], argTypes := #[32] }, 3, .always⟩,
 ⟨some 11, .move (.const (.int .i64 0)), 3, .always⟩] [1, 3, 9, 10, 11])
 (.block 0
 (.loop
 (.seq (.ops [⟨some 12, .binOp .lss 3 (.tmp 11) (.tmp 10) 3, 0, .always⟩] [1, 3, 9, 10, 11, 12])
 (.seq (.cond (.tmp 12)
 (.skip)
 (.exit 0))
 (.seq (.block 1
 (.seq (.ops [⟨some 13, .indexAddr 32 (.tmp 9) (.tmp 11), 0, .always⟩,
 ⟨some 14, .load 51 (.tmp 13), 51, .always⟩,
 ⟨some 5, .alloc 51, 0, .always⟩,
 ⟨none, .store 51 (.tmp 5) (.tmp 14), 0, .always⟩] [1, 3, 5, 9, 10, 11])
 (.ops [⟨some 15, .move (.tmp 3), 3, .always⟩,
 ⟨some 16, .load 51 (.tmp 5), 51, .always⟩,
 ⟨some 17, .call { callee := .value (.func 67), args := #[.tmp 16], argTypes := #[51] }, 3, .always⟩,
 ⟨some 18, .binOp .add 3 (.tmp 15) (.tmp 17) 3, 3, .always⟩,
 ⟨some 3, .assign (.tmp 18), 3, .always⟩] [1, 3, 9, 10, 11])))
 (.ops [⟨some 19, .binOp .add 3 (.tmp 11) (.const (.int .i64 1)) 3, 3, .always⟩,
 ⟨some 11, .move (.tmp 19), 3, .always⟩] [1, 3, 9, 10, 11])))))))
 (.seq (.seq (.ops [⟨some 20, .fieldAddr 35 (.tmp 1) 3, 0, .always⟩,
 ⟨some 21, .load 33 (.tmp 20), 33, .always⟩,
 ⟨some 22, .call { callee := .builtin .len, args := #[.tmp 21], argTypes := #[33] }, 3, .always⟩,
 ⟨some 23, .move (.const (.int .i64 0)), 3, .always⟩] [3, 21, 22, 23])
 (.block 2
 (.loop
 (.seq (.ops [⟨some 24, .binOp .lss 3 (.tmp 23) (.tmp 22) 3, 0, .always⟩] [3, 21, 22, 23, 24])
 (.seq (.cond (.tmp 24)
 (.skip)
 (.exit 2))
 (.seq (.block 3
 (.seq (.ops [⟨some 25, .indexAddr 33 (.tmp 21) (.tmp 23), 0, .always⟩,
 ⟨some 26, .load 35 (.tmp 25), 35, .always⟩,
 ⟨some 7, .alloc 35, 0, .always⟩,
 ⟨none, .store 35 (.tmp 7) (.tmp 26), 0, .always⟩] [3, 7, 21, 22, 23])
 (.ops [⟨some 27, .move (.tmp 3), 3, .always⟩,
 ⟨some 28, .load 35 (.tmp 7), 35, .always⟩,
 ⟨some 29, .call { callee := .value (.func 65), args := #[.tmp 28], argTypes := #[35] }, 3, .always⟩,
 ⟨some 30, .binOp .add 3 (.tmp 27) (.tmp 29) 3, 3, .always⟩,
 ⟨some 3, .assign (.tmp 30), 3, .always⟩] [3, 21, 22, 23])))
 (.ops [⟨some 31, .binOp .add 3 (.tmp 23) (.const (.int .i64 1)) 3, 3, .always⟩,
 ⟨some 23, .move (.tmp 31), 3, .always⟩] [3, 21, 22, 23])))))))
 (.seq (.ops [⟨some 32, .move (.tmp 3), 3, .always⟩,
 ⟨some 2, .assign (.tmp 32), 3, .always⟩] [2])
 (.ret)))))
theorem w65 {args : List PV} {σ σ' : List Frm} {r : Ret} (hr : ∀ p, r = .val p → erV p = p) (h : wpP cfg s65 (QEndP cfg [.tmp 2] σ' r) ⟨initEnv args, fun _ => [], σ, ⟨fun _ => false, 0⟩⟩) : CallsV cfg 65 args σ r σ' :=
 callsV_of_p follows cfgT a65 (fn := Tryz.f65) (c := Tryz.f65.body.getD .skip) (by kernel_rfl) (by kernel_rfl) (by kernel_rfl) (by kernel_rfl) (by kernel_rfl) (sc := s65) (by kernel_rfl) [.tmp 2] (by kernel_rfl) hr h
def a98 : List Ann := [⟨[2, 3, 4], [], []⟩,
 ⟨[4], [0, 0, 2, 7, 15, 31, 0, 127, 255, 511, 1023, 2047], [true, true, false, true, false, true, true, false, false, false, false, false]⟩]
def s98 : SC := .seq (.ops [⟨some 2, .box 51 (.tmp 0), 0, .always⟩,
 ⟨some 3, .box 51 (.tmp 1), 0, .always⟩,
 ⟨some 4, .alloc 35, 0, .always⟩] [2, 3, 4])
 (.seq (.draw [⟨some 5, .call { callee := .value (.func 75), args := #[], argTypes := #[] }, 51, .always⟩,
 ⟨some 6, .load 51 (.tmp 2), 51, .always⟩,
 ⟨some 7, .buildSlice 32 1 #[(0, .tmp 6)], 32, .always⟩,
 ⟨some 8, .call { callee := .value (.func 70), args := #[.const (.int .i64 5), .tmp 7], argTypes := #[3, 32] }, 51, .always⟩,
 ⟨some 9, .buildSlice 32 2 #[(0, .tmp 5), (1, .tmp 8)], 32, .always⟩,
 ⟨some 10, .call { callee := .value (.func 70), args := #[.const (.int .i64 3), .tmp 9], argTypes := #[3, 32] }, 51, .always⟩,
 ⟨some 11, .load 51 (.tmp 3), 51, .always⟩,
 ⟨some 12, .buildSlice 32 2 #[(0, .tmp 10), (1, .tmp 11)], 32, .always⟩,
 ⟨some 13, .call { callee := .value (.func 70), args := #[.const (.int .i64 3), .tmp 12], argTypes := #[3, 32] }, 51, .always⟩,
 ⟨some 14, .call { callee := .value (.func 70), args := #[.const (.int .i64 4), .const (.slice none 0 0)], argTypes := #[3, 32] }, 51, .always⟩,
 ⟨some 15, .call { callee := .value (.func 45), args := #[.tmp 13, .tmp 14], argTypes := #[51, 51] }, 35, .always⟩,
 ⟨none, .store 35 (.tmp 4) (.tmp 15), 0, .always⟩] [true, true, false, true, false, true, true, false, false, false, false, false] [4])
 (.ret))
theorem w98 {args : List PV} {σ σ' : List Frm} {r : Ret} (hr : ∀ p, r = .val p → erV p = p) (h : wpP cfg s98 (QEndP cfg [.cell 4 35] σ' r) ⟨initEnv args, fun _ => [], σ, ⟨fun _ => false, 0⟩⟩) : CallsV cfg 98 args σ r σ' :=
 callsV_of_p follows cfgT a98 (fn := Tryz.f98) (c := Tryz.f98.body.getD .skip) (by kernel_rfl) (by kernel_rfl) (by kernel_rfl) (by kernel_rfl) (by kernel_rfl) (sc := s98) (by kernel_rfl) [.cell 4 35] (by kernel_rfl) hr h
def a44 : List Ann := [⟨[2, 3, 4], [], []⟩,
 ⟨[2, 3, 4, 6], [], []⟩,
 ⟨[2, 3, 4, 6, 12], [], []⟩,
 ⟨[4, 5], [], []⟩,
 ⟨[2, 3, 4, 7], [], []⟩,
 ⟨[2, 3, 4, 7, 18], [], []⟩,
 ⟨[4, 5], [], []⟩,
 ⟨[4, 8], [], []⟩,
 ⟨[4, 8, 34], [], []⟩,
 ⟨[4, 5], [], []⟩,
 ⟨[4, 5], [], []⟩]
def s44 : SC := .seq (.ops [⟨some 2, .box 51 (.tmp 0), 0, .always⟩,
 ⟨some 3, .box 51 (.tmp 1), 0, .always⟩,
 ⟨some 4, .alloc 35, 0, .always⟩,
 ⟨some 5, .assign (.const (.int .i64 0)), 43, .always⟩] [2, 3, 4])
 (.seq (.seq (.ops [⟨some 9, .load 51 (.tmp 2), 51, .always⟩,
 ⟨some 10, .call { callee := .value (.func 63), args := #[.tmp 9], argTypes := #[51] }, 43, .always⟩,
 ⟨some 6, .assign (.tmp 10), 43, .always⟩] [2, 3, 4, 6])
 (.seq (.ops [⟨some 11, .move (.tmp 6), 43, .always⟩,
 ⟨some 12, .binOp .neq 43 (.tmp 11) (.const (.int .i64 0)) 43, 4, .always⟩] [2, 3, 4, 6, 12])
 (.cond (.tmp 12)
 (.seq (.ops [⟨some 13, .build 35 #[], 35, .always⟩,
 ⟨some 14, .move (.tmp 6), 43, .always⟩,
 ⟨none, .store 35 (.tmp 4) (.tmp 13), 0, .always⟩,
 ⟨some 5, .assign (.tmp 14), 43, .always⟩] [4, 5])
 (.ret))
 (.skip))))
 (.seq (.seq (.ops [⟨some 15, .load 51 (.tmp 3), 51, .always⟩,
 ⟨some 16, .call { callee := .value (.func 63), args := #[.tmp 15], argTypes := #[51] }, 43, .always⟩,
 ⟨some 7, .assign (.tmp 16), 43, .always⟩] [2, 3, 4, 7])
 (.seq (.ops [⟨some 17, .move (.tmp 7), 43, .always⟩,
 ⟨some 18, .binOp .neq 43 (.tmp 17) (.const (.int .i64 0)) 43, 4, .always⟩] [2, 3, 4, 7, 18])
 (.cond (.tmp 18)
 (.seq (.ops [⟨some 19, .build 35 #[], 35, .always⟩,
 ⟨some 20, .move (.tmp 7), 43, .always⟩,
 ⟨none, .store 35 (.tmp 4) (.tmp 19), 0, .always⟩,
 ⟨some 5, .assign (.tmp 20), 43, .always⟩] [4, 5])
 (.ret))
 (.skip))))
 (.seq (.ops [⟨some 21, .load 51 (.tmp 2), 51, .always⟩,
 ⟨some 22, .load 51 (.tmp 3), 51, .always⟩,
 ⟨some 23, .call { callee := .value (.func 98), args := #[.tmp 21, .tmp 22], argTypes := #[51, 51] }, 35, .always⟩,
 ⟨some 8, .alloc 35, 0, .always⟩,
 ⟨none, .store 35 (.tmp 8) (.tmp 23), 0, .always⟩] [4, 8])
 (.seq (.seq (.ops [⟨some 24, .fieldAddr 35 (.tmp 8) 2, 0, .always⟩,
 ⟨some 25, .load 32 (.tmp 24), 32, .always⟩,
 ⟨some 26, .indexAddr 32 (.tmp 25) (.const (.int .i64 0)), 0, .always⟩,
 ⟨some 27, .load 51 (.tmp 26), 51, .always⟩,
 ⟨some 28, .call { callee := .value (.func 67), args := #[.tmp 27], argTypes := #[51] }, 3, .always⟩,
 ⟨some 29, .binOp .gtr 3 (.tmp 28) (.const (.int .i64 4096)) 3, 4, .always⟩,
 ⟨some 30, .move (.tmp 29), 4, .always⟩,
 ⟨some 31, .load 35 (.tmp 8), 35, .tmp 30 false⟩,
 ⟨some 32, .call { callee := .value (.func 65), args := #[.tmp 31], argTypes := #[35] }, 3, .tmp 30 false⟩,
 ⟨some 33, .binOp .gtr 3 (.tmp 32) (.const (.int .i64 4096)) 3, 4, .tmp 30 false⟩,
 ⟨some 34, .pick (.tmp 30) (.const (.bool true)) (.tmp 33), 4, .always⟩] [4, 8, 34])
 (.cond (.tmp 34)
 (.seq (.ops [⟨some 35, .build 35 #[], 35, .always⟩,
 ⟨none, .store 35 (.tmp 4) (.tmp 35), 0, .always⟩,
 ⟨some 5, .assign (.const (.int .i64 4)), 43, .always⟩] [4, 5])
 (.ret))
 (.skip)))
 (.seq (.ops [⟨some 36, .load 35 (.tmp 8), 35, .always⟩,
 ⟨none, .store 35 (.tmp 4) (.tmp 36), 0, .always⟩,
 ⟨some 5, .assign (.const (.int .i64 0)), 43, .always⟩] [4, 5])
 (.ret))))))
theorem w44 {args : List PV} {σ σ' : List Frm} {r : Ret} (hr : ∀ p, r = .val p → erV p = p) (h : wpP cfg s44 (QEndP cfg [.cell 4 35, .tmp 5] σ' r) ⟨initEnv args, fun _ => [], σ, ⟨fun _ => false, 0⟩⟩) : CallsV cfg 44 args σ r σ' :=
 callsV_of_p follows cfgT a44 (fn := Tryz.f44) (c := Tryz.f44.body.getD .skip) (by kernel_rfl) (by kernel_rfl) (by kernel_rfl) (by kernel_rfl) (by kernel_rfl) (sc := s44) (by kernel_rfl) [.cell 4 35, .tmp 5] (by kernel_rfl) hr h
def a132 : List Ann := [⟨[0], [], []⟩,
 ⟨[2], [], []⟩]
def s132 : SC := .seq (.ops [⟨some 2, .assign (.const (.bool false)), 4, .always⟩] [0])
 (.seq (.ops [⟨some 3, .move (.tmp 0), 3, .always⟩,
 ⟨some 4, .binOp .eql 3 (.tmp 3) (.const (.int .i64 4)) 3, 4, .always⟩,
 ⟨some 5, .move (.tmp 4), 4, .always⟩,
 ⟨some 6, .move (.tmp 0), 3, .tmp 5 false⟩,
 ⟨some 7, .binOp .eql 3 (.tmp 6) (.const (.int .i64 5)) 3, 4, .tmp 5 false⟩,
 ⟨some 8, .pick (.tmp 5) (.const (.bool true)) (.tmp 7), 4, .always⟩,
 ⟨some 9, .move (.tmp 8), 4, .always⟩,
 ⟨some 10, .move (.tmp 0), 3, .tmp 9 false⟩,
 ⟨some 11, .binOp .eql 3 (.tmp 10) (.const (.int .i64 6)) 3, 4, .tmp 9 false⟩,
 ⟨some 12, .pick (.tmp 9) (.const (.bool true)) (.tmp 11), 4, .always⟩,
 ⟨some 13, .move (.tmp 12), 4, .always⟩,
 ⟨some 14, .move (.tmp 0), 3, .tmp 13 false⟩,
 ⟨some 15, .binOp .eql 3 (.tmp 14) (.const (.int .i64 7)) 3, 4, .tmp 13 false⟩,
 ⟨some 16, .pick (.tmp 13) (.const (.bool true)) (.tmp 15), 4, .always⟩,
 ⟨some 2, .assign (.tmp 16), 4, .always⟩] [2])
 (.ret))
theorem w132 {args : List PV} {σ σ' : List Frm} {r : Ret} (hr : ∀ p, r = .val p → erV p = p) (h : wpP cfg s132 (QEndP cfg [.tmp 2] σ' r) ⟨initEnv args, fun _ => [], σ, ⟨fun _ => false, 0⟩⟩) : CallsV cfg 132 args σ r σ' :=
 callsV_of_p follows cfgT a132 (fn := Tryz.f132) (c := Tryz.f132.body.getD .skip) (by kernel_rfl) (by kernel_rfl) (by kernel_rfl) (by kernel_rfl) (by kernel_rfl) (sc := s132) (by kernel_rfl) [.tmp 2] (by kernel_rfl) hr h
def a103 : List Ann := [⟨[1], [], []⟩,
 ⟨[1, 3], [], []⟩,
 ⟨[2], [], []⟩,
 ⟨[1, 36], [], []⟩,
 ⟨[2], [], []⟩,
 ⟨[1, 74], [], []⟩,
 ⟨[2], [], []⟩,
 ⟨[2], [], []⟩]
def s103 : SC := .seq (.ops [⟨some 1, .box 35 (.tmp 0), 0, .always⟩,
 ⟨some 2, .assign (.const (.bool false)), 4, .always⟩] [1])
 (.seq (.block 0
 (.seq (.ops [⟨some 4, .fieldAddr 35 (.tmp 1) 0, 0, .always⟩,
 ⟨some 5, .load 3 (.tmp 4), 3, .always⟩,
 ⟨some 6, .binOp .eql 3 (.tmp 5) (.const (.int .i64 1)) 3, 4, .always⟩,
 ⟨some 3, .assign (.tmp 6), 4, .always⟩] [1, 3])
 (.cond (.tmp 3)
 (.seq (.ops [⟨some 7, .fieldAddr 35 (.tmp 1) 3, 0, .always⟩,
 ⟨some 8, .load 33 (.tmp 7), 33, .always⟩,
 ⟨some 9, .call { callee := .builtin .len, args := #[.tmp 8], argTypes := #[33] }, 3, .always⟩,
 ⟨some 10, .binOp .eql 3 (.tmp 9) (.const (.int .i64 0)) 3, 4, .always⟩,
 ⟨some 11, .move (.tmp 10), 4, .always⟩,
 ⟨some 12, .fieldAddr 35 (.tmp 1) 1, 0, .tmp 11 true⟩,
 ⟨some 13, .load 30 (.tmp 12), 30, .tmp 11 true⟩,
 ⟨some 14, .call { callee := .value (.func 131), args := #[.tmp 13], argTypes := #[30] }, 4, .tmp 11 true⟩,
 ⟨some 15, .pick (.tmp 11) (.tmp 14) (.const (.bool false)), 4, .always⟩,
 ⟨some 16, .move (.tmp 15), 4, .always⟩,
 ⟨some 17, .fieldAddr 35 (.tmp 1) 2, 0, .tmp 16 true⟩,
 ⟨some 18, .load 32 (.tmp 17), 32, .tmp 16 true⟩,
 ⟨some 19, .call { callee := .builtin .len, args := #[.tmp 18], argTypes := #[32] }, 3, .tmp 16 true⟩,
 ⟨some 20, .binOp .eql 3 (.tmp 19) (.const (.int .i64 2)) 3, 4, .tmp 16 true⟩,
 ⟨some 21, .pick (.tmp 16) (.tmp 20) (.const (.bool false)), 4, .always⟩,
 ⟨some 22, .move (.tmp 21), 4, .always⟩,
 ⟨some 23, .fieldAddr 35 (.tmp 1) 2, 0, .tmp 22 true⟩,
 ⟨some 24, .load 32 (.tmp 23), 32, .tmp 22 true⟩,
 ⟨some 25, .indexAddr 32 (.tmp 24) (.const (.int .i64 0)), 0, .tmp 22 true⟩,
 ⟨some 26, .load 51 (.tmp 25), 51, .tmp 22 true⟩,
 ⟨some 27, .call { callee := .value (.func 106), args := #[.tmp 26], argTypes := #[51] }, 4, .tmp 22 true⟩,
 ⟨some 28, .pick (.tmp 22) (.tmp 27) (.const (.bool false)), 4, .always⟩,
 ⟨some 29, .move (.tmp 28), 4, .always⟩,
 ⟨some 30, .fieldAddr 35 (.tmp 1) 2, 0, .tmp 29 true⟩,
 ⟨some 31, .load 32 (.tmp 30), 32, .tmp 29 true⟩,
 ⟨some 32, .indexAddr 32 (.tmp 31) (.const (.int .i64 1)), 0, .tmp 29 true⟩,
 ⟨some 33, .load 51 (.tmp 32), 51, .tmp 29 true⟩,
 ⟨some 34, .call { callee := .value (.func 106), args := #[.tmp 33], argTypes := #[51] }, 4, .tmp 29 true⟩,
 ⟨some 35, .pick (.tmp 29) (.tmp 34) (.const (.bool false)), 4, .always⟩,
 ⟨some 2, .assign (.tmp 35), 4, .always⟩] [2])
 (.ret))
 (.seq (.ops [⟨some 37, .fieldAddr 35 (.tmp 1) 0, 0, .always⟩,
 ⟨some 38, .load 3 (.tmp 37), 3, .always⟩,
 ⟨some 39, .binOp .eql 3 (.tmp 38) (.const (.int .i64 2)) 3, 4, .always⟩,
 ⟨some 40, .move (.tmp 39), 4, .always⟩,
 ⟨some 41, .fieldAddr 35 (.tmp 1) 0, 0, .tmp 40 false⟩,
 ⟨some 42, .load 3 (.tmp 41), 3, .tmp 40 false⟩,
 ⟨some 43, .binOp .eql 3 (.tmp 42) (.const (.int .i64 3)) 3, 4, .tmp 40 false⟩,
 ⟨some 44, .pick (.tmp 40) (.const (.bool true)) (.tmp 43), 4, .always⟩,
 ⟨some 36, .assign (.tmp 44), 4, .always⟩] [1, 36])
 (.cond (.tmp 36)
 (.seq (.ops [⟨some 45, .fieldAddr 35 (.tmp 1) 2, 0, .always⟩,
 ⟨some 46, .load 32 (.tmp 45), 32, .always⟩,
 ⟨some 47, .call { callee := .builtin .len, args := #[.tmp 46], argTypes := #[32] }, 3, .always⟩,
 ⟨some 48, .binOp .eql 3 (.tmp 47) (.const (.int .i64 0)) 3, 4, .always⟩,
 ⟨some 49, .move (.tmp 48), 4, .always⟩,
 ⟨some 50, .fieldAddr 35 (.tmp 1) 1, 0, .tmp 49 true⟩,
 ⟨some 51, .load 30 (.tmp 50), 30, .tmp 49 true⟩,
 ⟨some 52, .call { callee := .value (.func 131), args := #[.tmp 51], argTypes := #[30] }, 4, .tmp 49 true⟩,
 ⟨some 53, .pick (.tmp 49) (.tmp 52) (.const (.bool false)), 4, .always⟩,
 ⟨some 54, .move (.tmp 53), 4, .always⟩,
 ⟨some 55, .fieldAddr 35 (.tmp 1) 3, 0, .tmp 54 true⟩,
 ⟨some 56, .load 33 (.tmp 55), 33, .tmp 54 true⟩,
 ⟨some 57, .call { callee := .builtin .len, args := #[.tmp 56], argTypes := #[33] }, 3, .tmp 54 true⟩,
 ⟨some 58, .binOp .eql 3 (.tmp 57) (.const (.int .i64 2)) 3, 4, .tmp 54 true⟩,
 ⟨some 59, .pick (.tmp 54) (.tmp 58) (.const (.bool false)), 4, .always⟩,
 ⟨some 60, .move (.tmp 59), 4, .always⟩,
 ⟨some 61, .fieldAddr 35 (.tmp 1) 3, 0, .tmp 60 true⟩,
 ⟨some 62, .load 33 (.tmp 61), 33, .tmp 60 true⟩,
 ⟨some 63, .indexAddr 33 (.tmp 62) (.const (.int .i64 0)), 0, .tmp 60 true⟩,
 ⟨some 64, .load 35 (.tmp 63), 35, .tmp 60 true⟩,
 ⟨some 65, .call { callee := .value (.func 103), args := #[.tmp 64], argTypes := #[35] }, 4, .tmp 60 true⟩,
 ⟨some 66, .pick (.tmp 60) (.tmp 65) (.const (.bool false)), 4, .always⟩,
 ⟨some 67, .move (.tmp 66), 4, .always⟩,
 ⟨some 68, .fieldAddr 35 (.tmp 1) 3, 0, .tmp 67 true⟩,
 ⟨some 69, .load 33 (.tmp 68), 33, .tmp 67 true⟩,
 ⟨some 70, .indexAddr 33 (.tmp 69) (.const (.int .i64 1)), 0, .tmp 67 true⟩,
 ⟨some 71, .load 35 (.tmp 70), 35, .tmp 67 true⟩,
 ⟨some 72, .call { callee := .value (.func 103), args := #[.tmp 71], argTypes := #[35] }, 4, .tmp 67 true⟩,
 ⟨some 73, .pick (.tmp 67) (.tmp 72) (.const (.bool false)), 4, .always⟩,
 ⟨some 2, .assign (.tmp 73), 4, .always⟩] [2])
 (.ret))
 (.seq (.ops [⟨some 75, .fieldAddr 35 (.tmp 1) 0, 0, .always⟩,
 ⟨some 76, .load 3 (.tmp 75), 3, .always⟩,
 ⟨some 77, .call { callee := .value (.func 132), args := #[.tmp 76], argTypes := #[3] }, 4, .always⟩,
 ⟨some 74, .assign (.tmp 77), 4, .always⟩] [1, 74])
 (.cond (.tmp 74)
 (.seq (.ops [⟨some 78, .fieldAddr 35 (.tmp 1) 2, 0, .always⟩,
 ⟨some 79, .load 32 (.tmp 78), 32, .always⟩,
 ⟨some 80, .call { callee := .builtin .len, args := #[.tmp 79], argTypes := #[32] }, 3, .always⟩,
 ⟨some 81, .binOp .eql 3 (.tmp 80) (.const (.int .i64 0)) 3, 4, .always⟩,
 ⟨some 82, .move (.tmp 81), 4, .always⟩,
 ⟨some 83, .fieldAddr 35 (.tmp 1) 1, 0, .tmp 82 true⟩,
 ⟨some 84, .load 30 (.tmp 83), 30, .tmp 82 true⟩,
 ⟨some 85, .call { callee := .value (.func 124), args := #[.tmp 84], argTypes := #[30] }, 43, .tmp 82 true⟩,
 ⟨some 86, .binOp .eql 43 (.tmp 85) (.const (.int .i64 0)) 43, 4, .tmp 82 true⟩,
 ⟨some 87, .pick (.tmp 82) (.tmp 86) (.const (.bool false)), 4, .always⟩,
 ⟨some 88, .move (.tmp 87), 4, .always⟩,
 ⟨some 89, .fieldAddr 35 (.tmp 1) 3, 0, .tmp 88 true⟩,
 ⟨some 90, .load 33 (.tmp 89), 33, .tmp 88 true⟩,
 ⟨some 91, .call { callee := .builtin .len, args := #[.tmp 90], argTypes := #[33] }, 3, .tmp 88 true⟩,
 ⟨some 92, .binOp .eql 3 (.tmp 91) (.const (.int .i64 1)) 3, 4, .tmp 88 true⟩,
 ⟨some 93, .pick (.tmp 88) (.tmp 92) (.const (.bool false)), 4, .always⟩,
 ⟨some 94, .move (.tmp 93), 4, .always⟩,
 ⟨some 95, .fieldAddr 35 (.tmp 1) 3, 0, .tmp 94 true⟩,
 ⟨some 96, .load 33 (.tmp 95), 33, .tmp 94 true⟩,
 ⟨some 97, .indexAddr 33 (.tmp 96) (.const (.int .i64 0)), 0, .tmp 94 true⟩,
 ⟨some 98, .load 35 (.tmp 97), 35, .tmp 94 true⟩,
 ⟨some 99, .call { callee := .value (.func 103), args := #[.tmp 98], argTypes := #[35] }, 4, .tmp 94 true⟩,
 ⟨some 100, .pick (.tmp 94) (.tmp 99) (.const (.bool false)), 4, .always⟩,
 ⟨some 2, .assign (.tmp 100), 4, .always⟩] [2])
 (.ret))
 (.skip))))))))
 (.seq (.ops [⟨some 2, .assign (.const (.bool false)), 4, .always⟩] [2])
 (.ret)))
theorem w103 {args : List PV} {σ σ' : List Frm} {r : Ret} (hr : ∀ p, r = .val p → erV p = p) (h : wpP cfg s103 (QEndP cfg [.tmp 2] σ' r) ⟨initEnv args, fun _ => [], σ, ⟨fun _ => false, 0⟩⟩) : CallsV cfg 103 args σ r σ' :=
 callsV_of_p follows cfgT a103 (fn := Tryz.f103) (c := Tryz.f103.body.getD .skip) (by kernel_rfl) (by kernel_rfl) (by kernel_rfl) (by kernel_rfl) (by kernel_rfl) (sc := s103) (by kernel_rfl) [.tmp 2] (by kernel_rfl) hr h
def a60 : List Ann := [⟨[1], [], []⟩,
 ⟨[1, 5], [], []⟩,
 ⟨[2], [], []⟩,
 ⟨[8], [], []⟩,
 ⟨[2], [], []⟩,
 ⟨[2], [], []⟩]
def s60 : SC := .seq (.ops [⟨some 1, .box 35 (.tmp 0), 0, .always⟩,
 ⟨some 2, .assign (.const (.int .i64 0)), 43, .always⟩] [1])
 (.seq (.seq (.ops [⟨some 3, .load 35 (.tmp 1), 35, .always⟩,
 ⟨some 4, .call { callee := .value (.func 103), args := #[.tmp 3], argTypes := #[35] }, 4, .always⟩,
 ⟨some 5, .unOp .not 4 (.tmp 4), 4, .always⟩] [1, 5])
 (.cond (.tmp 5)
 (.seq (.ops [⟨some 2, .assign (.const (.int .i64 2)), 43, .always⟩] [2])
 (.ret))
 (.skip)))
 (.seq (.seq (.ops [⟨some 6, .load 35 (.tmp 1), 35, .always⟩,
 ⟨some 7, .call { callee := .value (.func 65), args := #[.tmp 6], argTypes := #[35] }, 3, .always⟩,
 ⟨some 8, .binOp .gtr 3 (.tmp 7) (.const (.int .i64 4096)) 3, 4, .always⟩] [8])
 (.cond (.tmp 8)
 (.seq (.ops [⟨some 2, .assign (.const (.int .i64 4)), 43, .always⟩] [2])
 (.ret))
 (.skip)))
 (.seq (.ops [⟨some 2, .assign (.const (.int .i64 0)), 43, .always⟩] [2])
 (.ret))))
theorem w60 {args : List PV} {σ σ' : List Frm} {r : Ret} (hr : ∀ p, r = .val p → erV p = p) (h : wpP cfg s60 (QEndP cfg [.tmp 2] σ' r) ⟨initEnv args, fun _ => [], σ, ⟨fun _ => false, 0⟩⟩) : CallsV cfg 60 args σ r σ' :=
 callsV_of_p follows cfgT a60 (fn := Tryz.f60) (c := Tryz.f60.body.getD .skip) (by kernel_rfl) (by kernel_rfl) (by kernel_rfl) (by kernel_rfl) (by kernel_rfl) (sc := s60) (by kernel_rfl) [.tmp 2] (by kernel_rfl) hr h
def a64 : List Ann := [⟨[1, 2], [], []⟩,
 ⟨[1, 2, 10], [], []⟩,
 ⟨[4], [], []⟩,
 ⟨[1, 12, 13, 14], [], []⟩,
 ⟨[1, 12, 13, 14, 15], [], []⟩,
 ⟨[1, 6, 12, 13, 14], [], []⟩,
 ⟨[1, 12, 13, 14, 21], [], []⟩,
 ⟨[4], [], []⟩,
 ⟨[1, 12, 13, 14], [], []⟩,
 ⟨[4], [], []⟩]
def s64 : SC := .seq (.ops [⟨some 2, .box 51 (.tmp 0), 0, .always⟩,
 ⟨some 4, .assign (.const (.bool false)), 4, .always⟩] [1, 2])
 (.seq (.seq (.ops [⟨some 7, .fieldAddr 51 (.tmp 2) 1, 0, .always⟩,
 ⟨some 8, .load 3 (.tmp 7), 3, .always⟩,
 ⟨some 9, .move (.tmp 1), 3, .always⟩,
 ⟨some 10, .binOp .gtr 3 (.tmp 8) (.tmp 9) 3, 4, .always⟩] [1, 2, 10])
 (.cond (.tmp 10)
 (.seq (.ops [⟨some 4, .assign (.const (.bool false)), 4, .always⟩] [4])
 (.ret))
 (.skip)))
 (.seq (.seq (.ops [⟨some 11, .fieldAddr 51 (.tmp 2) 3, 0, .always⟩,
 ⟨some 12, .load 32 (.tmp 11), 32, .always⟩,
 ⟨some 13, .call { callee := .builtin .len, args := #[.tmp 12], argTypes := #[32] }, 3, .always⟩,
 ⟨some 14, .move (.const (.int .i64 0)), 3, .always⟩] [1, 12, 13, 14])
 (.block 0
 (.loop
 (.seq (.ops [⟨some 15, .binOp .lss 3 (.tmp 14) (.tmp 13) 3, 0, .always⟩] [1, 12, 13, 14, 15])
 (.seq (.cond (.tmp 15)
 (.skip)
 (.exit 0))
 (.seq (.block 1
 (.seq (.ops [⟨some 16, .indexAddr 32 (.tmp 12) (.tmp 14), 0, .always⟩,
 ⟨some 17, .load 51 (.tmp 16), 51, .always⟩,
 ⟨some 6, .alloc 51, 0, .always⟩,
 ⟨none, .store 51 (.tmp 6) (.tmp 17), 0, .always⟩] [1, 6, 12, 13, 14])
 (.seq (.ops [⟨some 18, .load 51 (.tmp 6), 51, .always⟩,
 ⟨some 19, .move (.tmp 1), 3, .always⟩,
 ⟨some 20, .call { callee := .value (.func 64), args := #[.tmp 18, .tmp 19], argTypes := #[51, 3] }, 4, .always⟩,
 ⟨some 21, .unOp .not 4 (.tmp 20), 4, .always⟩] [1, 12, 13, 14, 21])
 (.cond (.tmp 21)
 (.seq (.ops [⟨some 4, .assign (.const (.bool false)), 4, .always⟩] [4])
 (.ret))
 (.skip)))))
 (.ops [⟨some 22, .binOp .add 3 (.tmp 14) (.const (.int .i64 1)) 3, 3, .always⟩,
 ⟨some 14, .move (.tmp 22), 3, .always⟩] [1, 12, 13, 14])))))))
 (.seq (.ops [⟨some 4, .assign (.const (.bool true)), 4, .always⟩] [4])
 (.ret))))
theorem w64 {args : List PV} {σ σ' : List Frm} {r : Ret} (hr : ∀ p, r = .val p → erV p = p) (h : wpP cfg s64 (QEndP cfg [.tmp 4] σ' r) ⟨initEnv args, fun _ => [], σ, ⟨fun _ => false, 0⟩⟩) : CallsV cfg 64 args σ r σ' :=
 callsV_of_p follows cfgT a64 (fn := Tryz.f64) (c := Tryz.f64.body.getD .skip) (by kernel_rfl) (by kernel_rfl) (by kernel_rfl) (by kernel_rfl) (by kernel_rfl) (sc := s64) (by kernel_rfl) [.tmp 4] (by kernel_rfl) hr h
def a133 : List Ann := [⟨[1], [], []⟩,
 ⟨[5], [], []⟩,
 ⟨[2], [], []⟩,
 ⟨[2], [], []⟩]
def s133 : SC := .seq (.ops [⟨some 1, .box 51 (.tmp 0), 0, .always⟩,
 ⟨some 2, .assign (.const (.int .i64 0)), 3, .always⟩] [1])
 (.seq (.seq (.ops [⟨some 3, .fieldAddr 51 (.tmp 1) 0, 0, .always⟩,
 ⟨some 4, .load 3 (.tmp 3), 3, .always⟩,
 ⟨some 5, .binOp .eql 3 (.tmp 4) (.const (.int .i64 2)) 3, 4, .always⟩] [5])
 (.cond (.tmp 5)
 (.seq (.ops [⟨some 2, .assign (.const (.int .i64 1)), 3, .always⟩] [2])
 (.ret))
 (.skip)))
 (.seq (.ops [⟨some 2, .assign (.const (.int .i64 0)), 3, .always⟩] [2])
 (.ret)))
theorem w133 {args : List PV} {σ σ' : List Frm} {r : Ret} (hr : ∀ p, r = .val p → erV p = p) (h : wpP cfg s133 (QEndP cfg [.tmp 2] σ' r) ⟨initEnv args, fun _ => [], σ, ⟨fun _ => false, 0⟩⟩) : CallsV cfg 133 args σ r σ' :=
 callsV_of_p follows cfgT a133 (fn := Tryz.f133) (c := Tryz.f133.body.getD .skip) (by kernel_rfl) (by kernel_rfl) (by kernel_rfl) (by kernel_rfl) (by kernel_rfl) (sc := s133) (by kernel_rfl) [.tmp 2] (by kernel_rfl) hr h
def a104 : List Ann := [⟨[1, 2, 3, 6], [], []⟩,
 ⟨[1, 2, 3, 6, 7], [], []⟩,
 ⟨[1, 2, 3, 6, 7, 25], [], []⟩,
 ⟨[1, 2, 3, 6, 7], [], []⟩,
 ⟨[1, 2, 3, 6, 7, 32, 33, 34], [], []⟩,
 ⟨[1, 2, 3, 6, 7, 32, 33, 34, 35], [], []⟩,
 ⟨[1, 2, 3, 6, 7, 9, 32, 33, 34], [], []⟩,
 ⟨[1, 2, 3, 6, 7, 32, 33, 34], [0, 1, 0, 0, 0, 16, 56, 0, 252, 508, 1023, 2047, 4095], [false, true, true, false, false, true, false, false, true, false, false, false, false]⟩,
 ⟨[1, 2, 3, 6, 7, 32, 33, 34], [], []⟩,
 ⟨[6], [], []⟩]
def s104 : SC := .seq (.ops [⟨some 3, .box 51 (.tmp 0), 0, .always⟩,
 ⟨some 6, .alloc 51, 0, .always⟩] [1, 2, 3, 6])
 (.seq (.ops [⟨some 10, .fieldAddr 51 (.tmp 3) 0, 0, .always⟩,
 ⟨some 11, .load 3 (.tmp 10), 3, .always⟩,
 ⟨some 12, .fieldAddr 51 (.tmp 3) 1, 0, .always⟩,
 ⟨some 13, .load 3 (.tmp 12), 3, .always⟩,
 ⟨some 14, .fieldAddr 51 (.tmp 3) 2, 0, .always⟩,
 ⟨some 15, .load 30 (.tmp 14), 30, .always⟩,
 ⟨some 16, .build 51 #[(0, .tmp 11), (1, .tmp 13), (2, .tmp 15)], 51, .always⟩,
 ⟨some 7, .alloc 51, 0, .always⟩,
 ⟨none, .store 51 (.tmp 7) (.tmp 16), 0, .always⟩] [1, 2, 3, 6, 7])
 (.seq (.seq (.ops [⟨some 17, .fieldAddr 51 (.tmp 3) 0, 0, .always⟩,
 ⟨some 18, .load 3 (.tmp 17), 3, .always⟩,
 ⟨some 19, .binOp .eql 3 (.tmp 18) (.const (.int .i64 1)) 3, 4, .always⟩,
 ⟨some 20, .move (.tmp 19), 4, .always⟩,
 ⟨some 21, .fieldAddr 51 (.tmp 3) 1, 0, .tmp 20 true⟩,
 ⟨some 22, .load 3 (.tmp 21), 3, .tmp 20 true⟩,
 ⟨some 23, .move (.tmp 1), 3, .tmp 20 true⟩,
 ⟨some 24, .binOp .geq 3 (.tmp 22) (.tmp 23) 3, 4, .tmp 20 true⟩,
 ⟨some 25, .pick (.tmp 20) (.tmp 24) (.const (.bool false)), 4, .always⟩] [1, 2, 3, 6, 7, 25])
 (.cond (.tmp 25)
 (.ops [⟨some 26, .fieldAddr 51 (.tmp 7) 1, 0, .always⟩,
 ⟨some 27, .load 3 (.tmp 26), 3, .always⟩,
 ⟨some 28, .move (.tmp 2), 3, .always⟩,
 ⟨some 29, .binOp .add 3 (.tmp 27) (.tmp 28) 3, 3, .always⟩,
 ⟨some 30, .fieldAddr 51 (.tmp 7) 1, 0, .always⟩,
 ⟨none, .store 3 (.tmp 30) (.tmp 29), 0, .always⟩] [1, 2, 3, 6, 7])
 (.skip)))
 (.seq (.seq (.ops [⟨some 31, .fieldAddr 51 (.tmp 3) 3, 0, .always⟩,
 ⟨some 32, .load 32 (.tmp 31), 32, .always⟩,
 ⟨some 33, .call { callee := .builtin .len, args := #[.tmp 32], argTypes := #[32] }, 3, .always⟩,
 ⟨some 34, .move (.const (.int .i64 0)), 3, .always⟩] [1, 2, 3, 6, 7, 32, 33, 34])
 (.block 0
 (.loop
 (.seq (.ops [⟨some 35, .binOp .lss 3 (.tmp 34) (.tmp 33) 3, 0, .always⟩] [1, 2, 3, 6, 7, 32, 33, 34, 35])
 (.seq (.cond (.tmp 35)
 (.skip)
 (.exit 0))
 (.seq (.block 1
 (.seq (.ops [⟨some 36, .indexAddr 32 (.tmp 32) (.tmp 34), 0, .always⟩,
 ⟨some 37, .load 51 (.tmp 36), 51, .always⟩,
 ⟨some 9, .alloc 51, 0, .always⟩,
 ⟨none, .store 51 (.tmp 9) (.tmp 37), 0, .always⟩] [1, 2, 3, 6, 7, 9, 32, 33, 34])
 (.draw [⟨some 38, .fieldAddr 51 (.tmp 7) 3, 0, .always⟩,
 ⟨some 39, .load 32 (.tmp 38), 32, .always⟩,
 ⟨some 40, .load 51 (.tmp 9), 51, .always⟩,
 ⟨some 41, .move (.tmp 1), 3, .always⟩,
 ⟨some 42, .load 51 (.tmp 3), 51, .always⟩,
 ⟨some 43, .call { callee := .value (.func 133), args := #[.tmp 42], argTypes := #[51] }, 3, .always⟩,
 ⟨some 44, .binOp .add 3 (.tmp 41) (.tmp 43) 3, 3, .always⟩,
 ⟨some 45, .move (.tmp 2), 3, .always⟩,
 ⟨some 46, .call { callee := .value (.func 104), args := #[.tmp 40, .tmp 44, .tmp 45], argTypes := #[51, 3, 3] }, 51, .always⟩,
 ⟨some 47, .buildSlice 32 1 #[(0, .tmp 46)], 32, .always⟩,
 ⟨some 48, .call { callee := .builtin .append, args := #[.tmp 39, .tmp 47], argTypes := #[32, 32] }, 32, .always⟩,
 ⟨some 49, .fieldAddr 51 (.tmp 7) 3, 0, .always⟩,
 ⟨none, .store 32 (.tmp 49) (.tmp 48), 0, .always⟩] [false, true, true, false, false, true, false, false, true, false, false, false, false] [1, 2, 3, 6, 7, 32, 33, 34])))
 (.ops [⟨some 50, .binOp .add 3 (.tmp 34) (.const (.int .i64 1)) 3, 3, .always⟩,
 ⟨some 34, .move (.tmp 50), 3, .always⟩] [1, 2, 3, 6, 7, 32, 33, 34])))))))
 (.seq (.ops [⟨some 51, .load 51 (.tmp 7), 51, .always⟩,
 ⟨none, .store 51 (.tmp 6) (.tmp 51), 0, .always⟩] [6])
 (.ret)))))
theorem w104 {args : List PV} {σ σ' : List Frm} {r : Ret} (hr : ∀ p, r = .val p → erV p = p) (h : wpP cfg s104 (QEndP cfg [.cell 6 51] σ' r) ⟨initEnv args, fun _ => [], σ, ⟨fun _ => false, 0⟩⟩) : CallsV cfg 104 args σ r σ' :=
 callsV_of_p follows cfgT a104 (fn := Tryz.f104) (c := Tryz.f104.body.getD .skip) (by kernel_rfl) (by kernel_rfl) (by kernel_rfl) (by kernel_rfl) (by kernel_rfl) (sc := s104) (by kernel_rfl) [.cell 6 51] (by kernel_rfl) hr h
def a95 : List Ann := [⟨[1, 2, 3, 6], [], []⟩,
 ⟨[1, 2, 3, 6, 8], [], []⟩,
 ⟨[1, 2, 3, 6, 8, 12], [], []⟩,
 ⟨[6, 7], [], []⟩,
 ⟨[1, 2, 3, 6, 33], [], []⟩,
 ⟨[6, 7], [], []⟩,
 ⟨[6, 7], [], []⟩]
def s95 : SC := .seq (.ops [⟨some 3, .box 51 (.tmp 0), 0, .always⟩,
 ⟨some 6, .alloc 51, 0, .always⟩,
 ⟨some 7, .assign (.const (.int .i64 0)), 43, .always⟩] [1, 2, 3, 6])
 (.seq (.seq (.ops [⟨some 9, .load 51 (.tmp 3), 51, .always⟩,
 ⟨some 10, .call { callee := .value (.func 63), args := #[.tmp 9], argTypes := #[51] }, 43, .always⟩,
 ⟨some 8, .assign (.tmp 10), 43, .always⟩] [1, 2, 3, 6, 8])
 (.seq (.ops [⟨some 11, .move (.tmp 8), 43, .always⟩,
 ⟨some 12, .binOp .neq 43 (.tmp 11) (.const (.int .i64 0)) 43, 4, .always⟩] [1, 2, 3, 6, 8, 12])
 (.cond (.tmp 12)
 (.seq (.ops [⟨some 13, .build 51 #[], 51, .always⟩,
 ⟨some 14, .move (.tmp 8), 43, .always⟩,
 ⟨none, .store 51 (.tmp 6) (.tmp 13), 0, .always⟩,
 ⟨some 7, .assign (.tmp 14), 43, .always⟩] [6, 7])
 (.ret))
 (.skip))))
 (.seq (.seq (.ops [⟨some 15, .move (.tmp 1), 3, .always⟩,
 ⟨some 16, .binOp .lss 3 (.tmp 15) (.const (.int .i64 0)) 3, 4, .always⟩,
 ⟨some 17, .move (.tmp 16), 4, .always⟩,
 ⟨some 18, .move (.tmp 1), 3, .tmp 17 false⟩,
 ⟨some 19, .binOp .gtr 3 (.tmp 18) (.const (.int .i64 4096)) 3, 4, .tmp 17 false⟩,
 ⟨some 20, .pick (.tmp 17) (.const (.bool true)) (.tmp 19), 4, .always⟩,
 ⟨some 21, .move (.tmp 20), 4, .always⟩,
 ⟨some 22, .move (.tmp 2), 3, .tmp 21 false⟩,
 ⟨some 23, .binOp .lss 3 (.tmp 22) (.const (.int .i64 0)) 3, 4, .tmp 21 false⟩,
 ⟨some 24, .pick (.tmp 21) (.const (.bool true)) (.tmp 23), 4, .always⟩,
 ⟨some 25, .move (.tmp 24), 4, .always⟩,
 ⟨some 26, .move (.tmp 2), 3, .tmp 25 false⟩,
 ⟨some 27, .binOp .gtr 3 (.tmp 26) (.const (.int .i64 4096)) 3, 4, .tmp 25 false⟩,
 ⟨some 28, .pick (.tmp 25) (.const (.bool true)) (.tmp 27), 4, .always⟩,
 ⟨some 29, .move (.tmp 28), 4, .always⟩,
 ⟨some 30, .load 51 (.tmp 3), 51, .tmp 29 false⟩,
 ⟨some 31, .call { callee := .value (.func 64), args := #[.tmp 30, .const (.int .i64 536870912)], argTypes := #[51, 3] }, 4, .tmp 29 false⟩,
 ⟨some 32, .unOp .not 4 (.tmp 31), 4, .tmp 29 false⟩,
 ⟨some 33, .pick (.tmp 29) (.const (.bool true)) (.tmp 32), 4, .always⟩] [1, 2, 3, 6, 33])
 (.cond (.tmp 33)
 (.seq (.ops [⟨some 34, .build 51 #[], 51, .always⟩,
 ⟨none, .store 51 (.tmp 6) (.tmp 34), 0, .always⟩,
 ⟨some 7, .assign (.const (.int .i64 1)), 43, .always⟩] [6, 7])
 (.ret))
 (.skip)))
 (.seq (.ops [⟨some 35, .load 51 (.tmp 3), 51, .always⟩,
 ⟨some 36, .move (.tmp 1), 3, .always⟩,
 ⟨some 37, .move (.tmp 2), 3, .always⟩,
 ⟨some 38, .call { callee := .value (.func 104), args := #[.tmp 35, .tmp 36, .tmp 37], argTypes := #[51, 3, 3] }, 51, .always⟩,
 ⟨some 39, .call { callee := .value (.func 99), args := #[.tmp 38], argTypes := #[51] }, 51, .always⟩,
 ⟨none, .store 51 (.tmp 6) (.tmp 39), 0, .always⟩,
 ⟨some 7, .assign (.const (.int .i64 0)), 43, .always⟩] [6, 7])
 (.ret))))
theorem w95 {args : List PV} {σ σ' : List Frm} {r : Ret} (hr : ∀ p, r = .val p → erV p = p) (h : wpP cfg s95 (QEndP cfg [.cell 6 51, .tmp 7] σ' r) ⟨initEnv args, fun _ => [], σ, ⟨fun _ => false, 0⟩⟩) : CallsV cfg 95 args σ r σ' :=
 callsV_of_p follows cfgT a95 (fn := Tryz.f95) (c := Tryz.f95.body.getD .skip) (by kernel_rfl) (by kernel_rfl) (by kernel_rfl) (by kernel_rfl) (by kernel_rfl) (sc := s95) (by kernel_rfl) [.cell 6 51, .tmp 7] (by kernel_rfl) hr h
def a42 : List Ann := [⟨[0, 4, 5, 6], [], []⟩,
 ⟨[0, 5, 6, 8, 9], [], []⟩,
 ⟨[0, 5, 6, 8, 9, 19], [], []⟩,
 ⟨[6, 7], [], []⟩,
 ⟨[0, 5, 6, 8, 10], [], []⟩,
 ⟨[0, 5, 6, 8, 10, 25], [], []⟩,
 ⟨[6, 7], [], []⟩,
 ⟨[0, 5, 6, 9, 11], [0, 0, 3, 7, 15, 15, 0, 95, 255], [true, true, true, false, false, false, true, false, false]⟩,
 ⟨[0, 5, 6, 9, 11, 35], [], []⟩,
 ⟨[6, 7], [], []⟩,
 ⟨[0, 5, 6, 11, 12], [0, 0, 0, 7, 15, 0, 63], [true, true, true, true, true, true, false]⟩,
 ⟨[5, 6, 11, 12, 43], [], []⟩,
 ⟨[6, 12], [0, 0, 0, 7, 15, 31], [true, true, true, false, false, false]⟩,
 ⟨[6, 12, 51], [], []⟩,
 ⟨[6, 7], [], []⟩,
 ⟨[6, 7], [], []⟩]
def s42 : SC := .seq (.ops [⟨some 4, .box 51 (.tmp 1), 0, .always⟩,
 ⟨some 5, .box 35 (.tmp 2), 0, .always⟩,
 ⟨some 6, .alloc 35, 0, .always⟩,
 ⟨some 7, .assign (.const (.int .i64 0)), 43, .always⟩] [0, 4, 5, 6])
 (.seq (.ops [⟨some 14, .load 51 (.tmp 4), 51, .always⟩,
 ⟨some 15, .call { callee := .value (.func 95), args := #[.tmp 14, .const (.int .i64 0), .const (.int .i64 1)], argTypes := #[51, 3, 3] }, 95, .always⟩,
 ⟨some 13, .move (.tmp 15), 95, .always⟩,
 ⟨some 16, .extract (.tmp 13) 0, 51, .always⟩,
 ⟨some 17, .extract (.tmp 13) 1, 43, .always⟩,
 ⟨some 8, .alloc 51, 0, .always⟩,
 ⟨none, .store 51 (.tmp 8) (.tmp 16), 0, .always⟩,
 ⟨some 9, .assign (.tmp 17), 43, .always⟩] [0, 5, 6, 8, 9])
 (.seq (.seq (.ops [⟨some 18, .move (.tmp 9), 43, .always⟩,
 ⟨some 19, .binOp .neq 43 (.tmp 18) (.const (.int .i64 0)) 43, 4, .always⟩] [0, 5, 6, 8, 9, 19])
 (.cond (.tmp 19)
 (.seq (.ops [⟨some 20, .build 35 #[], 35, .always⟩,
 ⟨some 21, .move (.tmp 9), 43, .always⟩,
 ⟨none, .store 35 (.tmp 6) (.tmp 20), 0, .always⟩,
 ⟨some 7, .assign (.tmp 21), 43, .always⟩] [6, 7])
 (.ret))
 (.skip)))
 (.seq (.seq (.ops [⟨some 22, .load 35 (.tmp 5), 35, .always⟩,
 ⟨some 23, .call { callee := .value (.func 60), args := #[.tmp 22], argTypes := #[35] }, 43, .always⟩,
 ⟨some 10, .assign (.tmp 23), 43, .always⟩] [0, 5, 6, 8, 10])
 (.seq (.ops [⟨some 24, .move (.tmp 10), 43, .always⟩,
 ⟨some 25, .binOp .neq 43 (.tmp 24) (.const (.int .i64 0)) 43, 4, .always⟩] [0, 5, 6, 8, 10, 25])
 (.cond (.tmp 25)
 (.seq (.ops [⟨some 26, .build 35 #[], 35, .always⟩,
 ⟨some 27, .move (.tmp 10), 43, .always⟩,
 ⟨none, .store 35 (.tmp 6) (.tmp 26), 0, .always⟩,
 ⟨some 7, .assign (.tmp 27), 43, .always⟩] [6, 7])
 (.ret))
 (.skip))))
 (.seq (.draw [⟨some 29, .call { callee := .value (.func 46), args := #[.const (.int .i64 0)], argTypes := #[3] }, 51, .always⟩,
 ⟨some 30, .load 51 (.tmp 8), 51, .always⟩,
 ⟨some 31, .call { callee := .value (.func 44), args := #[.tmp 29, .tmp 30], argTypes := #[51, 51] }, 47, .always⟩,
 ⟨some 28, .move (.tmp 31), 47, .always⟩,
 ⟨some 32, .extract (.tmp 28) 0, 35, .always⟩,
 ⟨some 33, .extract (.tmp 28) 1, 43, .always⟩,
 ⟨some 11, .alloc 35, 0, .always⟩,
 ⟨none, .store 35 (.tmp 11) (.tmp 32), 0, .always⟩,
 ⟨some 9, .assign (.tmp 33), 43, .always⟩] [true, true, true, false, false, false, true, false, false] [0, 5, 6, 9, 11])
 (.seq (.seq (.ops [⟨some 34, .move (.tmp 9), 43, .always⟩,
 ⟨some 35, .binOp .neq 43 (.tmp 34) (.const (.int .i64 0)) 43, 4, .always⟩] [0, 5, 6, 9, 11, 35])
 (.cond (.tmp 35)
 (.seq (.ops [⟨some 36, .build 35 #[], 35, .always⟩,
 ⟨some 37, .move (.tmp 9), 43, .always⟩,
 ⟨none, .store 35 (.tmp 6) (.tmp 36), 0, .always⟩,
 ⟨some 7, .assign (.tmp 37), 43, .always⟩] [6, 7])
 (.ret))
 (.skip)))
 (.seq (.draw [⟨some 38, .call { callee := .value (.func 27), args := #[], argTypes := #[] }, 30, .always⟩,
 ⟨some 39, .load 35 (.tmp 11), 35, .always⟩,
 ⟨some 40, .load 35 (.tmp 5), 35, .always⟩,
 ⟨some 41, .call { callee := .value (.func 19), args := #[.const (.int .i64 2), .tmp 39, .tmp 40], argTypes := #[3, 35, 35] }, 35, .always⟩,
 ⟨some 42, .call { callee := .value (.func 13), args := #[.const (.int .i64 5), .tmp 38, .tmp 41], argTypes := #[3, 30, 35] }, 35, .always⟩,
 ⟨some 12, .alloc 35, 0, .always⟩,
 ⟨none, .store 35 (.tmp 12) (.tmp 42), 0, .always⟩] [true, true, true, true, true, true, false] [0, 5, 6, 11, 12])
 (.seq (.seq (.ops [⟨some 43, .move (.tmp 0), 4, .always⟩] [5, 6, 11, 12, 43])
 (.cond (.tmp 43)
 (.draw [⟨some 44, .call { callee := .value (.func 27), args := #[], argTypes := #[] }, 30, .always⟩,
 ⟨some 45, .load 35 (.tmp 11), 35, .always⟩,
 ⟨some 46, .load 35 (.tmp 5), 35, .always⟩,
 ⟨some 47, .call { callee := .value (.func 19), args := #[.const (.int .i64 3), .tmp 45, .tmp 46], argTypes := #[3, 35, 35] }, 35, .always⟩,
 ⟨some 48, .call { callee := .value (.func 13), args := #[.const (.int .i64 4), .tmp 44, .tmp 47], argTypes := #[3, 30, 35] }, 35, .always⟩,
 ⟨none, .store 35 (.tmp 12) (.tmp 48), 0, .always⟩] [true, true, true, false, false, false] [6, 12])
 (.skip)))
 (.seq (.seq (.ops [⟨some 49, .load 35 (.tmp 12), 35, .always⟩,
 ⟨some 50, .call { callee := .value (.func 65), args := #[.tmp 49], argTypes := #[35] }, 3, .always⟩,
 ⟨some 51, .binOp .gtr 3 (.tmp 50) (.const (.int .i64 4096)) 3, 4, .always⟩] [6, 12, 51])
 (.cond (.tmp 51)
 (.seq (.ops [⟨some 52, .build 35 #[], 35, .always⟩,
 ⟨none, .store 35 (.tmp 6) (.tmp 52), 0, .always⟩,
 ⟨some 7, .assign (.const (.int .i64 4)), 43, .always⟩] [6, 7])
 (.ret))
 (.skip)))
 (.seq (.ops [⟨some 53, .load 35 (.tmp 12), 35, .always⟩,
 ⟨none, .store 35 (.tmp 6) (.tmp 53), 0, .always⟩,
 ⟨some 7, .assign (.const (.int .i64 0)), 43, .always⟩] [6, 7])
 (.ret))))))))))
theorem w42 {args : List PV} {σ σ' : List Frm} {r : Ret} (hr : ∀ p, r = .val p → erV p = p) (h : wpP cfg s42 (QEndP cfg [.cell 6 35, .tmp 7] σ' r) ⟨initEnv args, fun _ => [], σ, ⟨fun _ => false, 0⟩⟩) : CallsV cfg 42 args σ r σ' :=
 callsV_of_p follows cfgT a42 (fn := Tryz.f42) (c := Tryz.f42.body.getD .skip) (by kernel_rfl) (by kernel_rfl) (by kernel_rfl) (by kernel_rfl) (by kernel_rfl) (sc := s42) (by kernel_rfl) [.cell 6 35, .tmp 7] (by kernel_rfl) hr h
def a12 : List Ann := [⟨[0, 1, 2, 6], [], []⟩,
 ⟨[0, 1, 2, 6, 7], [], []⟩,
 ⟨[0, 1, 2, 6, 7, 12], [], []⟩,
 ⟨[0, 1, 2, 6, 7, 14], [], []⟩,
 ⟨[0, 1, 2, 6, 7, 14, 15], [], []⟩,
 ⟨[6], [], []⟩,
 ⟨[0, 1, 2, 6, 7, 14, 28], [], []⟩,
 ⟨[6], [], []⟩,
 ⟨[0, 1, 2, 6, 7, 14, 41], [], []⟩,
 ⟨[0, 1, 2, 6, 7, 41], [], []⟩,
 ⟨[0, 1, 6, 7, 8, 9], [0, 1, 3, 0, 0, 0, 59, 0, 0, 0, 512, 1915, 0, 4096, 16379, 32767, 65535, 131071, 131071, 0, 786431, 2097151], [false, true, false, false, false, true, true, false, false, true, false, true, false, false, true, true, false, false, false, true, false, false]⟩,
 ⟨[0, 1, 6, 7, 8, 64], [], []⟩,
 ⟨[6], [], []⟩,
 ⟨[6], [0, 0, 0, 7, 0, 0, 0, 127, 255, 511], [false, false, false, true, false, false, true, false, false, false]⟩]
def s12 : SC := .seq (.ops [⟨some 6, .alloc 35, 0, .always⟩] [0, 1, 2, 6])
 (.seq (.ops [⟨some 10, .call { callee := .value (.func 27), args := #[], argTypes := #[] }, 30, .always⟩,
 ⟨some 7, .alloc 30, 0, .always⟩,
 ⟨none, .store 30 (.tmp 7) (.tmp 10), 0, .always⟩] [0, 1, 2, 6, 7])
 (.seq (.seq (.ops [⟨some 11, .move (.tmp 2), 3, .always⟩,
 ⟨some 12, .binOp .gtr 3 (.tmp 11) (.const (.int .i64 0)) 3, 4, .always⟩] [0, 1, 2, 6, 7, 12])
 (.cond (.tmp 12)
 (.seq (.ops [⟨some 13, .move (.tmp 0), 25, .always⟩,
 ⟨some 14, .call { callee := .value (.func 28), args := #[.tmp 13, .const (.int .i64 6)], argTypes := #[25, 3] }, 3, .always⟩] [0, 1, 2, 6, 7, 14])
 (.block 0
 (.seq (.ops [⟨some 16, .binOp .eql 3 (.tmp 14) (.const (.int .i64 0)) 3, 4, .always⟩,
 ⟨some 15, .assign (.tmp 16), 4, .always⟩] [0, 1, 2, 6, 7, 14, 15])
 (.cond (.tmp 15)
 (.seq (.ops [⟨some 17, .move (.tmp 0), 25, .always⟩,
 ⟨some 18, .move (.tmp 1), 27, .always⟩,
 ⟨some 19, .move (.tmp 2), 3, .always⟩,
 ⟨some 20, .binOp .sub 3 (.tmp 19) (.const (.int .i64 1)) 3, 3, .always⟩,
 ⟨some 21, .call { callee := .value (.func 12), args := #[.tmp 17, .tmp 18, .tmp 20], argTypes := #[25, 27, 3] }, 35, .always⟩,
 ⟨some 22, .move (.tmp 0), 25, .always⟩,
 ⟨some 23, .move (.tmp 1), 27, .always⟩,
 ⟨some 24, .move (.tmp 2), 3, .always⟩,
 ⟨some 25, .binOp .sub 3 (.tmp 24) (.const (.int .i64 1)) 3, 3, .always⟩,
 ⟨some 26, .call { callee := .value (.func 12), args := #[.tmp 22, .tmp 23, .tmp 25], argTypes := #[25, 27, 3] }, 35, .always⟩,
 ⟨some 27, .call { callee := .value (.func 19), args := #[.const (.int .i64 2), .tmp 21, .tmp 26], argTypes := #[3, 35, 35] }, 35, .always⟩,
 ⟨none, .store 35 (.tmp 6) (.tmp 27), 0, .always⟩] [6])
 (.ret))
 (.seq (.ops [⟨some 29, .binOp .eql 3 (.tmp 14) (.const (.int .i64 1)) 3, 4, .always⟩,
 ⟨some 28, .assign (.tmp 29), 4, .always⟩] [0, 1, 2, 6, 7, 14, 28])
 (.cond (.tmp 28)
 (.seq (.ops [⟨some 30, .move (.tmp 0), 25, .always⟩,
 ⟨some 31, .move (.tmp 1), 27, .always⟩,
 ⟨some 32, .move (.tmp 2), 3, .always⟩,
 ⟨some 33, .binOp .sub 3 (.tmp 32) (.const (.int .i64 1)) 3, 3, .always⟩,
 ⟨some 34, .call { callee := .value (.func 12), args := #[.tmp 30, .tmp 31, .tmp 33], argTypes := #[25, 27, 3] }, 35, .always⟩,
 ⟨some 35, .move (.tmp 0), 25, .always⟩,
 ⟨some 36, .move (.tmp 1), 27, .always⟩,
 ⟨some 37, .move (.tmp 2), 3, .always⟩,
 ⟨some 38, .binOp .sub 3 (.tmp 37) (.const (.int .i64 1)) 3, 3, .always⟩,
 ⟨some 39, .call { callee := .value (.func 12), args := #[.tmp 35, .tmp 36, .tmp 38], argTypes := #[25, 27, 3] }, 35, .always⟩,
 ⟨some 40, .call { callee := .value (.func 19), args := #[.const (.int .i64 3), .tmp 34, .tmp 39], argTypes := #[3, 35, 35] }, 35, .always⟩,
 ⟨none, .store 35 (.tmp 6) (.tmp 40), 0, .always⟩] [6])
 (.ret))
 (.seq (.seq (.ops [⟨some 42, .binOp .eql 3 (.tmp 14) (.const (.int .i64 2)) 3, 4, .always⟩,
 ⟨some 41, .assign (.tmp 42), 4, .always⟩] [0, 1, 2, 6, 7, 14, 41])
 (.cond (.tmp 41)
 (.skip)
 (.ops [⟨some 43, .binOp .eql 3 (.tmp 14) (.const (.int .i64 3)) 3, 4, .always⟩,
 ⟨some 41, .assign (.tmp 43), 4, .always⟩] [0, 1, 2, 6, 7, 41])))
 (.cond (.tmp 41)
 (.seq (.draw [⟨some 45, .move (.tmp 0), 25, .always⟩,
 ⟨some 46, .call { callee := .value (.func 28), args := #[.tmp 45, .const (.int .i64 2)], argTypes := #[25, 3] }, 3, .always⟩,
 ⟨some 47, .binOp .eql 3 (.tmp 46) (.const (.int .i64 0)) 3, 4, .always⟩,
 ⟨some 48, .move (.tmp 0), 25, .always⟩,
 ⟨some 49, .move (.tmp 1), 27, .always⟩,
 ⟨some 50, .load 30 (.tmp 7), 30, .always⟩,
 ⟨some 51, .call { callee := .value (.func 23), args := #[.tmp 48, .tmp 49, .tmp 50, .const (.int .i64 1)], argTypes := #[25, 27, 30, 3] }, 51, .always⟩,
 ⟨some 52, .move (.tmp 0), 25, .always⟩,
 ⟨some 53, .move (.tmp 1), 27, .always⟩,
 ⟨some 54, .load 30 (.tmp 7), 30, .always⟩,
 ⟨some 55, .buildSlice 27 1 #[(0, .tmp 54)], 27, .always⟩,
 ⟨some 56, .call { callee := .value (.func 51), args := #[.tmp 53, .tmp 55], argTypes := #[27, 27] }, 27, .always⟩,
 ⟨some 57, .move (.tmp 2), 3, .always⟩,
 ⟨some 58, .binOp .sub 3 (.tmp 57) (.const (.int .i64 1)) 3, 3, .always⟩,
 ⟨some 59, .call { callee := .value (.func 12), args := #[.tmp 52, .tmp 56, .tmp 58], argTypes := #[25, 27, 3] }, 35, .always⟩,
 ⟨some 60, .call { callee := .value (.func 42), args := #[.tmp 47, .tmp 51, .tmp 59], argTypes := #[4, 51, 35] }, 47, .always⟩,
 ⟨some 44, .move (.tmp 60), 47, .always⟩,
 ⟨some 61, .extract (.tmp 44) 0, 35, .always⟩,
 ⟨some 62, .extract (.tmp 44) 1, 43, .always⟩,
 ⟨some 8, .alloc 35, 0, .always⟩,
 ⟨none, .store 35 (.tmp 8) (.tmp 61), 0, .always⟩,
 ⟨some 9, .assign (.tmp 62), 43, .always⟩] [false, true, false, false, false, true, true, false, false, true, false, true, false, false, true, true, false, false, false, true, false, false] [0, 1, 6, 7, 8, 9])
 (.seq (.ops [⟨some 63, .move (.tmp 9), 43, .always⟩,
 ⟨some 64, .binOp .eql 43 (.tmp 63) (.const (.int .i64 0)) 43, 4, .always⟩] [0, 1, 6, 7, 8, 64])
 (.cond (.tmp 64)
 (.seq (.ops [⟨some 65, .load 35 (.tmp 8), 35, .always⟩,
 ⟨none, .store 35 (.tmp 6) (.tmp 65), 0, .always⟩] [6])
 (.ret))
 (.skip))))
 (.skip)))))))))
 (.skip)))
 (.seq (.draw [⟨some 66, .move (.tmp 0), 25, .always⟩,
 ⟨some 67, .move (.tmp 1), 27, .always⟩,
 ⟨some 68, .load 30 (.tmp 7), 30, .always⟩,
 ⟨some 69, .call { callee := .value (.func 23), args := #[.tmp 66, .tmp 67, .tmp 68, .const (.int .i64 1)], argTypes := #[25, 27, 30, 3] }, 51, .always⟩,
 ⟨some 70, .move (.tmp 0), 25, .always⟩,
 ⟨some 71, .move (.tmp 1), 27, .always⟩,
 ⟨some 72, .load 30 (.tmp 7), 30, .always⟩,
 ⟨some 73, .call { callee := .value (.func 23), args := #[.tmp 70, .tmp 71, .tmp 72, .const (.int .i64 1)], argTypes := #[25, 27, 30, 3] }, 51, .always⟩,
 ⟨some 74, .call { callee := .value (.func 45), args := #[.tmp 69, .tmp 73], argTypes := #[51, 51] }, 35, .always⟩,
 ⟨none, .store 35 (.tmp 6) (.tmp 74), 0, .always⟩] [false, false, false, true, false, false, true, false, false, false] [6])
 (.ret))))
theorem w12 {args : List PV} {σ σ' : List Frm} {r : Ret} (hr : ∀ p, r = .val p → erV p = p) (h : wpP cfg s12 (QEndP cfg [.cell 6 35] σ' r) ⟨initEnv args, fun _ => [], σ, ⟨fun _ => false, 0⟩⟩) : CallsV cfg 12 args σ r σ' :=
 callsV_of_p follows cfgT a12 (fn := Tryz.f12) (c := Tryz.f12.body.getD .skip) (by kernel_rfl) (by kernel_rfl) (by kernel_rfl) (by kernel_rfl) (by kernel_rfl) (sc := s12) (by kernel_rfl) [.cell 6 35] (by kernel_rfl) hr h
def a31 : List Ann := [⟨[2, 3], [], []⟩,
 ⟨[2, 3, 34], [], []⟩,
 ⟨[4], [], []⟩,
 ⟨[2, 3, 37, 38], [], []⟩,
 ⟨[2, 3, 37, 38, 39], [], []⟩,
 ⟨[2, 3, 5, 37, 38], [], []⟩,
 ⟨[2, 3, 37, 38, 52], [0, 1, 0, 7, 15, 0, 32, 0, 224, 480, 1023, 2047], [false, false, false, false, false, false, false, false, false, false, false, false]⟩,
 ⟨[4], [], []⟩,
 ⟨[2, 3, 37, 38], [], []⟩,
 ⟨[4], [], []⟩]
def s31 : SC := .seq (.ops [⟨some 2, .box 51 (.tmp 0), 0, .always⟩,
 ⟨some 3, .box 51 (.tmp 1), 0, .always⟩,
 ⟨some 4, .assign (.const (.bool false)), 4, .always⟩] [2, 3])
 (.seq (.seq (.ops [⟨some 6, .fieldAddr 51 (.tmp 2) 0, 0, .always⟩,
 ⟨some 7, .load 3 (.tmp 6), 3, .always⟩,
 ⟨some 8, .fieldAddr 51 (.tmp 3) 0, 0, .always⟩,
 ⟨some 9, .load 3 (.tmp 8), 3, .always⟩,
 ⟨some 10, .binOp .neq 3 (.tmp 7) (.tmp 9) 3, 4, .always⟩,
 ⟨some 11, .move (.tmp 10), 4, .always⟩,
 ⟨some 12, .fieldAddr 51 (.tmp 2) 1, 0, .tmp 11 false⟩,
 ⟨some 13, .load 3 (.tmp 12), 3, .tmp 11 false⟩,
 ⟨some 14, .fieldAddr 51 (.tmp 3) 1, 0, .tmp 11 false⟩,
 ⟨some 15, .load 3 (.tmp 14), 3, .tmp 11 false⟩,
 ⟨some 16, .binOp .neq 3 (.tmp 13) (.tmp 15) 3, 4, .tmp 11 false⟩,
 ⟨some 17, .pick (.tmp 11) (.const (.bool true)) (.tmp 16), 4, .always⟩,
 ⟨some 18, .move (.tmp 17), 4, .always⟩,
 ⟨some 19, .fieldAddr 51 (.tmp 2) 2, 0, .tmp 18 false⟩,
 ⟨some 20, .load 30 (.tmp 19), 30, .tmp 18 false⟩,
 ⟨some 21, .fieldAddr 51 (.tmp 3) 2, 0, .tmp 18 false⟩,
 ⟨some 22, .load 30 (.tmp 21), 30, .tmp 18 false⟩,
 ⟨some 23, .call { callee := .value (.func 16), args := #[.tmp 20, .tmp 22], argTypes := #[30, 30] }, 4, .tmp 18 false⟩,
 ⟨some 24, .unOp .not 4 (.tmp 23), 4, .tmp 18 false⟩,
 ⟨some 25, .pick (.tmp 18) (.const (.bool true)) (.tmp 24), 4, .always⟩,
 ⟨some 26, .move (.tmp 25), 4, .always⟩,
 ⟨some 27, .fieldAddr 51 (.tmp 2) 3, 0, .tmp 26 false⟩,
 ⟨some 28, .load 32 (.tmp 27), 32, .tmp 26 false⟩,
 ⟨some 29, .call { callee := .builtin .len, args := #[.tmp 28], argTypes := #[32] }, 3, .tmp 26 false⟩,
 ⟨some 30, .fieldAddr 51 (.tmp 3) 3, 0, .tmp 26 false⟩,
 ⟨some 31, .load 32 (.tmp 30), 32, .tmp 26 false⟩,
 ⟨some 32, .call { callee := .builtin .len, args := #[.tmp 31], argTypes := #[32] }, 3, .tmp 26 false⟩,
 ⟨some 33, .binOp .neq 3 (.tmp 29) (.tmp 32) 3, 4, .tmp 26 false⟩,
 ⟨some 34, .pick (.tmp 26) (.const (.bool true)) (.tmp 33), 4, .always⟩] [2, 3, 34])
 (.cond (.tmp 34)
 (.seq (.ops [⟨some 4, .assign (.const (.bool false)), 4, .always⟩] [4])
 (.ret))
 (.skip)))
 (.seq (.seq (.ops [⟨some 35, .fieldAddr 51 (.tmp 2) 3, 0, .always⟩,
 ⟨some 36, .load 32 (.tmp 35), 32, .always⟩,
 ⟨some 37, .call { callee := .builtin .len, args := #[.tmp 36], argTypes := #[32] }, 3, .always⟩,
 ⟨some 38, .move (.const (.int .i64 0)), 3, .always⟩] [2, 3, 37, 38])
 (.block 0
 (.loop
 (.seq (.ops [⟨some 39, .binOp .lss 3 (.tmp 38) (.tmp 37) 3, 0, .always⟩] [2, 3, 37, 38, 39])
 (.seq (.cond (.tmp 39)
 (.skip)
 (.exit 0))
 (.seq (.block 1
 (.seq (.ops [⟨some 40, .move (.tmp 38), 3, .always⟩,
 ⟨some 5, .assign (.tmp 40), 3, .always⟩] [2, 3, 5, 37, 38])
 (.seq (.draw [⟨some 41, .fieldAddr 51 (.tmp 2) 3, 0, .always⟩,
 ⟨some 42, .load 32 (.tmp 41), 32, .always⟩,
 ⟨some 43, .move (.tmp 5), 3, .always⟩,
 ⟨some 44, .indexAddr 32 (.tmp 42) (.tmp 43), 0, .always⟩,
 ⟨some 45, .load 51 (.tmp 44), 51, .always⟩,
 ⟨some 46, .fieldAddr 51 (.tmp 3) 3, 0, .always⟩,
 ⟨some 47, .load 32 (.tmp 46), 32, .always⟩,
 ⟨some 48, .move (.tmp 5), 3, .always⟩,
 ⟨some 49, .indexAddr 32 (.tmp 47) (.tmp 48), 0, .always⟩,
 ⟨some 50, .load 51 (.tmp 49), 51, .always⟩,
 ⟨some 51, .call { callee := .value (.func 31), args := #[.tmp 45, .tmp 50], argTypes := #[51, 51] }, 4, .always⟩,
 ⟨some 52, .unOp .not 4 (.tmp 51), 4, .always⟩] [false, false, false, false, false, false, false, false, false, false, false, false] [2, 3, 37, 38, 52])
 (.cond (.tmp 52)
 (.seq (.ops [⟨some 4, .assign (.const (.bool false)), 4, .always⟩] [4])
 (.ret))
 (.skip)))))
 (.ops [⟨some 53, .binOp .add 3 (.tmp 38) (.const (.int .i64 1)) 3, 3, .always⟩,
 ⟨some 38, .move (.tmp 53), 3, .always⟩] [2, 3, 37, 38])))))))
 (.seq (.ops [⟨some 4, .assign (.const (.bool true)), 4, .always⟩] [4])
 (.ret))))
theorem w31 {args : List PV} {σ σ' : List Frm} {r : Ret} (hr : ∀ p, r = .val p → erV p = p) (h : wpP cfg s31 (QEndP cfg [.tmp 4] σ' r) ⟨initEnv args, fun _ => [], σ, ⟨fun _ => false, 0⟩⟩) : CallsV cfg 31 args σ r σ' :=
 callsV_of_p follows cfgT a31 (fn := Tryz.f31) (c := Tryz.f31.body.getD .skip) (by kernel_rfl) (by kernel_rfl) (by kernel_rfl) (by kernel_rfl) (by kernel_rfl) (sc := s31) (by kernel_rfl) [.tmp 4] (by kernel_rfl) hr h
def a59 : List Ann := [⟨[0, 1], [], []⟩,
 ⟨[0, 1, 10], [], []⟩,
 ⟨[4], [], []⟩,
 ⟨[0, 1, 12, 13], [], []⟩,
 ⟨[0, 1, 12, 13, 14], [], []⟩,
 ⟨[0, 1, 5, 12, 13], [], []⟩,
 ⟨[0, 1, 12, 13, 25], [0, 0, 3, 7, 0, 0, 48, 112, 255, 511], [false, false, false, false, false, false, false, false, false, false]⟩,
 ⟨[4], [], []⟩,
 ⟨[0, 1, 12, 13], [], []⟩,
 ⟨[4], [], []⟩]
def s59 : SC := .seq (.ops [⟨some 4, .assign (.const (.bool false)), 4, .always⟩] [0, 1])
 (.seq (.seq (.ops [⟨some 6, .move (.tmp 0), 32, .always⟩,
 ⟨some 7, .call { callee := .builtin .len, args := #[.tmp 6], argTypes := #[32] }, 3, .always⟩,
 ⟨some 8, .move (.tmp 1), 32, .always⟩,
 ⟨some 9, .call { callee := .builtin .len, args := #[.tmp 8], argTypes := #[32] }, 3, .always⟩,
 ⟨some 10, .binOp .neq 3 (.tmp 7) (.tmp 9) 3, 4, .always⟩] [0, 1, 10])
 (.cond (.tmp 10)
 (.seq (.ops [⟨some 4, .assign (.const (.bool false)), 4, .always⟩] [4])
 (.ret))
 (.skip)))
 (.seq (.seq (.ops [⟨some 11, .move (.tmp 0), 32, .always⟩,
 ⟨some 12, .call { callee := .builtin .len, args := #[.tmp 11], argTypes := #[32] }, 3, .always⟩,
 ⟨some 13, .move (.const (.int .i64 0)), 3, .always⟩] [0, 1, 12, 13])
 (.block 0
 (.loop
 (.seq (.ops [⟨some 14, .binOp .lss 3 (.tmp 13) (.tmp 12) 3, 0, .always⟩] [0, 1, 12, 13, 14])
 (.seq (.cond (.tmp 14)
 (.skip)
 (.exit 0))
 (.seq (.block 1
 (.seq (.ops [⟨some 15, .move (.tmp 13), 3, .always⟩,
 ⟨some 5, .assign (.tmp 15), 3, .always⟩] [0, 1, 5, 12, 13])
 (.seq (.draw [⟨some 16, .move (.tmp 0), 32, .always⟩,
 ⟨some 17, .move (.tmp 5), 3, .always⟩,
 ⟨some 18, .indexAddr 32 (.tmp 16) (.tmp 17), 0, .always⟩,
 ⟨some 19, .load 51 (.tmp 18), 51, .always⟩,
 ⟨some 20, .move (.tmp 1), 32, .always⟩,
 ⟨some 21, .move (.tmp 5), 3, .always⟩,
 ⟨some 22, .indexAddr 32 (.tmp 20) (.tmp 21), 0, .always⟩,
 ⟨some 23, .load 51 (.tmp 22), 51, .always⟩,
 ⟨some 24, .call { callee := .value (.func 31), args := #[.tmp 19, .tmp 23], argTypes := #[51, 51] }, 4, .always⟩,
 ⟨some 25, .unOp .not 4 (.tmp 24), 4, .always⟩] [false, false, false, false, false, false, false, false, false, false] [0, 1, 12, 13, 25])
 (.cond (.tmp 25)
 (.seq (.ops [⟨some 4, .assign (.const (.bool false)), 4, .always⟩] [4])
 (.ret))
 (.skip)))))
 (.ops [⟨some 26, .binOp .add 3 (.tmp 13) (.const (.int .i64 1)) 3, 3, .always⟩,
 ⟨some 13, .move (.tmp 26), 3, .always⟩] [0, 1, 12, 13])))))))
 (.seq (.ops [⟨some 4, .assign (.const (.bool true)), 4, .always⟩] [4])
 (.ret))))
theorem w59 {args : List PV} {σ σ' : List Frm} {r : Ret} (hr : ∀ p, r = .val p → erV p = p) (h : wpP cfg s59 (QEndP cfg [.tmp 4] σ' r) ⟨initEnv args, fun _ => [], σ, ⟨fun _ => false, 0⟩⟩) : CallsV cfg 59 args σ r σ' :=
 callsV_of_p follows cfgT a59 (fn := Tryz.f59) (c := Tryz.f59.body.getD .skip) (by kernel_rfl) (by kernel_rfl) (by kernel_rfl) (by kernel_rfl) (by kernel_rfl) (sc := s59) (by kernel_rfl) [.tmp 4] (by kernel_rfl) hr h
def a17 : List Ann := [⟨[2, 3], [], []⟩,
 ⟨[2, 3, 35], [], []⟩,
 ⟨[4], [], []⟩,
 ⟨[2, 3, 38, 39], [], []⟩,
 ⟨[2, 3, 38, 39, 40], [], []⟩,
 ⟨[2, 3, 5, 38, 39], [], []⟩,
 ⟨[2, 3, 38, 39, 53], [0, 1, 0, 7, 15, 0, 32, 0, 224, 480, 1023, 2047], [false, false, false, false, false, false, false, false, false, false, false, false]⟩,
 ⟨[4], [], []⟩,
 ⟨[2, 3, 38, 39], [], []⟩,
 ⟨[4], [], []⟩]
def s17 : SC := .seq (.ops [⟨some 2, .box 35 (.tmp 0), 0, .always⟩,
 ⟨some 3, .box 35 (.tmp 1), 0, .always⟩,
 ⟨some 4, .assign (.const (.bool false)), 4, .always⟩] [2, 3])
 (.seq (.seq (.ops [⟨some 6, .fieldAddr 35 (.tmp 2) 0, 0, .always⟩,
 ⟨some 7, .load 3 (.tmp 6), 3, .always⟩,
 ⟨some 8, .fieldAddr 35 (.tmp 3) 0, 0, .always⟩,
 ⟨some 9, .load 3 (.tmp 8), 3, .always⟩,
 ⟨some 10, .binOp .neq 3 (.tmp 7) (.tmp 9) 3, 4, .always⟩,
 ⟨some 11, .move (.tmp 10), 4, .always⟩,
 ⟨some 12, .fieldAddr 35 (.tmp 2) 1, 0, .tmp 11 false⟩,
 ⟨some 13, .load 30 (.tmp 12), 30, .tmp 11 false⟩,
 ⟨some 14, .fieldAddr 35 (.tmp 3) 1, 0, .tmp 11 false⟩,
 ⟨some 15, .load 30 (.tmp 14), 30, .tmp 11 false⟩,
 ⟨some 16, .call { callee := .value (.func 16), args := #[.tmp 13, .tmp 15], argTypes := #[30, 30] }, 4, .tmp 11 false⟩,
 ⟨some 17, .unOp .not 4 (.tmp 16), 4, .tmp 11 false⟩,
 ⟨some 18, .pick (.tmp 11) (.const (.bool true)) (.tmp 17), 4, .always⟩,
 ⟨some 19, .move (.tmp 18), 4, .always⟩,
 ⟨some 20, .fieldAddr 35 (.tmp 2) 2, 0, .tmp 19 false⟩,
 ⟨some 21, .load 32 (.tmp 20), 32, .tmp 19 false⟩,
 ⟨some 22, .fieldAddr 35 (.tmp 3) 2, 0, .tmp 19 false⟩,
 ⟨some 23, .load 32 (.tmp 22), 32, .tmp 19 false⟩,
 ⟨some 24, .call { callee := .value (.func 59), args := #[.tmp 21, .tmp 23], argTypes := #[32, 32] }, 4, .tmp 19 false⟩,
 ⟨some 25, .unOp .not 4 (.tmp 24), 4, .tmp 19 false⟩,
 ⟨some 26, .pick (.tmp 19) (.const (.bool true)) (.tmp 25), 4, .always⟩,
 ⟨some 27, .move (.tmp 26), 4, .always⟩,
 ⟨some 28, .fieldAddr 35 (.tmp 2) 3, 0, .tmp 27 false⟩,
 ⟨some 29, .load 33 (.tmp 28), 33, .tmp 27 false⟩,
 ⟨some 30, .call { callee := .builtin .len, args := #[.tmp 29], argTypes := #[33] }, 3, .tmp 27 false⟩,
 ⟨some 31, .fieldAddr 35 (.tmp 3) 3, 0, .tmp 27 false⟩,
 ⟨some 32, .load 33 (.tmp 31), 33, .tmp 27 false⟩,
 ⟨some 33, .call { callee := .builtin .len, args := #[.tmp 32], argTypes := #[33] }, 3, .tmp 27 false⟩,
 ⟨some 34, .binOp .neq 3 (.tmp 30) (.tmp 33) 3, 4, .tmp 27 false⟩,
 ⟨some 35, .pick (.tmp 27) (.const (.bool true)) (.tmp 34), 4, .always⟩] [2, 3, 35])
 (.cond (.tmp 35)
 (.seq (.ops [⟨some 4, .assign (.const (.bool false)), 4, .always⟩] [4])
 (.ret))
 (.skip)))
 (.seq (.seq (.ops [⟨some 36, .fieldAddr 35 (.tmp 2) 3, 0, .always⟩,
 ⟨some 37, .load 33 (.tmp 36), 33, .always⟩,
 ⟨some 38, .call { callee := .builtin .len, args := #[.tmp 37], argTypes := #[33] }, 3, .always⟩,
 ⟨some 39, .move (.const (.int .i64 0)), 3, .always⟩] [2, 3, 38, 39])
 (.block 0
 (.loop
 (.seq (.ops [⟨some 40, .binOp .lss 3 (.tmp 39) (.tmp 38) 3, 0, .always⟩] [2, 3, 38, 39, 40])
 (.seq (.cond (.tmp 40)
 (.skip)
 (.exit 0))
 (.seq (.block 1
 (.seq (.ops [⟨some 41, .move (.tmp 39), 3, .always⟩,
 ⟨some 5, .assign (.tmp 41), 3, .always⟩] [2, 3, 5, 38, 39])
 (.seq (.draw [⟨some 42, .fieldAddr 35 (.tmp 2) 3, 0, .always⟩,
 ⟨some 43, .load 33 (.tmp 42), 33, .always⟩,
 ⟨some 44, .move (.tmp 5), 3, .always⟩,
 ⟨some 45, .indexAddr 33 (.tmp 43) (.tmp 44), 0, .always⟩,
 ⟨some 46, .load 35 (.tmp 45), 35, .always⟩,
 ⟨some 47, .fieldAddr 35 (.tmp 3) 3, 0, .always⟩,
 ⟨some 48, .load 33 (.tmp 47), 33, .always⟩,
 ⟨some 49, .move (.tmp 5), 3, .always⟩,
 ⟨some 50, .indexAddr 33 (.tmp 48) (.tmp 49), 0, .always⟩,
 ⟨some 51, .load 35 (.tmp 50), 35, .always⟩,
 ⟨some 52, .call { callee := .value (.func 17), args := #[.tmp 46, .tmp 51], argTypes := #[35, 35] }, 4, .always⟩,
 ⟨some 53, .unOp .not 4 (.tmp 52), 4, .always⟩] [false, false, false, false, false, false, false, false, false, false, false, false] [2, 3, 38, 39, 53])
 (.cond (.tmp 53)
 (.seq (.ops [⟨some 4, .assign (.const (.bool false)), 4, .always⟩] [4])
 (.ret))
 (.skip)))))
 (.ops [⟨some 54, .binOp .add 3 (.tmp 39) (.const (.int .i64 1)) 3, 3, .always⟩,
 ⟨some 39, .move (.tmp 54), 3, .always⟩] [2, 3, 38, 39])))))))
 (.seq (.ops [⟨some 4, .assign (.const (.bool true)), 4, .always⟩] [4])
 (.ret))))
theorem w17 {args : List PV} {σ σ' : List Frm} {r : Ret} (hr : ∀ p, r = .val p → erV p = p) (h : wpP cfg s17 (QEndP cfg [.tmp 4] σ' r) ⟨initEnv args, fun _ => [], σ, ⟨fun _ => false, 0⟩⟩) : CallsV cfg 17 args σ r σ' :=
 callsV_of_p follows cfgT a17 (fn := Tryz.f17) (c := Tryz.f17.body.getD .skip) (by kernel_rfl) (by kernel_rfl) (by kernel_rfl) (by kernel_rfl) (by kernel_rfl) (sc := s17) (by kernel_rfl) [.tmp 4] (by kernel_rfl) hr h
def a3 : List Ann := [⟨[0], [], []⟩,
 ⟨[0, 21], [], []⟩,
 ⟨[2], [], []⟩,
 ⟨[0, 24], [], []⟩,
 ⟨[2], [], []⟩,
 ⟨[3], [], []⟩,
 ⟨[3, 4], [], []⟩,
 ⟨[3, 4, 5], [], []⟩,
 ⟨[4, 5, 6], [0, 0, 2, 0, 8, 30, 63, 0, 255], [false, false, true, true, false, true, true, true, false]⟩,
 ⟨[4, 5, 6, 7], [], []⟩,
 ⟨[4, 5, 6, 7, 8], [], []⟩,
 ⟨[4, 5, 6, 7, 8, 45], [], []⟩,
 ⟨[4, 5, 6, 7, 8], [], []⟩,
 ⟨[4, 5, 6, 7, 8], [0, 0, 3, 7, 0, 31, 63], [false, false, false, false, false, false, false]⟩,
 ⟨[4, 5, 6, 7, 9, 10, 11, 12], [], []⟩,
 ⟨[4, 5, 6, 7, 80], [], []⟩,
 ⟨[2], [], []⟩,
 ⟨[4, 5, 6, 7, 13, 14, 15], [], []⟩,
 ⟨[4, 5, 6, 13, 14, 15, 19], [], []⟩,
 ⟨[2], [0, 1, 3, 7, 15, 31, 63, 127, 127, 511, 1023, 2047, 4095, 4095, 4095, 28671, 65535, 131071, 262143], [false, false, false, false, false, false, false, false, false, false, false, false, true, false, false, true, false, false, false]⟩]
def s3 : SC := .seq (.ops [⟨some 2, .assign (.const (.bool false)), 4, .always⟩] [0])
 (.seq (.seq (.ops [⟨some 20, .call { callee := .value (.func 7), args := #[], argTypes := #[] }, 4, .always⟩,
 ⟨some 21, .unOp .not 4 (.tmp 20), 4, .always⟩] [0, 21])
 (.cond (.tmp 21)
 (.seq (.ops [⟨some 2, .assign (.const (.bool false)), 4, .always⟩] [2])
 (.ret))
 (.skip)))
 (.seq (.seq (.ops [⟨some 22, .move (.tmp 0), 22, .always⟩,
 ⟨some 23, .call { callee := .value (.func 8), args := #[.tmp 22], argTypes := #[22] }, 4, .always⟩,
 ⟨some 24, .unOp .not 4 (.tmp 23), 4, .always⟩] [0, 24])
 (.cond (.tmp 24)
 (.seq (.ops [⟨some 2, .assign (.const (.bool true)), 4, .always⟩] [2])
 (.ret))
 (.skip)))
 (.seq (.ops [⟨some 25, .move (.tmp 0), 22, .always⟩,
 ⟨some 26, .call { callee := .value (.func 9), args := #[.tmp 25], argTypes := #[22] }, 25, .always⟩,
 ⟨some 3, .assign (.tmp 26), 25, .always⟩] [3])
 (.seq (.ops [⟨some 27, .move (.tmp 3), 25, .always⟩,
 ⟨some 28, .call { callee := .value (.func 10), args := #[.tmp 27], argTypes := #[25] }, 27, .always⟩,
 ⟨some 4, .assign (.tmp 28), 27, .always⟩] [3, 4])
 (.seq (.ops [⟨some 29, .move (.tmp 3), 25, .always⟩,
 ⟨some 30, .call { callee := .value (.func 11), args := #[.tmp 29, .const (.int .i64 1)], argTypes := #[25, 3] }, 30, .always⟩,
 ⟨some 5, .alloc 30, 0, .always⟩,
 ⟨none, .store 30 (.tmp 5) (.tmp 30), 0, .always⟩] [3, 4, 5])
 (.seq (.draw [⟨some 31, .move (.tmp 3), 25, .always⟩,
 ⟨some 32, .move (.tmp 4), 27, .always⟩,
 ⟨some 33, .call { callee := .builtin .append, args := #[.const (.slice none 0 0), .tmp 32], argTypes := #[27, 27] }, 27, .always⟩,
 ⟨some 34, .load 30 (.tmp 5), 30, .always⟩,
 ⟨some 35, .buildSlice 27 1 #[(0, .tmp 34)], 27, .always⟩,
 ⟨some 36, .call { callee := .builtin .append, args := #[.tmp 33, .tmp 35], argTypes := #[27, 27] }, 27, .always⟩,
 ⟨some 37, .call { callee := .value (.func 12), args := #[.tmp 31, .tmp 36, .const (.int .i64 2)], argTypes := #[25, 27, 3] }, 35, .always⟩,
 ⟨some 6, .alloc 35, 0, .always⟩,
 ⟨none, .store 35 (.tmp 6) (.tmp 37), 0, .always⟩] [false, false, true, true, false, true, true, true, false] [4, 5, 6])
 (.seq (.ops [⟨some 38, .load 30 (.tmp 5), 30, .always⟩,
 ⟨some 39, .load 35 (.tmp 6), 35, .always⟩,
 ⟨some 40, .call { callee := .value (.func 13), args := #[.const (.int .i64 5), .tmp 38, .tmp 39], argTypes := #[3, 30, 35] }, 35, .always⟩,
 ⟨some 7, .alloc 35, 0, .always⟩,
 ⟨none, .store 35 (.tmp 7) (.tmp 40), 0, .always⟩] [4, 5, 6, 7])
 (.seq (.seq (.ops [⟨some 41, .move (.tmp 4), 27, .always⟩,
 ⟨some 42, .call { callee := .builtin .len, args := #[.tmp 41], argTypes := #[27] }, 3, .always⟩,
 ⟨some 43, .binOp .sub 3 (.tmp 42) (.const (.int .i64 1)) 3, 3, .always⟩,
 ⟨some 8, .assign (.tmp 43), 3, .always⟩] [4, 5, 6, 7, 8])
 (.block 0
 (.loop
 (.seq (.seq (.ops [⟨some 44, .move (.tmp 8), 3, .always⟩,
 ⟨some 45, .binOp .geq 3 (.tmp 44) (.const (.int .i64 0)) 3, 4, .always⟩] [4, 5, 6, 7, 8, 45])
 (.cond (.tmp 45)
 (.skip)
 (.exit 0)))
 (.seq (.block 1
 (.draw [⟨some 48, .move (.tmp 4), 27, .always⟩,
 ⟨some 49, .move (.tmp 8), 3, .always⟩,
 ⟨some 50, .indexAddr 27 (.tmp 48) (.tmp 49), 0, .always⟩,
 ⟨some 51, .load 30 (.tmp 50), 30, .always⟩,
 ⟨some 52, .load 35 (.tmp 7), 35, .always⟩,
 ⟨some 53, .call { callee := .value (.func 13), args := #[.const (.int .i64 4), .tmp 51, .tmp 52], argTypes := #[3, 30, 35] }, 35, .always⟩,
 ⟨none, .store 35 (.tmp 7) (.tmp 53), 0, .always⟩] [false, false, false, false, false, false, false] [4, 5, 6, 7, 8]))
 (.ops [⟨some 46, .move (.tmp 8), 3, .always⟩,
 ⟨some 47, .binOp .sub 3 (.tmp 46) (.const (.int .i64 1)) 3, 3, .always⟩,
 ⟨some 8, .assign (.tmp 47), 3, .always⟩] [4, 5, 6, 7, 8]))))))
 (.seq (.ops [⟨some 55, .load 35 (.tmp 7), 35, .always⟩,
 ⟨some 56, .call { callee := .value (.func 14), args := #[.tmp 55], argTypes := #[35] }, 38, .always⟩,
 ⟨some 54, .move (.tmp 56), 38, .always⟩,
 ⟨some 57, .extract (.tmp 54) 0, 27, .always⟩,
 ⟨some 58, .extract (.tmp 54) 1, 30, .always⟩,
 ⟨some 59, .extract (.tmp 54) 2, 35, .always⟩,
 ⟨some 60, .extract (.tmp 54) 3, 4, .always⟩,
 ⟨some 10, .alloc 30, 0, .always⟩,
 ⟨some 11, .alloc 35, 0, .always⟩,
 ⟨some 9, .assign (.tmp 57), 27, .always⟩,
 ⟨none, .store 30 (.tmp 10) (.tmp 58), 0, .always⟩,
 ⟨none, .store 35 (.tmp 11) (.tmp 59), 0, .always⟩,
 ⟨some 12, .assign (.tmp 60), 4, .always⟩] [4, 5, 6, 7, 9, 10, 11, 12])
 (.seq (.seq (.ops [⟨some 61, .move (.tmp 12), 4, .always⟩,
 ⟨some 62, .unOp .not 4 (.tmp 61), 4, .always⟩,
 ⟨some 63, .move (.tmp 62), 4, .always⟩,
 ⟨some 64, .move (.tmp 9), 27, .tmp 63 false⟩,
 ⟨some 65, .move (.tmp 4), 27, .tmp 63 false⟩,
 ⟨some 66, .call { callee := .value (.func 15), args := #[.tmp 64, .tmp 65], argTypes := #[27, 27] }, 4, .tmp 63 false⟩,
 ⟨some 67, .unOp .not 4 (.tmp 66), 4, .tmp 63 false⟩,
 ⟨some 68, .pick (.tmp 63) (.const (.bool true)) (.tmp 67), 4, .always⟩,
 ⟨some 69, .move (.tmp 68), 4, .always⟩,
 ⟨some 70, .load 30 (.tmp 10), 30, .tmp 69 false⟩,
 ⟨some 71, .load 30 (.tmp 5), 30, .tmp 69 false⟩,
 ⟨some 72, .call { callee := .value (.func 16), args := #[.tmp 70, .tmp 71], argTypes := #[30, 30] }, 4, .tmp 69 false⟩,
 ⟨some 73, .unOp .not 4 (.tmp 72), 4, .tmp 69 false⟩,
 ⟨some 74, .pick (.tmp 69) (.const (.bool true)) (.tmp 73), 4, .always⟩,
 ⟨some 75, .move (.tmp 74), 4, .always⟩,
 ⟨some 76, .load 35 (.tmp 11), 35, .tmp 75 false⟩,
 ⟨some 77, .load 35 (.tmp 6), 35, .tmp 75 false⟩,
 ⟨some 78, .call { callee := .value (.func 17), args := #[.tmp 76, .tmp 77], argTypes := #[35, 35] }, 4, .tmp 75 false⟩,
 ⟨some 79, .unOp .not 4 (.tmp 78), 4, .tmp 75 false⟩,
 ⟨some 80, .pick (.tmp 75) (.const (.bool true)) (.tmp 79), 4, .always⟩] [4, 5, 6, 7, 80])
 (.cond (.tmp 80)
 (.seq (.ops [⟨some 2, .assign (.const (.bool false)), 4, .always⟩] [2])
 (.ret))
 (.skip)))
 (.seq (.ops [⟨some 82, .load 35 (.tmp 7), 35, .always⟩,
 ⟨some 83, .call { callee := .value (.func 18), args := #[.tmp 82], argTypes := #[35] }, 44, .always⟩,
 ⟨some 81, .move (.tmp 83), 44, .always⟩,
 ⟨some 84, .extract (.tmp 81) 0, 27, .always⟩,
 ⟨some 85, .extract (.tmp 81) 1, 35, .always⟩,
 ⟨some 86, .extract (.tmp 81) 2, 43, .always⟩,
 ⟨some 14, .alloc 35, 0, .always⟩,
 ⟨some 13, .assign (.tmp 84), 27, .always⟩,
 ⟨none, .store 35 (.tmp 14) (.tmp 85), 0, .always⟩,
 ⟨some 15, .assign (.tmp 86), 43, .always⟩] [4, 5, 6, 7, 13, 14, 15])
 (.seq (.ops [⟨some 88, .load 35 (.tmp 7), 35, .always⟩,
 ⟨some 89, .load 35 (.tmp 7), 35, .always⟩,
 ⟨some 90, .call { callee := .value (.func 19), args := #[.const (.int .i64 2), .tmp 88, .tmp 89], argTypes := #[3, 35, 35] }, 35, .always⟩,
 ⟨some 91, .call { callee := .value (.func 14), args := #[.tmp 90], argTypes := #[35] }, 38, .always⟩,
 ⟨some 87, .move (.tmp 91), 38, .always⟩,
 ⟨some 92, .extract (.tmp 87) 0, 27, .always⟩,
 ⟨some 93, .extract (.tmp 87) 1, 30, .always⟩,
 ⟨some 94, .extract (.tmp 87) 2, 35, .always⟩,
 ⟨some 95, .extract (.tmp 87) 3, 4, .always⟩,
 ⟨some 17, .alloc 30, 0, .always⟩,
 ⟨some 18, .alloc 35, 0, .always⟩,
 ⟨some 16, .assign (.tmp 92), 27, .always⟩,
 ⟨none, .store 30 (.tmp 17) (.tmp 93), 0, .always⟩,
 ⟨none, .store 35 (.tmp 18) (.tmp 94), 0, .always⟩,
 ⟨some 19, .assign (.tmp 95), 4, .always⟩] [4, 5, 6, 13, 14, 15, 19])
 (.seq (.draw [⟨some 96, .move (.tmp 15), 43, .always⟩,
 ⟨some 97, .binOp .eql 43 (.tmp 96) (.const (.int .i64 0)) 43, 4, .always⟩,
 ⟨some 98, .move (.tmp 97), 4, .always⟩,
 ⟨some 99, .move (.tmp 19), 4, .tmp 98 true⟩,
 ⟨some 100, .unOp .not 4 (.tmp 99), 4, .tmp 98 true⟩,
 ⟨some 101, .pick (.tmp 98) (.tmp 100) (.const (.bool false)), 4, .always⟩,
 ⟨some 102, .move (.tmp 101), 4, .always⟩,
 ⟨some 103, .move (.tmp 13), 27, .tmp 102 true⟩,
 ⟨some 104, .move (.tmp 4), 27, .tmp 102 true⟩,
 ⟨some 105, .call { callee := .value (.func 15), args := #[.tmp 103, .tmp 104], argTypes := #[27, 27] }, 4, .tmp 102 true⟩,
 ⟨some 106, .pick (.tmp 102) (.tmp 105) (.const (.bool false)), 4, .always⟩,
 ⟨some 107, .move (.tmp 106), 4, .always⟩,
 ⟨some 108, .load 35 (.tmp 14), 35, .tmp 107 true⟩,
 ⟨some 109, .load 30 (.tmp 5), 30, .tmp 107 true⟩,
 ⟨some 110, .load 35 (.tmp 6), 35, .tmp 107 true⟩,
 ⟨some 111, .call { callee := .value (.func 13), args := #[.const (.int .i64 5), .tmp 109, .tmp 110], argTypes := #[3, 30, 35] }, 35, .tmp 107 true⟩,
 ⟨some 112, .call { callee := .value (.func 17), args := #[.tmp 108, .tmp 111], argTypes := #[35, 35] }, 4, .tmp 107 true⟩,
 ⟨some 113, .pick (.tmp 107) (.tmp 112) (.const (.bool false)), 4, .always⟩,
 ⟨some 2, .assign (.tmp 113), 4, .always⟩] [false, false, false, false, false, false, false, false, false, false, false, false, true, false, false, true, false, false, false] [2])
 (.ret))))))))))))))
theorem w3 {args : List PV} {σ σ' : List Frm} {r : Ret} (hr : ∀ p, r = .val p → erV p = p) (h : wpP cfg s3 (QEndP cfg [.tmp 2] σ' r) ⟨initEnv args, fun _ => [], σ, ⟨fun _ => false, 0⟩⟩) : CallsV cfg 3 args σ r σ' :=
 callsV_of_p follows cfgT a3 (fn := Tryz.f3) (c := Tryz.f3.body.getD .skip) (by kernel_rfl) (by kernel_rfl) (by kernel_rfl) (by kernel_rfl) (by kernel_rfl) (sc := s3) (by kernel_rfl) [.tmp 2] (by kernel_rfl) hr h
end
end Go.Proofs.YtcgmhnlmgomlgaaGreatDoor.V

set_option maxRecDepth 100000
namespace Go.Proofs.YtcgmhnlmgomlgaaGreatDoor.V
open Go Go.Proofs
noncomputable section
def a76 : List Ann := [⟨[1, 2], [], []⟩,
 ⟨[1, 2, 6], [], []⟩,
 ⟨[1, 2, 6, 10], [], []⟩,
 ⟨[4, 5], [], []⟩,
 ⟨[4, 5], [], []⟩]
def s76 : SC := .seq (.ops [⟨some 2, .box 35 (.tmp 0), 0, .always⟩,
 ⟨some 4, .assign (.const (.bool false)), 4, .always⟩,
 ⟨some 5, .assign (.const (.int .i64 0)), 43, .always⟩] [1, 2])
 (.seq (.seq (.ops [⟨some 7, .load 35 (.tmp 2), 35, .always⟩,
 ⟨some 8, .call { callee := .value (.func 54), args := #[.tmp 7], argTypes := #[35] }, 43, .always⟩,
 ⟨some 6, .assign (.tmp 8), 43, .always⟩] [1, 2, 6])
 (.seq (.ops [⟨some 9, .move (.tmp 6), 43, .always⟩,
 ⟨some 10, .binOp .neq 43 (.tmp 9) (.const (.int .i64 0)) 43, 4, .always⟩] [1, 2, 6, 10])
 (.cond (.tmp 10)
 (.seq (.ops [⟨some 11, .move (.tmp 6), 43, .always⟩,
 ⟨some 4, .assign (.const (.bool false)), 4, .always⟩,
 ⟨some 5, .assign (.tmp 11), 43, .always⟩] [4, 5])
 (.ret))
 (.skip))))
 (.seq (.ops [⟨some 12, .load 35 (.tmp 2), 35, .always⟩,
 ⟨some 13, .call { callee := .value (.func 56), args := #[.tmp 12], argTypes := #[35] }, 79, .always⟩,
 ⟨some 14, .move (.tmp 1), 79, .always⟩,
 ⟨some 15, .binOp .and 79 (.tmp 13) (.tmp 14) 79, 79, .always⟩,
 ⟨some 16, .binOp .neq 79 (.tmp 15) (.const (.int .u8 0)) 79, 4, .always⟩,
 ⟨some 4, .assign (.tmp 16), 4, .always⟩,
 ⟨some 5, .assign (.const (.int .i64 0)), 43, .always⟩] [4, 5])
 (.ret)))
theorem w76 {args : List PV} {σ σ' : List Frm} {r : Ret} (hr : ∀ p, r = .val p → erV p = p) (h : wpP cfg s76 (QEndP cfg [.tmp 4, .tmp 5] σ' r) ⟨initEnv args, fun _ => [], σ, ⟨fun _ => false, 0⟩⟩) : CallsV cfg 76 args σ r σ' :=
 callsV_of_p follows cfgT a76 (fn := Tryz.f76) (c := Tryz.f76.body.getD .skip) (by kernel_rfl) (by kernel_rfl) (by kernel_rfl) (by kernel_rfl) (by kernel_rfl) (sc := s76) (by kernel_rfl) [.tmp 4, .tmp 5] (by kernel_rfl) hr h
def a25 : List Ann := [⟨[1], [], []⟩,
 ⟨[2, 3], [], []⟩]
def s25 : SC := .seq (.ops [⟨some 1, .box 35 (.tmp 0), 0, .always⟩,
 ⟨some 2, .assign (.const (.bool false)), 4, .always⟩,
 ⟨some 3, .assign (.const (.int .i64 0)), 43, .always⟩] [1])
 (.seq (.ops [⟨some 4, .load 35 (.tmp 1), 35, .always⟩,
 ⟨some 5, .call { callee := .value (.func 76), args := #[.tmp 4, .const (.int .u8 2)], argTypes := #[35, 79] }, 53, .always⟩,
 ⟨some 6, .extract (.tmp 5) 0, 4, .always⟩,
 ⟨some 7, .extract (.tmp 5) 1, 43, .always⟩,
 ⟨some 2, .assign (.tmp 6), 4, .always⟩,
 ⟨some 3, .assign (.tmp 7), 43, .always⟩] [2, 3])
 (.ret))
theorem w25 {args : List PV} {σ σ' : List Frm} {r : Ret} (hr : ∀ p, r = .val p → erV p = p) (h : wpP cfg s25 (QEndP cfg [.tmp 2, .tmp 3] σ' r) ⟨initEnv args, fun _ => [], σ, ⟨fun _ => false, 0⟩⟩) : CallsV cfg 25 args σ r σ' :=
 callsV_of_p follows cfgT a25 (fn := Tryz.f25) (c := Tryz.f25.body.getD .skip) (by kernel_rfl) (by kernel_rfl) (by kernel_rfl) (by kernel_rfl) (by kernel_rfl) (sc := s25) (by kernel_rfl) [.tmp 2, .tmp 3] (by kernel_rfl) hr h
def a26 : List Ann := [⟨[1], [], []⟩,
 ⟨[2, 3], [], []⟩]
def s26 : SC := .seq (.ops [⟨some 1, .box 35 (.tmp 0), 0, .always⟩,
 ⟨some 2, .assign (.const (.bool false)), 4, .always⟩,
 ⟨some 3, .assign (.const (.int .i64 0)), 43, .always⟩] [1])
 (.seq (.ops [⟨some 4, .load 35 (.tmp 1), 35, .always⟩,
 ⟨some 5, .call { callee := .value (.func 76), args := #[.tmp 4, .const (.int .u8 4)], argTypes := #[35, 79] }, 53, .always⟩,
 ⟨some 6, .extract (.tmp 5) 0, 4, .always⟩,
 ⟨some 7, .extract (.tmp 5) 1, 43, .always⟩,
 ⟨some 2, .assign (.tmp 6), 4, .always⟩,
 ⟨some 3, .assign (.tmp 7), 43, .always⟩] [2, 3])
 (.ret))
theorem w26 {args : List PV} {σ σ' : List Frm} {r : Ret} (hr : ∀ p, r = .val p → erV p = p) (h : wpP cfg s26 (QEndP cfg [.tmp 2, .tmp 3] σ' r) ⟨initEnv args, fun _ => [], σ, ⟨fun _ => false, 0⟩⟩) : CallsV cfg 26 args σ r σ' :=
 callsV_of_p follows cfgT a26 (fn := Tryz.f26) (c := Tryz.f26.body.getD .skip) (by kernel_rfl) (by kernel_rfl) (by kernel_rfl) (by kernel_rfl) (by kernel_rfl) (sc := s26) (by kernel_rfl) [.tmp 2, .tmp 3] (by kernel_rfl) hr h
def a4 : List Ann := [⟨[0], [], []⟩,
 ⟨[0, 28], [], []⟩,
 ⟨[2], [], []⟩,
 ⟨[0, 31], [], []⟩,
 ⟨[2], [], []⟩,
 ⟨[3], [], []⟩,
 ⟨[3, 4], [], []⟩,
 ⟨[3, 4, 5], [], []⟩,
 ⟨[3, 4, 5, 6], [0, 1, 0, 4, 15, 31], [false, true, true, false, false, false]⟩,
 ⟨[3, 4, 5, 49, 50, 51], [], []⟩,
 ⟨[3, 4, 5, 49, 50, 51, 52], [], []⟩,
 ⟨[3, 4, 5, 8, 49, 50, 51], [], []⟩,
 ⟨[3, 4, 5, 8, 9, 49, 50, 51], [], []⟩,
 ⟨[3, 4, 5, 8, 9, 11, 49, 50, 51], [0, 0, 0, 0, 14, 31, 63, 127, 127, 0, 767, 2047], [true, false, false, false, true, true, false, false, false, true, false, false]⟩,
 ⟨[3, 4, 5, 8, 9, 11, 13, 14, 49, 50, 51], [], []⟩,
 ⟨[3, 4, 5, 8, 9, 11, 13, 14, 15, 16, 49, 50, 51], [], []⟩,
 ⟨[3, 4, 5, 9, 11, 13, 14, 15, 16, 17, 18, 49, 50, 51], [], []⟩,
 ⟨[3, 4, 5, 9, 11, 13, 15, 17, 49, 50, 51, 100], [], []⟩,
 ⟨[2], [], []⟩,
 ⟨[3, 4, 5, 13, 15, 17, 49, 50, 51, 103, 104, 105], [], []⟩,
 ⟨[3, 4, 5, 13, 15, 17, 49, 50, 51, 103, 104, 105, 106], [], []⟩,
 ⟨[3, 4, 5, 13, 15, 17, 20, 49, 50, 51, 103, 104, 105], [], []⟩,
 ⟨[3, 4, 5, 13, 15, 17, 20, 21, 22, 49, 50, 51, 103, 104, 105], [], []⟩,
 ⟨[3, 4, 5, 13, 15, 17, 20, 21, 22, 23, 24, 49, 50, 51, 103, 104, 105], [], []⟩,
 ⟨[3, 4, 5, 13, 15, 17, 21, 22, 23, 24, 25, 26, 49, 50, 51, 103, 104, 105], [], []⟩,
 ⟨[3, 4, 5, 13, 15, 17, 49, 50, 51, 103, 104, 105, 150], [], []⟩,
 ⟨[2], [], []⟩,
 ⟨[3, 4, 5, 13, 15, 17, 49, 50, 51, 103, 104, 105], [], []⟩,
 ⟨[3, 4, 5, 49, 50, 51], [], []⟩,
 ⟨[2], [], []⟩]
def s4 : SC := .seq (.ops [⟨some 2, .assign (.const (.bool false)), 4, .always⟩] [0])
 (.seq (.seq (.ops [⟨some 27, .call { callee := .value (.func 7), args := #[], argTypes := #[] }, 4, .always⟩,
 ⟨some 28, .unOp .not 4 (.tmp 27), 4, .always⟩] [0, 28])
 (.cond (.tmp 28)
 (.seq (.ops [⟨some 2, .assign (.const (.bool false)), 4, .always⟩] [2])
 (.ret))
 (.skip)))
 (.seq (.seq (.ops [⟨some 29, .move (.tmp 0), 22, .always⟩,
 ⟨some 30, .call { callee := .value (.func 8), args := #[.tmp 29], argTypes := #[22] }, 4, .always⟩,
 ⟨some 31, .unOp .not 4 (.tmp 30), 4, .always⟩] [0, 31])
 (.cond (.tmp 31)
 (.seq (.ops [⟨some 2, .assign (.const (.bool true)), 4, .always⟩] [2])
 (.ret))
 (.skip)))
 (.seq (.ops [⟨some 32, .move (.tmp 0), 22, .always⟩,
 ⟨some 33, .call { callee := .value (.func 9), args := #[.tmp 32], argTypes := #[22] }, 25, .always⟩,
 ⟨some 3, .assign (.tmp 33), 25, .always⟩] [3])
 (.seq (.ops [⟨some 34, .move (.tmp 3), 25, .always⟩,
 ⟨some 35, .call { callee := .value (.func 10), args := #[.tmp 34], argTypes := #[25] }, 27, .always⟩,
 ⟨some 4, .assign (.tmp 35), 27, .always⟩] [3, 4])
 (.seq (.ops [⟨some 36, .move (.tmp 3), 25, .always⟩,
 ⟨some 37, .call { callee := .value (.func 11), args := #[.tmp 36, .const (.int .i64 1)], argTypes := #[25, 3] }, 30, .always⟩,
 ⟨some 5, .alloc 30, 0, .always⟩,
 ⟨none, .store 30 (.tmp 5) (.tmp 37), 0, .always⟩] [3, 4, 5])
 (.seq (.draw [⟨some 38, .move (.tmp 4), 27, .always⟩,
 ⟨some 39, .call { callee := .builtin .append, args := #[.const (.slice none 0 0), .tmp 38], argTypes := #[27, 27] }, 27, .always⟩,
 ⟨some 40, .load 30 (.tmp 5), 30, .always⟩,
 ⟨some 41, .buildSlice 27 1 #[(0, .tmp 40)], 27, .always⟩,
 ⟨some 42, .call { callee := .builtin .append, args := #[.tmp 39, .tmp 41], argTypes := #[27, 27] }, 27, .always⟩,
 ⟨some 6, .assign (.tmp 42), 27, .always⟩] [false, true, true, false, false, false] [3, 4, 5, 6])
 (.seq (.seq (.ops [⟨some 43, .move (.tmp 3), 25, .always⟩,
 ⟨some 44, .move (.tmp 6), 27, .always⟩,
 ⟨some 45, .call { callee := .value (.func 20), args := #[.tmp 43, .tmp 44, .const (.int .i64 3)], argTypes := #[25, 27, 3] }, 35, .always⟩,
 ⟨some 46, .move (.tmp 3), 25, .always⟩,
 ⟨some 47, .move (.tmp 6), 27, .always⟩,
 ⟨some 48, .call { callee := .value (.func 12), args := #[.tmp 46, .tmp 47, .const (.int .i64 3)], argTypes := #[25, 27, 3] }, 35, .always⟩,
 ⟨some 49, .buildSlice 33 2 #[(0, .tmp 45), (1, .tmp 48)], 33, .always⟩,
 ⟨some 50, .call { callee := .builtin .len, args := #[.tmp 49], argTypes := #[33] }, 3, .always⟩,
 ⟨some 51, .move (.const (.int .i64 0)), 3, .always⟩] [3, 4, 5, 49, 50, 51])
 (.block 0
 (.loop
 (.seq (.ops [⟨some 52, .binOp .lss 3 (.tmp 51) (.tmp 50) 3, 0, .always⟩] [3, 4, 5, 49, 50, 51, 52])
 (.seq (.cond (.tmp 52)
 (.skip)
 (.exit 0))
 (.seq (.block 1
 (.seq (.ops [⟨some 53, .indexAddr 33 (.tmp 49) (.tmp 51), 0, .always⟩,
 ⟨some 54, .load 35 (.tmp 53), 35, .always⟩,
 ⟨some 8, .alloc 35, 0, .always⟩,
 ⟨none, .store 35 (.tmp 8) (.tmp 54), 0, .always⟩] [3, 4, 5, 8, 49, 50, 51])
 (.seq (.ops [⟨some 56, .load 35 (.tmp 8), 35, .always⟩,
 ⟨some 57, .call { callee := .value (.func 21), args := #[.tmp 56, .const (.int .i64 0), .const (.int .i64 2)], argTypes := #[35, 3, 3] }, 47, .always⟩,
 ⟨some 55, .move (.tmp 57), 47, .always⟩,
 ⟨some 58, .extract (.tmp 55) 0, 35, .always⟩,
 ⟨some 59, .extract (.tmp 55) 1, 43, .always⟩,
 ⟨some 9, .alloc 35, 0, .always⟩,
 ⟨none, .store 35 (.tmp 9) (.tmp 58), 0, .always⟩,
 ⟨some 10, .assign (.tmp 59), 43, .always⟩] [3, 4, 5, 8, 9, 49, 50, 51])
 (.seq (.draw [⟨some 61, .load 35 (.tmp 8), 35, .always⟩,
 ⟨some 62, .move (.tmp 3), 25, .always⟩,
 ⟨some 63, .move (.tmp 4), 27, .always⟩,
 ⟨some 64, .load 30 (.tmp 5), 30, .always⟩,
 ⟨some 65, .call { callee := .value (.func 23), args := #[.tmp 62, .tmp 63, .tmp 64, .const (.int .i64 2)], argTypes := #[25, 27, 30, 3] }, 51, .always⟩,
 ⟨some 66, .call { callee := .value (.func 22), args := #[.tmp 61, .const (.int .i64 0), .tmp 65], argTypes := #[35, 3, 51] }, 47, .always⟩,
 ⟨some 60, .move (.tmp 66), 47, .always⟩,
 ⟨some 67, .extract (.tmp 60) 0, 35, .always⟩,
 ⟨some 68, .extract (.tmp 60) 1, 43, .always⟩,
 ⟨some 11, .alloc 35, 0, .always⟩,
 ⟨none, .store 35 (.tmp 11) (.tmp 67), 0, .always⟩,
 ⟨some 12, .assign (.tmp 68), 43, .always⟩] [true, false, false, false, true, true, false, false, false, true, false, false] [3, 4, 5, 8, 9, 11, 49, 50, 51])
 (.seq (.ops [⟨some 70, .load 35 (.tmp 8), 35, .always⟩,
 ⟨some 71, .call { callee := .value (.func 24), args := #[.tmp 70], argTypes := #[35] }, 53, .always⟩,
 ⟨some 69, .move (.tmp 71), 53, .always⟩,
 ⟨some 72, .extract (.tmp 69) 0, 4, .always⟩,
 ⟨some 73, .extract (.tmp 69) 1, 43, .always⟩,
 ⟨some 13, .assign (.tmp 72), 4, .always⟩,
 ⟨some 14, .assign (.tmp 73), 43, .always⟩] [3, 4, 5, 8, 9, 11, 13, 14, 49, 50, 51])
 (.seq (.ops [⟨some 75, .load 35 (.tmp 8), 35, .always⟩,
 ⟨some 76, .call { callee := .value (.func 25), args := #[.tmp 75], argTypes := #[35] }, 53, .always⟩,
 ⟨some 74, .move (.tmp 76), 53, .always⟩,
 ⟨some 77, .extract (.tmp 74) 0, 4, .always⟩,
 ⟨some 78, .extract (.tmp 74) 1, 43, .always⟩,
 ⟨some 15, .assign (.tmp 77), 4, .always⟩,
 ⟨some 16, .assign (.tmp 78), 43, .always⟩] [3, 4, 5, 8, 9, 11, 13, 14, 15, 16, 49, 50, 51])
 (.seq (.ops [⟨some 80, .load 35 (.tmp 8), 35, .always⟩,
 ⟨some 81, .call { callee := .value (.func 26), args := #[.tmp 80], argTypes := #[35] }, 53, .always⟩,
 ⟨some 79, .move (.tmp 81), 53, .always⟩,
 ⟨some 82, .extract (.tmp 79) 0, 4, .always⟩,
 ⟨some 83, .extract (.tmp 79) 1, 43, .always⟩,
 ⟨some 17, .assign (.tmp 82), 4, .always⟩,
 ⟨some 18, .assign (.tmp 83), 43, .always⟩] [3, 4, 5, 9, 11, 13, 14, 15, 16, 17, 18, 49, 50, 51])
 (.seq (.seq (.ops [⟨some 84, .move (.tmp 14), 43, .always⟩,
 ⟨some 85, .binOp .neq 43 (.tmp 84) (.const (.int .i64 0)) 43, 4, .always⟩,
 ⟨some 86, .move (.tmp 85), 4, .always⟩,
 ⟨some 87, .move (.tmp 16), 43, .tmp 86 false⟩,
 ⟨some 88, .binOp .neq 43 (.tmp 87) (.const (.int .i64 0)) 43, 4, .tmp 86 false⟩,
 ⟨some 89, .pick (.tmp 86) (.const (.bool true)) (.tmp 88), 4, .always⟩,
 ⟨some 90, .move (.tmp 89), 4, .always⟩,
 ⟨some 91, .move (.tmp 18), 43, .tmp 90 false⟩,
 ⟨some 92, .binOp .neq 43 (.tmp 91) (.const (.int .i64 0)) 43, 4, .tmp 90 false⟩,
 ⟨some 93, .pick (.tmp 90) (.const (.bool true)) (.tmp 92), 4, .always⟩,
 ⟨some 94, .move (.tmp 93), 4, .always⟩,
 ⟨some 95, .move (.tmp 15), 4, .tmp 94 false⟩,
 ⟨some 96, .move (.tmp 95), 4, .tmp 94 false⟩,
 ⟨some 97, .move (.tmp 17), 4, .tmp 96 true⟩,
 ⟨some 98, .unOp .not 4 (.tmp 97), 4, .tmp 96 true⟩,
 ⟨some 99, .pick (.tmp 96) (.tmp 98) (.const (.bool false)), 4, .tmp 94 false⟩,
 ⟨some 100, .pick (.tmp 94) (.const (.bool true)) (.tmp 99), 4, .always⟩] [3, 4, 5, 9, 11, 13, 15, 17, 49, 50, 51, 100])
 (.cond (.tmp 100)
 (.seq (.ops [⟨some 2, .assign (.const (.bool false)), 4, .always⟩] [2])
 (.ret))
 (.skip)))
 (.seq (.ops [⟨some 101, .load 35 (.tmp 9), 35, .always⟩,
 ⟨some 102, .load 35 (.tmp 11), 35, .always⟩,
 ⟨some 103, .buildSlice 33 2 #[(0, .tmp 101), (1, .tmp 102)], 33, .always⟩,
 ⟨some 104, .call { callee := .builtin .len, args := #[.tmp 103], argTypes := #[33] }, 3, .always⟩,
 ⟨some 105, .move (.const (.int .i64 0)), 3, .always⟩] [3, 4, 5, 13, 15, 17, 49, 50, 51, 103, 104, 105])
 (.block 2
 (.loop
 (.seq (.ops [⟨some 106, .binOp .lss 3 (.tmp 105) (.tmp 104) 3, 0, .always⟩] [3, 4, 5, 13, 15, 17, 49, 50, 51, 103, 104, 105, 106])
 (.seq (.cond (.tmp 106)
 (.skip)
 (.exit 2))
 (.seq (.block 3
 (.seq (.ops [⟨some 107, .indexAddr 33 (.tmp 103) (.tmp 105), 0, .always⟩,
 ⟨some 108, .load 35 (.tmp 107), 35, .always⟩,
 ⟨some 20, .alloc 35, 0, .always⟩,
 ⟨none, .store 35 (.tmp 20) (.tmp 108), 0, .always⟩] [3, 4, 5, 13, 15, 17, 20, 49, 50, 51, 103, 104, 105])
 (.seq (.ops [⟨some 110, .load 35 (.tmp 20), 35, .always⟩,
 ⟨some 111, .call { callee := .value (.func 24), args := #[.tmp 110], argTypes := #[35] }, 53, .always⟩,
 ⟨some 109, .move (.tmp 111), 53, .always⟩,
 ⟨some 112, .extract (.tmp 109) 0, 4, .always⟩,
 ⟨some 113, .extract (.tmp 109) 1, 43, .always⟩,
 ⟨some 21, .assign (.tmp 112), 4, .always⟩,
 ⟨some 22, .assign (.tmp 113), 43, .always⟩] [3, 4, 5, 13, 15, 17, 20, 21, 22, 49, 50, 51, 103, 104, 105])
 (.seq (.ops [⟨some 115, .load 35 (.tmp 20), 35, .always⟩,
 ⟨some 116, .call { callee := .value (.func 25), args := #[.tmp 115], argTypes := #[35] }, 53, .always⟩,
 ⟨some 114, .move (.tmp 116), 53, .always⟩,
 ⟨some 117, .extract (.tmp 114) 0, 4, .always⟩,
 ⟨some 118, .extract (.tmp 114) 1, 43, .always⟩,
 ⟨some 23, .assign (.tmp 117), 4, .always⟩,
 ⟨some 24, .assign (.tmp 118), 43, .always⟩] [3, 4, 5, 13, 15, 17, 20, 21, 22, 23, 24, 49, 50, 51, 103, 104, 105])
 (.seq (.ops [⟨some 120, .load 35 (.tmp 20), 35, .always⟩,
 ⟨some 121, .call { callee := .value (.func 26), args := #[.tmp 120], argTypes := #[35] }, 53, .always⟩,
 ⟨some 119, .move (.tmp 121), 53, .always⟩,
 ⟨some 122, .extract (.tmp 119) 0, 4, .always⟩,
 ⟨some 123, .extract (.tmp 119) 1, 43, .always⟩,
 ⟨some 25, .assign (.tmp 122), 4, .always⟩,
 ⟨some 26, .assign (.tmp 123), 43, .always⟩] [3, 4, 5, 13, 15, 17, 21, 22, 23, 24, 25, 26, 49, 50, 51, 103, 104, 105])
 (.seq (.ops [⟨some 124, .move (.tmp 22), 43, .always⟩,
 ⟨some 125, .binOp .neq 43 (.tmp 124) (.const (.int .i64 0)) 43, 4, .always⟩,
 ⟨some 126, .move (.tmp 125), 4, .always⟩,
 ⟨some 127, .move (.tmp 24), 43, .tmp 126 false⟩,
 ⟨some 128, .binOp .neq 43 (.tmp 127) (.const (.int .i64 0)) 43, 4, .tmp 126 false⟩,
 ⟨some 129, .pick (.tmp 126) (.const (.bool true)) (.tmp 128), 4, .always⟩,
 ⟨some 130, .move (.tmp 129), 4, .always⟩,
 ⟨some 131, .move (.tmp 26), 43, .tmp 130 false⟩,
 ⟨some 132, .binOp .neq 43 (.tmp 131) (.const (.int .i64 0)) 43, 4, .tmp 130 false⟩,
 ⟨some 133, .pick (.tmp 130) (.const (.bool true)) (.tmp 132), 4, .always⟩,
 ⟨some 134, .move (.tmp 133), 4, .always⟩,
 ⟨some 135, .move (.tmp 21), 4, .tmp 134 false⟩,
 ⟨some 136, .move (.tmp 13), 4, .tmp 134 false⟩,
 ⟨some 137, .binOp .neq 4 (.tmp 135) (.tmp 136) 4, 4, .tmp 134 false⟩,
 ⟨some 138, .pick (.tmp 134) (.const (.bool true)) (.tmp 137), 4, .always⟩,
 ⟨some 139, .move (.tmp 138), 4, .always⟩,
 ⟨some 140, .move (.tmp 23), 4, .tmp 139 false⟩,
 ⟨some 141, .move (.tmp 15), 4, .tmp 139 false⟩,
 ⟨some 142, .binOp .neq 4 (.tmp 140) (.tmp 141) 4, 4, .tmp 139 false⟩,
 ⟨some 143, .pick (.tmp 139) (.const (.bool true)) (.tmp 142), 4, .always⟩,
 ⟨some 144, .move (.tmp 143), 4, .always⟩,
 ⟨some 145, .move (.tmp 17), 4, .tmp 144 false⟩,
 ⟨some 146, .move (.tmp 145), 4, .tmp 144 false⟩,
 ⟨some 147, .move (.tmp 25), 4, .tmp 146 true⟩,
 ⟨some 148, .unOp .not 4 (.tmp 147), 4, .tmp 146 true⟩,
 ⟨some 149, .pick (.tmp 146) (.tmp 148) (.const (.bool false)), 4, .tmp 144 false⟩,
 ⟨some 150, .pick (.tmp 144) (.const (.bool true)) (.tmp 149), 4, .always⟩] [3, 4, 5, 13, 15, 17, 49, 50, 51, 103, 104, 105, 150])
 (.cond (.tmp 150)
 (.seq (.ops [⟨some 2, .assign (.const (.bool false)), 4, .always⟩] [2])
 (.ret))
 (.skip))))))))
 (.ops [⟨some 151, .binOp .add 3 (.tmp 105) (.const (.int .i64 1)) 3, 3, .always⟩,
 ⟨some 105, .move (.tmp 151), 3, .always⟩] [3, 4, 5, 13, 15, 17, 49, 50, 51, 103, 104, 105])))))))))))))))
 (.ops [⟨some 152, .binOp .add 3 (.tmp 51) (.const (.int .i64 1)) 3, 3, .always⟩,
 ⟨some 51, .move (.tmp 152), 3, .always⟩] [3, 4, 5, 49, 50, 51])))))))
 (.seq (.ops [⟨some 2, .assign (.const (.bool true)), 4, .always⟩] [2])
 (.ret)))))))))
theorem w4 {args : List PV} {σ σ' : List Frm} {r : Ret} (hr : ∀ p, r = .val p → erV p = p) (h : wpP cfg s4 (QEndP cfg [.tmp 2] σ' r) ⟨initEnv args, fun _ => [], σ, ⟨fun _ => false, 0⟩⟩) : CallsV cfg 4 args σ r σ' :=
 callsV_of_p follows cfgT a4 (fn := Tryz.f4) (c := Tryz.f4.body.getD .skip) (by kernel_rfl) (by kernel_rfl) (by kernel_rfl) (by kernel_rfl) (by kernel_rfl) (sc := s4) (by kernel_rfl) [.tmp 2] (by kernel_rfl) hr h
end
end Go.Proofs.YtcgmhnlmgomlgaaGreatDoor.V
