/-
Parts of the proof of one law, put together by program: part 4.
-/
import Derived.Test.YtcgmhnlmgomlgaaGreatDoorKC3
set_option linter.unusedSimpArgs false
set_option linter.unusedVariables false
set_option maxRecDepth 100000
namespace Go.Proofs.YtcgmhnlmgomlgaaGreatDoor.V
open Go Go.Proofs
noncomputable section
def a128 : List Ann := [⟨[1], [], []⟩,
 ⟨[4, 5], [], []⟩,
 ⟨[4, 11], [], []⟩,
 ⟨[2, 3], [], []⟩,
 ⟨[4, 14], [], []⟩,
 ⟨[2, 3], [], []⟩,
 ⟨[2, 3], [], []⟩]
def s128 : SC := .seq (.ops [⟨some 1, .box 51 (.tmp 0), 0, .always⟩,
 ⟨some 2, .assign (.const (.int .i64 0)), 3, .always⟩,
 ⟨some 3, .assign (.const (.int .i64 0)), 43, .always⟩] [1])
 (.seq (.ops [⟨some 7, .load 51 (.tmp 1), 51, .always⟩,
 ⟨some 8, .call { callee := .value (.func 149), args := #[.tmp 7], argTypes := #[51] }, 122, .always⟩,
 ⟨some 6, .move (.tmp 8), 122, .always⟩,
 ⟨some 9, .extract (.tmp 6) 0, 3, .always⟩,
 ⟨some 10, .extract (.tmp 6) 1, 4, .always⟩,
 ⟨some 4, .assign (.tmp 9), 3, .always⟩,
 ⟨some 5, .assign (.tmp 10), 4, .always⟩] [4, 5])
 (.seq (.block 0
 (.seq (.ops [⟨some 12, .move (.tmp 5), 4, .always⟩,
 ⟨some 13, .unOp .not 4 (.tmp 12), 4, .always⟩,
 ⟨some 11, .assign (.tmp 13), 4, .always⟩] [4, 11])
 (.cond (.tmp 11)
 (.seq (.ops [⟨some 2, .assign (.const (.int .i64 0)), 3, .always⟩,
 ⟨some 3, .assign (.const (.int .i64 2)), 43, .always⟩] [2, 3])
 (.ret))
 (.seq (.ops [⟨some 15, .move (.tmp 4), 3, .always⟩,
 ⟨some 16, .binOp .gtr 3 (.tmp 15) (.const (.int .i64 4096)) 3, 4, .always⟩,
 ⟨some 14, .assign (.tmp 16), 4, .always⟩] [4, 14])
 (.cond (.tmp 14)
 (.seq (.ops [⟨some 2, .assign (.const (.int .i64 0)), 3, .always⟩,
 ⟨some 3, .assign (.const (.int .i64 4)), 43, .always⟩] [2, 3])
 (.ret))
 (.skip))))))
 (.seq (.ops [⟨some 17, .move (.tmp 4), 3, .always⟩,
 ⟨some 2, .assign (.tmp 17), 3, .always⟩,
 ⟨some 3, .assign (.const (.int .i64 0)), 43, .always⟩] [2, 3])
 (.ret))))
theorem w128 {args : List PV} {σ σ' : List Frm} {r : Ret} (hr : ∀ p, r = .val p → erV p = p) (h : wpP cfg s128 (QEndP cfg [.tmp 2, .tmp 3] σ' r) ⟨initEnv args, fun _ => [], σ, ⟨fun _ => false, 0⟩⟩) : CallsV cfg 128 args σ r σ' :=
 callsV_of_p follows cfgT a128 (fn := Tryz.f128) (c := Tryz.f128.body.getD .skip) (by kernel_rfl) (by kernel_rfl) (by kernel_rfl) (by kernel_rfl) (by kernel_rfl) (sc := s128) (by kernel_rfl) [.tmp 2, .tmp 3] (by kernel_rfl) hr h
def a96 : List Ann := [⟨[1], [], []⟩,
 ⟨[4], [], []⟩,
 ⟨[2], [], []⟩]
def s96 : SC := .seq (.ops [⟨some 1, .box 51 (.tmp 0), 0, .always⟩,
 ⟨some 2, .assign (.const (.int .i64 0)), 43, .always⟩] [1])
 (.seq (.ops [⟨some 6, .load 51 (.tmp 1), 51, .always⟩,
 ⟨some 7, .call { callee := .value (.func 128), args := #[.tmp 6], argTypes := #[51] }, 107, .always⟩,
 ⟨some 5, .move (.tmp 7), 107, .always⟩,
 ⟨some 8, .extract (.tmp 5) 0, 3, .always⟩,
 ⟨some 9, .extract (.tmp 5) 1, 43, .always⟩,
 ⟨some 3, .assign (.tmp 8), 3, .always⟩,
 ⟨some 4, .assign (.tmp 9), 43, .always⟩] [4])
 (.seq (.ops [⟨some 10, .move (.tmp 4), 43, .always⟩,
 ⟨some 2, .assign (.tmp 10), 43, .always⟩] [2])
 (.ret)))
theorem w96 {args : List PV} {σ σ' : List Frm} {r : Ret} (hr : ∀ p, r = .val p → erV p = p) (h : wpP cfg s96 (QEndP cfg [.tmp 2] σ' r) ⟨initEnv args, fun _ => [], σ, ⟨fun _ => false, 0⟩⟩) : CallsV cfg 96 args σ r σ' :=
 callsV_of_p follows cfgT a96 (fn := Tryz.f96) (c := Tryz.f96.body.getD .skip) (by kernel_rfl) (by kernel_rfl) (by kernel_rfl) (by kernel_rfl) (by kernel_rfl) (sc := s96) (by kernel_rfl) [.tmp 2] (by kernel_rfl) hr h
def a113 : List Ann := [⟨[0], [], []⟩,
 ⟨[2], [], []⟩]
def s113 : SC := .seq (.ops [⟨some 2, .assign (.const (.bool false)), 4, .always⟩] [0])
 (.seq (.ops [⟨some 3, .move (.tmp 0), 3, .always⟩,
 ⟨some 4, .binOp .geq 3 (.tmp 3) (.const (.int .i64 0)) 3, 4, .always⟩,
 ⟨some 5, .move (.tmp 4), 4, .always⟩,
 ⟨some 6, .move (.tmp 0), 3, .tmp 5 true⟩,
 ⟨some 7, .binOp .leq 3 (.tmp 6) (.const (.int .i64 4096)) 3, 4, .tmp 5 true⟩,
 ⟨some 8, .pick (.tmp 5) (.tmp 7) (.const (.bool false)), 4, .always⟩,
 ⟨some 2, .assign (.tmp 8), 4, .always⟩] [2])
 (.ret))
theorem w113 {args : List PV} {σ σ' : List Frm} {r : Ret} (hr : ∀ p, r = .val p → erV p = p) (h : wpP cfg s113 (QEndP cfg [.tmp 2] σ' r) ⟨initEnv args, fun _ => [], σ, ⟨fun _ => false, 0⟩⟩) : CallsV cfg 113 args σ r σ' :=
 callsV_of_p follows cfgT a113 (fn := Tryz.f113) (c := Tryz.f113.body.getD .skip) (by kernel_rfl) (by kernel_rfl) (by kernel_rfl) (by kernel_rfl) (by kernel_rfl) (sc := s113) (by kernel_rfl) [.tmp 2] (by kernel_rfl) hr h
def a137 : List Ann := [⟨[], [], []⟩]
def s137 : SC := .ops [⟨some 5, .load 4 (.tmp 2), 4, .always⟩,
 ⟨some 6, .move (.tmp 5), 4, .always⟩,
 ⟨some 7, .move (.tmp 0), 3, .tmp 6 true⟩,
 ⟨some 8, .binOp .leq 3 (.tmp 7) (.const (.int .i64 536870912)) 3, 4, .tmp 6 true⟩,
 ⟨some 9, .pick (.tmp 6) (.tmp 8) (.const (.bool false)), 4, .always⟩,
 ⟨none, .store 4 (.tmp 2) (.tmp 9), 0, .always⟩] []
theorem w137 {args : List PV} {σ σ' : List Frm} {r : Ret} (hr : ∀ p, r = .val p → erV p = p) (h : wpP cfg s137 (QEndP cfg [] σ' r) ⟨initEnv args, fun _ => [], σ, ⟨fun _ => false, 0⟩⟩) : CallsV cfg 137 args σ r σ' :=
 callsV_of_p follows cfgT a137 (fn := Tryz.f137) (c := Tryz.f137.body.getD .skip) (by kernel_rfl) (by kernel_rfl) (by kernel_rfl) (by kernel_rfl) (by kernel_rfl) (sc := s137) (by kernel_rfl) [] (by kernel_rfl) hr h
def a114 : List Ann := [⟨[1], [], []⟩,
 ⟨[1, 3], [], []⟩,
 ⟨[3], [], []⟩,
 ⟨[2], [], []⟩]
def s114 : SC := .seq (.ops [⟨some 1, .box 51 (.tmp 0), 0, .always⟩,
 ⟨some 2, .assign (.const (.bool false)), 4, .always⟩] [1])
 (.seq (.ops [⟨some 3, .alloc 4, 0, .always⟩,
 ⟨none, .store 4 (.tmp 3) (.const (.bool true)), 0, .always⟩] [1, 3])
 (.seq (.ops [⟨some 4, .load 51 (.tmp 1), 51, .always⟩,
 ⟨some 5, .makeFunc (.func 137) #[] #[.tmp 3], 126, .always⟩,
 ⟨some 6, .call { callee := .value (.func 136), args := #[.tmp 4, .tmp 5], argTypes := #[51, 126] }, 0, .always⟩] [3])
 (.seq (.ops [⟨some 7, .load 4 (.tmp 3), 4, .always⟩,
 ⟨some 2, .assign (.tmp 7), 4, .always⟩] [2])
 (.ret))))
theorem w114 {args : List PV} {σ σ' : List Frm} {r : Ret} (hr : ∀ p, r = .val p → erV p = p) (h : wpP cfg s114 (QEndP cfg [.tmp 2] σ' r) ⟨initEnv args, fun _ => [], σ, ⟨fun _ => false, 0⟩⟩) : CallsV cfg 114 args σ r σ' :=
 callsV_of_p follows cfgT a114 (fn := Tryz.f114) (c := Tryz.f114.body.getD .skip) (by kernel_rfl) (by kernel_rfl) (by kernel_rfl) (by kernel_rfl) (by kernel_rfl) (sc := s114) (by kernel_rfl) [.tmp 2] (by kernel_rfl) hr h
def a145 : List Ann := [⟨[1, 2, 3, 4, 6], [], []⟩,
 ⟨[1, 2, 3, 4, 6, 12], [], []⟩,
 ⟨[6], [], []⟩,
 ⟨[1, 3, 4, 6, 7], [0, 1, 0, 4, 0, 16, 48, 127, 0, 511], [false, true, false, true, false, false, true, false, true, false]⟩,
 ⟨[1, 3, 4, 6, 7, 28], [], []⟩,
 ⟨[1, 3, 4, 6, 7], [], []⟩,
 ⟨[1, 3, 6, 7, 32, 33, 34], [], []⟩,
 ⟨[1, 3, 6, 7, 32, 33, 34, 35], [], []⟩,
 ⟨[1, 3, 6, 7, 9, 32, 33, 34], [], []⟩,
 ⟨[1, 3, 6, 7, 32, 33, 34], [0, 1, 0, 0, 0, 28, 60, 127, 255, 511], [false, true, false, false, false, true, false, false, false, false]⟩,
 ⟨[1, 3, 6, 7, 32, 33, 34], [], []⟩,
 ⟨[6], [], []⟩]
def s145 : SC := .seq (.ops [⟨some 4, .box 51 (.tmp 0), 0, .always⟩,
 ⟨some 6, .alloc 51, 0, .always⟩] [1, 2, 3, 4, 6])
 (.seq (.seq (.ops [⟨some 10, .fieldAddr 51 (.tmp 4) 0, 0, .always⟩,
 ⟨some 11, .load 3 (.tmp 10), 3, .always⟩,
 ⟨some 12, .binOp .eql 3 (.tmp 11) (.const (.int .i64 1)) 3, 4, .always⟩] [1, 2, 3, 4, 6, 12])
 (.cond (.tmp 12)
 (.seq (.ops [⟨some 13, .load 127 (.tmp 2), 127, .always⟩,
 ⟨some 14, .fieldAddr 51 (.tmp 4) 1, 0, .always⟩,
 ⟨some 15, .load 3 (.tmp 14), 3, .always⟩,
 ⟨some 16, .move (.tmp 1), 3, .always⟩,
 ⟨some 17, .call { callee := .value (.tmp 13), args := #[.tmp 15, .tmp 16], argTypes := #[3, 3] }, 51, .always⟩,
 ⟨none, .store 51 (.tmp 6) (.tmp 17), 0, .always⟩] [6])
 (.ret))
 (.skip)))
 (.seq (.draw [⟨some 18, .fieldAddr 51 (.tmp 4) 0, 0, .always⟩,
 ⟨some 19, .load 3 (.tmp 18), 3, .always⟩,
 ⟨some 20, .fieldAddr 51 (.tmp 4) 1, 0, .always⟩,
 ⟨some 21, .load 3 (.tmp 20), 3, .always⟩,
 ⟨some 22, .fieldAddr 51 (.tmp 4) 2, 0, .always⟩,
 ⟨some 23, .load 30 (.tmp 22), 30, .always⟩,
 ⟨some 24, .call { callee := .value (.func 57), args := #[.tmp 23], argTypes := #[30] }, 30, .always⟩,
 ⟨some 25, .build 51 #[(0, .tmp 19), (1, .tmp 21), (2, .tmp 24)], 51, .always⟩,
 ⟨some 7, .alloc 51, 0, .always⟩,
 ⟨none, .store 51 (.tmp 7) (.tmp 25), 0, .always⟩] [false, true, false, true, false, false, true, false, true, false] [1, 3, 4, 6, 7])
 (.seq (.seq (.ops [⟨some 26, .fieldAddr 51 (.tmp 4) 0, 0, .always⟩,
 ⟨some 27, .load 3 (.tmp 26), 3, .always⟩,
 ⟨some 28, .binOp .eql 3 (.tmp 27) (.const (.int .i64 2)) 3, 4, .always⟩] [1, 3, 4, 6, 7, 28])
 (.cond (.tmp 28)
 (.ops [⟨some 29, .move (.tmp 1), 3, .always⟩,
 ⟨some 30, .binOp .add 3 (.tmp 29) (.const (.int .i64 1)) 3, 3, .always⟩,
 ⟨some 1, .assign (.tmp 30), 3, .always⟩] [1, 3, 4, 6, 7])
 (.skip)))
 (.seq (.seq (.ops [⟨some 31, .fieldAddr 51 (.tmp 4) 3, 0, .always⟩,
 ⟨some 32, .load 32 (.tmp 31), 32, .always⟩,
 ⟨some 33, .call { callee := .builtin .len, args := #[.tmp 32], argTypes := #[32] }, 3, .always⟩,
 ⟨some 34, .move (.const (.int .i64 0)), 3, .always⟩] [1, 3, 6, 7, 32, 33, 34])
 (.block 0
 (.loop
 (.seq (.ops [⟨some 35, .binOp .lss 3 (.tmp 34) (.tmp 33) 3, 0, .always⟩] [1, 3, 6, 7, 32, 33, 34, 35])
 (.seq (.cond (.tmp 35)
 (.skip)
 (.exit 0))
 (.seq (.block 1
 (.seq (.ops [⟨some 36, .indexAddr 32 (.tmp 32) (.tmp 34), 0, .always⟩,
 ⟨some 37, .load 51 (.tmp 36), 51, .always⟩,
 ⟨some 9, .alloc 51, 0, .always⟩,
 ⟨none, .store 51 (.tmp 9) (.tmp 37), 0, .always⟩] [1, 3, 6, 7, 9, 32, 33, 34])
 (.draw [⟨some 38, .fieldAddr 51 (.tmp 7) 3, 0, .always⟩,
 ⟨some 39, .load 32 (.tmp 38), 32, .always⟩,
 ⟨some 40, .load 110 (.tmp 3), 110, .always⟩,
 ⟨some 41, .load 51 (.tmp 9), 51, .always⟩,
 ⟨some 42, .move (.tmp 1), 3, .always⟩,
 ⟨some 43, .call { callee := .value (.tmp 40), args := #[.tmp 41, .tmp 42], argTypes := #[51, 3] }, 51, .always⟩,
 ⟨some 44, .buildSlice 32 1 #[(0, .tmp 43)], 32, .always⟩,
 ⟨some 45, .call { callee := .builtin .append, args := #[.tmp 39, .tmp 44], argTypes := #[32, 32] }, 32, .always⟩,
 ⟨some 46, .fieldAddr 51 (.tmp 7) 3, 0, .always⟩,
 ⟨none, .store 32 (.tmp 46) (.tmp 45), 0, .always⟩] [false, true, false, false, false, true, false, false, false, false] [1, 3, 6, 7, 32, 33, 34])))
 (.ops [⟨some 47, .binOp .add 3 (.tmp 34) (.const (.int .i64 1)) 3, 3, .always⟩,
 ⟨some 34, .move (.tmp 47), 3, .always⟩] [1, 3, 6, 7, 32, 33, 34])))))))
 (.seq (.ops [⟨some 48, .load 51 (.tmp 7), 51, .always⟩,
 ⟨none, .store 51 (.tmp 6) (.tmp 48), 0, .always⟩] [6])
 (.ret))))))
theorem w145 {args : List PV} {σ σ' : List Frm} {r : Ret} (hr : ∀ p, r = .val p → erV p = p) (h : wpP cfg s145 (QEndP cfg [.cell 6 51] σ' r) ⟨initEnv args, fun _ => [], σ, ⟨fun _ => false, 0⟩⟩) : CallsV cfg 145 args σ r σ' :=
 callsV_of_p follows cfgT a145 (fn := Tryz.f145) (c := Tryz.f145.body.getD .skip) (by kernel_rfl) (by kernel_rfl) (by kernel_rfl) (by kernel_rfl) (by kernel_rfl) (sc := s145) (by kernel_rfl) [.cell 6 51] (by kernel_rfl) hr h
def a122 : List Ann := [⟨[2, 3, 4], [], []⟩,
 ⟨[2, 3, 4, 5], [], []⟩,
 ⟨[2, 4, 5], [], []⟩,
 ⟨[4], [], []⟩]
def s122 : SC := .seq (.ops [⟨some 2, .box 51 (.tmp 0), 0, .always⟩,
 ⟨some 3, .box 127 (.tmp 1), 0, .always⟩,
 ⟨some 4, .alloc 51, 0, .always⟩] [2, 3, 4])
 (.seq (.ops [⟨some 5, .alloc 110, 0, .always⟩] [2, 3, 4, 5])
 (.seq (.ops [⟨some 6, .makeFunc (.func 145) #[] #[.tmp 3, .tmp 5], 110, .always⟩,
 ⟨none, .store 110 (.tmp 5) (.tmp 6), 0, .always⟩] [2, 4, 5])
 (.seq (.ops [⟨some 7, .load 110 (.tmp 5), 110, .always⟩,
 ⟨some 8, .load 51 (.tmp 2), 51, .always⟩,
 ⟨some 9, .call { callee := .value (.tmp 7), args := #[.tmp 8, .const (.int .i64 0)], argTypes := #[51, 3] }, 51, .always⟩,
 ⟨none, .store 51 (.tmp 4) (.tmp 9), 0, .always⟩] [4])
 (.ret))))
theorem w122 {args : List PV} {σ σ' : List Frm} {r : Ret} (hr : ∀ p, r = .val p → erV p = p) (h : wpP cfg s122 (QEndP cfg [.cell 4 51] σ' r) ⟨initEnv args, fun _ => [], σ, ⟨fun _ => false, 0⟩⟩) : CallsV cfg 122 args σ r σ' :=
 callsV_of_p follows cfgT a122 (fn := Tryz.f122) (c := Tryz.f122.body.getD .skip) (by kernel_rfl) (by kernel_rfl) (by kernel_rfl) (by kernel_rfl) (by kernel_rfl) (sc := s122) (by kernel_rfl) [.cell 4 51] (by kernel_rfl) hr h
def a138 : List Ann := [⟨[0, 1, 2, 3, 6], [], []⟩,
 ⟨[0, 3, 6, 11], [], []⟩,
 ⟨[0, 6], [], []⟩,
 ⟨[6], [], []⟩]
def s138 : SC := .seq (.ops [⟨some 6, .alloc 51, 0, .always⟩] [0, 1, 2, 3, 6])
 (.seq (.seq (.ops [⟨some 7, .move (.tmp 0), 3, .always⟩,
 ⟨some 8, .move (.tmp 1), 3, .always⟩,
 ⟨some 9, .binOp .sub 3 (.tmp 7) (.tmp 8) 3, 3, .always⟩,
 ⟨some 10, .load 3 (.tmp 2), 3, .always⟩,
 ⟨some 11, .binOp .geq 3 (.tmp 9) (.tmp 10) 3, 4, .always⟩] [0, 3, 6, 11])
 (.cond (.tmp 11)
 (.ops [⟨some 12, .move (.tmp 0), 3, .always⟩,
 ⟨some 13, .load 3 (.tmp 3), 3, .always⟩,
 ⟨some 14, .binOp .add 3 (.tmp 12) (.tmp 13) 3, 3, .always⟩,
 ⟨some 0, .assign (.tmp 14), 3, .always⟩] [0, 6])
 (.skip)))
 (.seq (.ops [⟨some 15, .move (.tmp 0), 3, .always⟩,
 ⟨some 16, .call { callee := .value (.func 84), args := #[.tmp 15], argTypes := #[3] }, 51, .always⟩,
 ⟨none, .store 51 (.tmp 6) (.tmp 16), 0, .always⟩] [6])
 (.ret)))
theorem w138 {args : List PV} {σ σ' : List Frm} {r : Ret} (hr : ∀ p, r = .val p → erV p = p) (h : wpP cfg s138 (QEndP cfg [.cell 6 51] σ' r) ⟨initEnv args, fun _ => [], σ, ⟨fun _ => false, 0⟩⟩) : CallsV cfg 138 args σ r σ' :=
 callsV_of_p follows cfgT a138 (fn := Tryz.f138) (c := Tryz.f138.body.getD .skip) (by kernel_rfl) (by kernel_rfl) (by kernel_rfl) (by kernel_rfl) (by kernel_rfl) (sc := s138) (by kernel_rfl) [.cell 6 51] (by kernel_rfl) hr h
def a115 : List Ann := [⟨[3, 4, 5, 6], [], []⟩,
 ⟨[6], [], []⟩]
def s115 : SC := .seq (.ops [⟨some 3, .box 51 (.tmp 0), 0, .always⟩,
 ⟨some 4, .box 3 (.tmp 1), 0, .always⟩,
 ⟨some 5, .box 3 (.tmp 2), 0, .always⟩,
 ⟨some 6, .alloc 51, 0, .always⟩] [3, 4, 5, 6])
 (.seq (.ops [⟨some 7, .load 51 (.tmp 3), 51, .always⟩,
 ⟨some 8, .makeFunc (.func 138) #[] #[.tmp 4, .tmp 5], 118, .always⟩,
 ⟨some 9, .call { callee := .value (.func 122), args := #[.tmp 7, .tmp 8], argTypes := #[51, 127] }, 51, .always⟩,
 ⟨none, .store 51 (.tmp 6) (.tmp 9), 0, .always⟩] [6])
 (.ret))
theorem w115 {args : List PV} {σ σ' : List Frm} {r : Ret} (hr : ∀ p, r = .val p → erV p = p) (h : wpP cfg s115 (QEndP cfg [.cell 6 51] σ' r) ⟨initEnv args, fun _ => [], σ, ⟨fun _ => false, 0⟩⟩) : CallsV cfg 115 args σ r σ' :=
 callsV_of_p follows cfgT a115 (fn := Tryz.f115) (c := Tryz.f115.body.getD .skip) (by kernel_rfl) (by kernel_rfl) (by kernel_rfl) (by kernel_rfl) (by kernel_rfl) (sc := s115) (by kernel_rfl) [.cell 6 51] (by kernel_rfl) hr h
def a78 : List Ann := [⟨[1, 2, 3, 6], [], []⟩,
 ⟨[1, 2, 3, 6, 8], [], []⟩,
 ⟨[1, 2, 3, 6, 8, 12], [], []⟩,
 ⟨[6, 7], [], []⟩,
 ⟨[1, 2, 3, 6, 27], [], []⟩,
 ⟨[6, 7], [], []⟩,
 ⟨[6, 7], [], []⟩]
def s78 : SC := .seq (.ops [⟨some 3, .box 51 (.tmp 0), 0, .always⟩,
 ⟨some 6, .alloc 51, 0, .always⟩,
 ⟨some 7, .assign (.const (.int .i64 0)), 43, .always⟩] [1, 2, 3, 6])
 (.seq (.seq (.ops [⟨some 9, .load 51 (.tmp 3), 51, .always⟩,
 ⟨some 10, .call { callee := .value (.func 96), args := #[.tmp 9], argTypes := #[51] }, 43, .always⟩,
 ⟨some 8, .assign (.tmp 10), 43, .always⟩] [1, 2, 3, 6, 8])
 (.seq (.ops [⟨some 11, .move (.tmp 8), 43, .always⟩,
 ⟨some 12, .binOp .neq 43 (.tmp 11) (.const (.int .i64 0)) 43, 4, .always⟩] [1, 2, 3, 6, 8, 12])
 (.cond (.tmp 12)
 (.seq (.ops [⟨some 13, .build 51 #[], 51, .always⟩,
 ⟨some 14, .move (.tmp 8), 43, .always⟩,
 ⟨none, .store 51 (.tmp 6) (.tmp 13), 0, .always⟩,
 ⟨some 7, .assign (.tmp 14), 43, .always⟩] [6, 7])
 (.ret))
 (.skip))))
 (.seq (.seq (.ops [⟨some 15, .move (.tmp 1), 3, .always⟩,
 ⟨some 16, .call { callee := .value (.func 113), args := #[.tmp 15], argTypes := #[3] }, 4, .always⟩,
 ⟨some 17, .unOp .not 4 (.tmp 16), 4, .always⟩,
 ⟨some 18, .move (.tmp 17), 4, .always⟩,
 ⟨some 19, .move (.tmp 2), 3, .tmp 18 false⟩,
 ⟨some 20, .call { callee := .value (.func 113), args := #[.tmp 19], argTypes := #[3] }, 4, .tmp 18 false⟩,
 ⟨some 21, .unOp .not 4 (.tmp 20), 4, .tmp 18 false⟩,
 ⟨some 22, .pick (.tmp 18) (.const (.bool true)) (.tmp 21), 4, .always⟩,
 ⟨some 23, .move (.tmp 22), 4, .always⟩,
 ⟨some 24, .load 51 (.tmp 3), 51, .tmp 23 false⟩,
 ⟨some 25, .call { callee := .value (.func 114), args := #[.tmp 24], argTypes := #[51] }, 4, .tmp 23 false⟩,
 ⟨some 26, .unOp .not 4 (.tmp 25), 4, .tmp 23 false⟩,
 ⟨some 27, .pick (.tmp 23) (.const (.bool true)) (.tmp 26), 4, .always⟩] [1, 2, 3, 6, 27])
 (.cond (.tmp 27)
 (.seq (.ops [⟨some 28, .build 51 #[], 51, .always⟩,
 ⟨none, .store 51 (.tmp 6) (.tmp 28), 0, .always⟩,
 ⟨some 7, .assign (.const (.int .i64 1)), 43, .always⟩] [6, 7])
 (.ret))
 (.skip)))
 (.seq (.ops [⟨some 29, .load 51 (.tmp 3), 51, .always⟩,
 ⟨some 30, .move (.tmp 1), 3, .always⟩,
 ⟨some 31, .move (.tmp 2), 3, .always⟩,
 ⟨some 32, .call { callee := .value (.func 115), args := #[.tmp 29, .tmp 30, .tmp 31], argTypes := #[51, 3, 3] }, 51, .always⟩,
 ⟨none, .store 51 (.tmp 6) (.tmp 32), 0, .always⟩,
 ⟨some 7, .assign (.const (.int .i64 0)), 43, .always⟩] [6, 7])
 (.ret))))
theorem w78 {args : List PV} {σ σ' : List Frm} {r : Ret} (hr : ∀ p, r = .val p → erV p = p) (h : wpP cfg s78 (QEndP cfg [.cell 6 51, .tmp 7] σ' r) ⟨initEnv args, fun _ => [], σ, ⟨fun _ => false, 0⟩⟩) : CallsV cfg 78 args σ r σ' :=
 callsV_of_p follows cfgT a78 (fn := Tryz.f78) (c := Tryz.f78.body.getD .skip) (by kernel_rfl) (by kernel_rfl) (by kernel_rfl) (by kernel_rfl) (by kernel_rfl) (sc := s78) (by kernel_rfl) [.cell 6 51, .tmp 7] (by kernel_rfl) hr h
def a80 : List Ann := [⟨[0, 4, 5, 6], [], []⟩,
 ⟨[6], [], []⟩]
def s80 : SC := .seq (.ops [⟨some 4, .box 30 (.tmp 1), 0, .always⟩,
 ⟨some 5, .box 35 (.tmp 2), 0, .always⟩,
 ⟨some 6, .alloc 35, 0, .always⟩] [0, 4, 5, 6])
 (.seq (.ops [⟨some 7, .move (.tmp 0), 3, .always⟩,
 ⟨some 8, .load 30 (.tmp 4), 30, .always⟩,
 ⟨some 9, .load 35 (.tmp 5), 35, .always⟩,
 ⟨some 10, .buildSlice 33 1 #[(0, .tmp 9)], 33, .always⟩,
 ⟨some 11, .build 35 #[(0, .tmp 7), (1, .tmp 8), (3, .tmp 10)], 35, .always⟩,
 ⟨none, .store 35 (.tmp 6) (.tmp 11), 0, .always⟩] [6])
 (.ret))
theorem w80 {args : List PV} {σ σ' : List Frm} {r : Ret} (hr : ∀ p, r = .val p → erV p = p) (h : wpP cfg s80 (QEndP cfg [.cell 6 35] σ' r) ⟨initEnv args, fun _ => [], σ, ⟨fun _ => false, 0⟩⟩) : CallsV cfg 80 args σ r σ' :=
 callsV_of_p follows cfgT a80 (fn := Tryz.f80) (c := Tryz.f80.body.getD .skip) (by kernel_rfl) (by kernel_rfl) (by kernel_rfl) (by kernel_rfl) (by kernel_rfl) (sc := s80) (by kernel_rfl) [.cell 6 35] (by kernel_rfl) hr h
def a82 : List Ann := [⟨[0, 1, 4], [], []⟩,
 ⟨[4], [], []⟩]
def s82 : SC := .seq (.ops [⟨some 4, .alloc 35, 0, .always⟩] [0, 1, 4])
 (.seq (.ops [⟨some 5, .move (.tmp 0), 3, .always⟩,
 ⟨some 6, .move (.tmp 1), 33, .always⟩,
 ⟨some 7, .build 35 #[(0, .tmp 5), (3, .tmp 6)], 35, .always⟩,
 ⟨none, .store 35 (.tmp 4) (.tmp 7), 0, .always⟩] [4])
 (.ret))
theorem w82 {args : List PV} {σ σ' : List Frm} {r : Ret} (hr : ∀ p, r = .val p → erV p = p) (h : wpP cfg s82 (QEndP cfg [.cell 4 35] σ' r) ⟨initEnv args, fun _ => [], σ, ⟨fun _ => false, 0⟩⟩) : CallsV cfg 82 args σ r σ' :=
 callsV_of_p follows cfgT a82 (fn := Tryz.f82) (c := Tryz.f82.body.getD .skip) (by kernel_rfl) (by kernel_rfl) (by kernel_rfl) (by kernel_rfl) (by kernel_rfl) (sc := s82) (by kernel_rfl) [.cell 4 35] (by kernel_rfl) hr h
def a29 : List Ann := [⟨[0, 4, 5, 6], [], []⟩,
 ⟨[0, 5, 6, 8, 9], [], []⟩,
 ⟨[0, 5, 6, 8, 9, 20], [], []⟩,
 ⟨[6, 7], [], []⟩,
 ⟨[0, 5, 6, 8, 10], [], []⟩,
 ⟨[0, 5, 6, 8, 10, 26], [], []⟩,
 ⟨[6, 7], [], []⟩,
 ⟨[5, 6, 8, 11, 12], [], []⟩,
 ⟨[6, 13], [0, 0, 0, 2, 0, 26, 0, 122, 250, 510, 1023, 0, 4095], [false, true, false, true, true, true, true, true, false, true, true, true, false]⟩,
 ⟨[6, 13, 47], [], []⟩,
 ⟨[6, 7], [], []⟩,
 ⟨[6, 7], [], []⟩]
def s29 : SC := .seq (.ops [⟨some 4, .box 51 (.tmp 1), 0, .always⟩,
 ⟨some 5, .box 35 (.tmp 2), 0, .always⟩,
 ⟨some 6, .alloc 35, 0, .always⟩,
 ⟨some 7, .assign (.const (.int .i64 0)), 43, .always⟩] [0, 4, 5, 6])
 (.seq (.ops [⟨some 15, .load 51 (.tmp 4), 51, .always⟩,
 ⟨some 16, .call { callee := .value (.func 78), args := #[.tmp 15, .const (.int .i64 0), .const (.int .i64 1)], argTypes := #[51, 3, 3] }, 95, .always⟩,
 ⟨some 14, .move (.tmp 16), 95, .always⟩,
 ⟨some 17, .extract (.tmp 14) 0, 51, .always⟩,
 ⟨some 18, .extract (.tmp 14) 1, 43, .always⟩,
 ⟨some 8, .alloc 51, 0, .always⟩,
 ⟨none, .store 51 (.tmp 8) (.tmp 17), 0, .always⟩,
 ⟨some 9, .assign (.tmp 18), 43, .always⟩] [0, 5, 6, 8, 9])
 (.seq (.seq (.ops [⟨some 19, .move (.tmp 9), 43, .always⟩,
 ⟨some 20, .binOp .neq 43 (.tmp 19) (.const (.int .i64 0)) 43, 4, .always⟩] [0, 5, 6, 8, 9, 20])
 (.cond (.tmp 20)
 (.seq (.ops [⟨some 21, .build 35 #[], 35, .always⟩,
 ⟨some 22, .move (.tmp 9), 43, .always⟩,
 ⟨none, .store 35 (.tmp 6) (.tmp 21), 0, .always⟩,
 ⟨some 7, .assign (.tmp 22), 43, .always⟩] [6, 7])
 (.ret))
 (.skip)))
 (.seq (.seq (.ops [⟨some 23, .load 35 (.tmp 5), 35, .always⟩,
 ⟨some 24, .call { callee := .value (.func 54), args := #[.tmp 23], argTypes := #[35] }, 43, .always⟩,
 ⟨some 10, .assign (.tmp 24), 43, .always⟩] [0, 5, 6, 8, 10])
 (.seq (.ops [⟨some 25, .move (.tmp 10), 43, .always⟩,
 ⟨some 26, .binOp .neq 43 (.tmp 25) (.const (.int .i64 0)) 43, 4, .always⟩] [0, 5, 6, 8, 10, 26])
 (.cond (.tmp 26)
 (.seq (.ops [⟨some 27, .build 35 #[], 35, .always⟩,
 ⟨some 28, .move (.tmp 10), 43, .always⟩,
 ⟨none, .store 35 (.tmp 6) (.tmp 27), 0, .always⟩,
 ⟨some 7, .assign (.tmp 28), 43, .always⟩] [6, 7])
 (.ret))
 (.skip))))
 (.seq (.ops [⟨some 30, .move (.tmp 0), 4, .always⟩,
 ⟨some 31, .call { callee := .value (.func 79), args := #[.tmp 30], argTypes := #[4] }, 97, .always⟩,
 ⟨some 29, .move (.tmp 31), 97, .always⟩,
 ⟨some 32, .extract (.tmp 29) 0, 3, .always⟩,
 ⟨some 33, .extract (.tmp 29) 1, 3, .always⟩,
 ⟨some 11, .assign (.tmp 32), 3, .always⟩,
 ⟨some 12, .assign (.tmp 33), 3, .always⟩] [5, 6, 8, 11, 12])
 (.seq (.draw [⟨some 34, .move (.tmp 11), 3, .always⟩,
 ⟨some 35, .call { callee := .value (.func 81), args := #[], argTypes := #[] }, 30, .always⟩,
 ⟨some 36, .move (.tmp 12), 3, .always⟩,
 ⟨some 37, .call { callee := .value (.func 84), args := #[.const (.int .i64 0)], argTypes := #[3] }, 51, .always⟩,
 ⟨some 38, .load 51 (.tmp 8), 51, .always⟩,
 ⟨some 39, .call { callee := .value (.func 83), args := #[.tmp 37, .tmp 38], argTypes := #[51, 51] }, 35, .always⟩,
 ⟨some 40, .load 35 (.tmp 5), 35, .always⟩,
 ⟨some 41, .call { callee := .value (.func 58), args := #[.tmp 40], argTypes := #[35] }, 35, .always⟩,
 ⟨some 42, .buildSlice 33 2 #[(0, .tmp 39), (1, .tmp 41)], 33, .always⟩,
 ⟨some 43, .call { callee := .value (.func 82), args := #[.tmp 36, .tmp 42], argTypes := #[3, 33] }, 35, .always⟩,
 ⟨some 44, .call { callee := .value (.func 80), args := #[.tmp 34, .tmp 35, .tmp 43], argTypes := #[3, 30, 35] }, 35, .always⟩,
 ⟨some 13, .alloc 35, 0, .always⟩,
 ⟨none, .store 35 (.tmp 13) (.tmp 44), 0, .always⟩] [false, true, false, true, true, true, true, true, false, true, true, true, false] [6, 13])
 (.seq (.seq (.ops [⟨some 45, .load 35 (.tmp 13), 35, .always⟩,
 ⟨some 46, .call { callee := .value (.func 54), args := #[.tmp 45], argTypes := #[35] }, 43, .always⟩,
 ⟨some 47, .binOp .neq 43 (.tmp 46) (.const (.int .i64 0)) 43, 4, .always⟩] [6, 13, 47])
 (.cond (.tmp 47)
 (.seq (.ops [⟨some 48, .build 35 #[], 35, .always⟩,
 ⟨none, .store 35 (.tmp 6) (.tmp 48), 0, .always⟩,
 ⟨some 7, .assign (.const (.int .i64 4)), 43, .always⟩] [6, 7])
 (.ret))
 (.skip)))
 (.seq (.ops [⟨some 49, .load 35 (.tmp 13), 35, .always⟩,
 ⟨none, .store 35 (.tmp 6) (.tmp 49), 0, .always⟩,
 ⟨some 7, .assign (.const (.int .i64 0)), 43, .always⟩] [6, 7])
 (.ret))))))))
theorem w29 {args : List PV} {σ σ' : List Frm} {r : Ret} (hr : ∀ p, r = .val p → erV p = p) (h : wpP cfg s29 (QEndP cfg [.cell 6 35, .tmp 7] σ' r) ⟨initEnv args, fun _ => [], σ, ⟨fun _ => false, 0⟩⟩) : CallsV cfg 29 args σ r σ' :=
 callsV_of_p follows cfgT a29 (fn := Tryz.f29) (c := Tryz.f29.body.getD .skip) (by kernel_rfl) (by kernel_rfl) (by kernel_rfl) (by kernel_rfl) (by kernel_rfl) (sc := s29) (by kernel_rfl) [.cell 6 35, .tmp 7] (by kernel_rfl) hr h
def a123 : List Ann := [⟨[0, 1, 2, 3, 6], [], []⟩,
 ⟨[0, 1, 2, 3, 6, 7], [], []⟩,
 ⟨[0, 1, 2, 3, 6, 7, 11], [], []⟩,
 ⟨[6], [], []⟩,
 ⟨[0, 6, 20], [], []⟩,
 ⟨[6], [], []⟩,
 ⟨[6], [], []⟩]
def s123 : SC := .seq (.ops [⟨some 6, .alloc 51, 0, .always⟩] [0, 1, 2, 3, 6])
 (.seq (.seq (.ops [⟨some 8, .move (.tmp 0), 3, .always⟩,
 ⟨some 9, .move (.tmp 1), 3, .always⟩,
 ⟨some 10, .binOp .sub 3 (.tmp 8) (.tmp 9) 3, 3, .always⟩,
 ⟨some 7, .assign (.tmp 10), 3, .always⟩] [0, 1, 2, 3, 6, 7])
 (.block 0
 (.seq (.ops [⟨some 12, .move (.tmp 7), 3, .always⟩,
 ⟨some 13, .load 3 (.tmp 2), 3, .always⟩,
 ⟨some 14, .binOp .eql 3 (.tmp 12) (.tmp 13) 3, 4, .always⟩,
 ⟨some 11, .assign (.tmp 14), 4, .always⟩] [0, 1, 2, 3, 6, 7, 11])
 (.cond (.tmp 11)
 (.seq (.ops [⟨some 15, .load 51 (.tmp 3), 51, .always⟩,
 ⟨some 16, .load 3 (.tmp 2), 3, .always⟩,
 ⟨some 17, .move (.tmp 1), 3, .always⟩,
 ⟨some 18, .binOp .add 3 (.tmp 16) (.tmp 17) 3, 3, .always⟩,
 ⟨some 19, .call { callee := .value (.func 115), args := #[.tmp 15, .const (.int .i64 0), .tmp 18], argTypes := #[51, 3, 3] }, 51, .always⟩,
 ⟨none, .store 51 (.tmp 6) (.tmp 19), 0, .always⟩] [6])
 (.ret))
 (.seq (.ops [⟨some 21, .move (.tmp 7), 3, .always⟩,
 ⟨some 22, .load 3 (.tmp 2), 3, .always⟩,
 ⟨some 23, .binOp .gtr 3 (.tmp 21) (.tmp 22) 3, 4, .always⟩,
 ⟨some 20, .assign (.tmp 23), 4, .always⟩] [0, 6, 20])
 (.cond (.tmp 20)
 (.seq (.ops [⟨some 24, .move (.tmp 0), 3, .always⟩,
 ⟨some 25, .binOp .sub 3 (.tmp 24) (.const (.int .i64 1)) 3, 3, .always⟩,
 ⟨some 26, .call { callee := .value (.func 84), args := #[.tmp 25], argTypes := #[3] }, 51, .always⟩,
 ⟨none, .store 51 (.tmp 6) (.tmp 26), 0, .always⟩] [6])
 (.ret))
 (.skip)))))))
 (.seq (.ops [⟨some 27, .move (.tmp 0), 3, .always⟩,
 ⟨some 28, .call { callee := .value (.func 84), args := #[.tmp 27], argTypes := #[3] }, 51, .always⟩,
 ⟨none, .store 51 (.tmp 6) (.tmp 28), 0, .always⟩] [6])
 (.ret)))
theorem w123 {args : List PV} {σ σ' : List Frm} {r : Ret} (hr : ∀ p, r = .val p → erV p = p) (h : wpP cfg s123 (QEndP cfg [.cell 6 51] σ' r) ⟨initEnv args, fun _ => [], σ, ⟨fun _ => false, 0⟩⟩) : CallsV cfg 123 args σ r σ' :=
 callsV_of_p follows cfgT a123 (fn := Tryz.f123) (c := Tryz.f123.body.getD .skip) (by kernel_rfl) (by kernel_rfl) (by kernel_rfl) (by kernel_rfl) (by kernel_rfl) (sc := s123) (by kernel_rfl) [.cell 6 51] (by kernel_rfl) hr h
def a86 : List Ann := [⟨[3, 4, 5, 6], [], []⟩,
 ⟨[6], [], []⟩]
def s86 : SC := .seq (.ops [⟨some 3, .box 51 (.tmp 0), 0, .always⟩,
 ⟨some 4, .box 3 (.tmp 1), 0, .always⟩,
 ⟨some 5, .box 51 (.tmp 2), 0, .always⟩,
 ⟨some 6, .alloc 51, 0, .always⟩] [3, 4, 5, 6])
 (.seq (.ops [⟨some 7, .load 51 (.tmp 3), 51, .always⟩,
 ⟨some 8, .makeFunc (.func 123) #[] #[.tmp 4, .tmp 5], 118, .always⟩,
 ⟨some 9, .call { callee := .value (.func 122), args := #[.tmp 7, .tmp 8], argTypes := #[51, 127] }, 51, .always⟩,
 ⟨none, .store 51 (.tmp 6) (.tmp 9), 0, .always⟩] [6])
 (.ret))
theorem w86 {args : List PV} {σ σ' : List Frm} {r : Ret} (hr : ∀ p, r = .val p → erV p = p) (h : wpP cfg s86 (QEndP cfg [.cell 6 51] σ' r) ⟨initEnv args, fun _ => [], σ, ⟨fun _ => false, 0⟩⟩) : CallsV cfg 86 args σ r σ' :=
 callsV_of_p follows cfgT a86 (fn := Tryz.f86) (c := Tryz.f86.body.getD .skip) (by kernel_rfl) (by kernel_rfl) (by kernel_rfl) (by kernel_rfl) (by kernel_rfl) (sc := s86) (by kernel_rfl) [.cell 6 51] (by kernel_rfl) hr h
def a30 : List Ann := [⟨[1, 3, 4], [], []⟩,
 ⟨[1, 3, 4, 12], [], []⟩,
 ⟨[2, 3, 4, 5], [], []⟩,
 ⟨[3, 4, 6, 7, 8, 9], [], []⟩,
 ⟨[3, 4, 6, 7, 8, 23], [], []⟩,
 ⟨[2, 3, 4, 5], [], []⟩,
 ⟨[2, 3, 4, 5], [0, 0, 0, 6, 0, 30, 63, 127, 255, 511], [false, false, false, true, true, false, false, false, false, false]⟩]
def s30 : SC := .seq (.ops [⟨some 1, .box 35 (.tmp 0), 0, .always⟩,
 ⟨some 2, .assign (.const (.bool false)), 4, .always⟩,
 ⟨some 3, .alloc 51, 0, .always⟩,
 ⟨some 4, .alloc 35, 0, .always⟩,
 ⟨some 5, .assign (.const (.bool false)), 4, .always⟩] [1, 3, 4])
 (.seq (.seq (.ops [⟨some 10, .load 35 (.tmp 1), 35, .always⟩,
 ⟨some 11, .call { callee := .value (.func 54), args := #[.tmp 10], argTypes := #[35] }, 43, .always⟩,
 ⟨some 12, .binOp .neq 43 (.tmp 11) (.const (.int .i64 0)) 43, 4, .always⟩] [1, 3, 4, 12])
 (.cond (.tmp 12)
 (.seq (.ops [⟨some 13, .build 51 #[], 51, .always⟩,
 ⟨some 14, .build 35 #[], 35, .always⟩,
 ⟨some 2, .assign (.const (.bool false)), 4, .always⟩,
 ⟨none, .store 51 (.tmp 3) (.tmp 13), 0, .always⟩,
 ⟨none, .store 35 (.tmp 4) (.tmp 14), 0, .always⟩,
 ⟨some 5, .assign (.const (.bool false)), 4, .always⟩] [2, 3, 4, 5])
 (.ret))
 (.skip)))
 (.seq (.ops [⟨some 16, .load 35 (.tmp 1), 35, .always⟩,
 ⟨some 17, .call { callee := .value (.func 85), args := #[.tmp 16], argTypes := #[35] }, 58, .always⟩,
 ⟨some 15, .move (.tmp 17), 58, .always⟩,
 ⟨some 18, .extract (.tmp 15) 0, 4, .always⟩,
 ⟨some 19, .extract (.tmp 15) 1, 51, .always⟩,
 ⟨some 20, .extract (.tmp 15) 2, 35, .always⟩,
 ⟨some 21, .extract (.tmp 15) 3, 4, .always⟩,
 ⟨some 7, .alloc 51, 0, .always⟩,
 ⟨some 8, .alloc 35, 0, .always⟩,
 ⟨some 6, .assign (.tmp 18), 4, .always⟩,
 ⟨none, .store 51 (.tmp 7) (.tmp 19), 0, .always⟩,
 ⟨none, .store 35 (.tmp 8) (.tmp 20), 0, .always⟩,
 ⟨some 9, .assign (.tmp 21), 4, .always⟩] [3, 4, 6, 7, 8, 9])
 (.seq (.seq (.ops [⟨some 22, .move (.tmp 9), 4, .always⟩,
 ⟨some 23, .unOp .not 4 (.tmp 22), 4, .always⟩] [3, 4, 6, 7, 8, 23])
 (.cond (.tmp 23)
 (.seq (.ops [⟨some 24, .build 51 #[], 51, .always⟩,
 ⟨some 25, .build 35 #[], 35, .always⟩,
 ⟨some 2, .assign (.const (.bool false)), 4, .always⟩,
 ⟨none, .store 51 (.tmp 3) (.tmp 24), 0, .always⟩,
 ⟨none, .store 35 (.tmp 4) (.tmp 25), 0, .always⟩,
 ⟨some 5, .assign (.const (.bool false)), 4, .always⟩] [2, 3, 4, 5])
 (.ret))
 (.skip)))
 (.seq (.draw [⟨some 26, .move (.tmp 6), 4, .always⟩,
 ⟨some 27, .load 51 (.tmp 7), 51, .always⟩,
 ⟨some 28, .build 51 #[], 51, .always⟩,
 ⟨some 29, .call { callee := .value (.func 86), args := #[.tmp 27, .const (.int .i64 0), .tmp 28], argTypes := #[51, 3, 51] }, 51, .always⟩,
 ⟨some 30, .load 35 (.tmp 8), 35, .always⟩,
 ⟨some 31, .call { callee := .value (.func 58), args := #[.tmp 30], argTypes := #[35] }, 35, .always⟩,
 ⟨some 2, .assign (.tmp 26), 4, .always⟩,
 ⟨none, .store 51 (.tmp 3) (.tmp 29), 0, .always⟩,
 ⟨none, .store 35 (.tmp 4) (.tmp 31), 0, .always⟩,
 ⟨some 5, .assign (.const (.bool true)), 4, .always⟩] [false, false, false, true, true, false, false, false, false, false] [2, 3, 4, 5])
 (.ret)))))
theorem w30 {args : List PV} {σ σ' : List Frm} {r : Ret} (hr : ∀ p, r = .val p → erV p = p) (h : wpP cfg s30 (QEndP cfg [.tmp 2, .cell 3 51, .cell 4 35, .tmp 5] σ' r) ⟨initEnv args, fun _ => [], σ, ⟨fun _ => false, 0⟩⟩) : CallsV cfg 30 args σ r σ' :=
 callsV_of_p follows cfgT a30 (fn := Tryz.f30) (c := Tryz.f30.body.getD .skip) (by kernel_rfl) (by kernel_rfl) (by kernel_rfl) (by kernel_rfl) (by kernel_rfl) (sc := s30) (by kernel_rfl) [.tmp 2, .cell 3 51, .cell 4 35, .tmp 5] (by kernel_rfl) hr h
def a87 : List Ann := [⟨[0], [], []⟩,
 ⟨[0, 8], [], []⟩,
 ⟨[2], [], []⟩,
 ⟨[9, 10, 11], [], []⟩,
 ⟨[9, 10, 11, 12], [], []⟩,
 ⟨[4, 9, 10, 11], [], []⟩,
 ⟨[5, 9, 10, 11], [], []⟩,
 ⟨[5, 9, 10, 11, 18], [], []⟩,
 ⟨[2], [], []⟩,
 ⟨[9, 10, 11], [], []⟩,
 ⟨[2], [], []⟩]
def s87 : SC := .seq (.ops [⟨some 2, .assign (.const (.int .i64 0)), 43, .always⟩] [0])
 (.seq (.seq (.ops [⟨some 6, .move (.tmp 0), 27, .always⟩,
 ⟨some 7, .call { callee := .builtin .len, args := #[.tmp 6], argTypes := #[27] }, 3, .always⟩,
 ⟨some 8, .binOp .gtr 3 (.tmp 7) (.const (.int .i64 16)) 3, 4, .always⟩] [0, 8])
 (.cond (.tmp 8)
 (.seq (.ops [⟨some 2, .assign (.const (.int .i64 3)), 43, .always⟩] [2])
 (.ret))
 (.skip)))
 (.seq (.seq (.ops [⟨some 9, .move (.tmp 0), 27, .always⟩,
 ⟨some 10, .call { callee := .builtin .len, args := #[.tmp 9], argTypes := #[27] }, 3, .always⟩,
 ⟨some 11, .move (.const (.int .i64 0)), 3, .always⟩] [9, 10, 11])
 (.block 0
 (.loop
 (.seq (.ops [⟨some 12, .binOp .lss 3 (.tmp 11) (.tmp 10) 3, 0, .always⟩] [9, 10, 11, 12])
 (.seq (.cond (.tmp 12)
 (.skip)
 (.exit 0))
 (.seq (.block 1
 (.seq (.ops [⟨some 13, .indexAddr 27 (.tmp 9) (.tmp 11), 0, .always⟩,
 ⟨some 14, .load 30 (.tmp 13), 30, .always⟩,
 ⟨some 4, .alloc 30, 0, .always⟩,
 ⟨none, .store 30 (.tmp 4) (.tmp 14), 0, .always⟩] [4, 9, 10, 11])
 (.seq (.ops [⟨some 15, .load 30 (.tmp 4), 30, .always⟩,
 ⟨some 16, .call { callee := .value (.func 124), args := #[.tmp 15], argTypes := #[30] }, 43, .always⟩,
 ⟨some 5, .assign (.tmp 16), 43, .always⟩] [5, 9, 10, 11])
 (.seq (.ops [⟨some 17, .move (.tmp 5), 43, .always⟩,
 ⟨some 18, .binOp .neq 43 (.tmp 17) (.const (.int .i64 0)) 43, 4, .always⟩] [5, 9, 10, 11, 18])
 (.cond (.tmp 18)
 (.seq (.ops [⟨some 19, .move (.tmp 5), 43, .always⟩,
 ⟨some 2, .assign (.tmp 19), 43, .always⟩] [2])
 (.ret))
 (.skip))))))
 (.ops [⟨some 20, .binOp .add 3 (.tmp 11) (.const (.int .i64 1)) 3, 3, .always⟩,
 ⟨some 11, .move (.tmp 20), 3, .always⟩] [9, 10, 11])))))))
 (.seq (.ops [⟨some 2, .assign (.const (.int .i64 0)), 43, .always⟩] [2])
 (.ret))))
theorem w87 {args : List PV} {σ σ' : List Frm} {r : Ret} (hr : ∀ p, r = .val p → erV p = p) (h : wpP cfg s87 (QEndP cfg [.tmp 2] σ' r) ⟨initEnv args, fun _ => [], σ, ⟨fun _ => false, 0⟩⟩) : CallsV cfg 87 args σ r σ' :=
 callsV_of_p follows cfgT a87 (fn := Tryz.f87) (c := Tryz.f87.body.getD .skip) (by kernel_rfl) (by kernel_rfl) (by kernel_rfl) (by kernel_rfl) (by kernel_rfl) (sc := s87) (by kernel_rfl) [.tmp 2] (by kernel_rfl) hr h
def a159 : List Ann := [⟨[1, 2], [], []⟩,
 ⟨[1, 2, 6], [], []⟩,
 ⟨[2, 3], [], []⟩,
 ⟨[2, 3], [], []⟩]
def s159 : SC := .seq (.ops [⟨some 1, .box 30 (.tmp 0), 0, .always⟩,
 ⟨some 2, .alloc 30, 0, .always⟩,
 ⟨some 3, .assign (.const (.int .i64 0)), 43, .always⟩] [1, 2])
 (.seq (.seq (.ops [⟨some 4, .load 30 (.tmp 1), 30, .always⟩,
 ⟨some 5, .call { callee := .value (.func 124), args := #[.tmp 4], argTypes := #[30] }, 43, .always⟩,
 ⟨some 6, .binOp .neq 43 (.tmp 5) (.const (.int .i64 0)) 43, 4, .always⟩] [1, 2, 6])
 (.cond (.tmp 6)
 (.seq (.ops [⟨some 7, .build 30 #[], 30, .always⟩,
 ⟨none, .store 30 (.tmp 2) (.tmp 7), 0, .always⟩,
 ⟨some 3, .assign (.const (.int .i64 4)), 43, .always⟩] [2, 3])
 (.ret))
 (.skip)))
 (.seq (.ops [⟨some 8, .load 30 (.tmp 1), 30, .always⟩,
 ⟨none, .store 30 (.tmp 2) (.tmp 8), 0, .always⟩,
 ⟨some 3, .assign (.const (.int .i64 0)), 43, .always⟩] [2, 3])
 (.ret)))
theorem w159 {args : List PV} {σ σ' : List Frm} {r : Ret} (hr : ∀ p, r = .val p → erV p = p) (h : wpP cfg s159 (QEndP cfg [.cell 2 30, .tmp 3] σ' r) ⟨initEnv args, fun _ => [], σ, ⟨fun _ => false, 0⟩⟩) : CallsV cfg 159 args σ r σ' :=
 callsV_of_p follows cfgT a159 (fn := Tryz.f159) (c := Tryz.f159.body.getD .skip) (by kernel_rfl) (by kernel_rfl) (by kernel_rfl) (by kernel_rfl) (by kernel_rfl) (sc := s159) (by kernel_rfl) [.cell 2 30, .tmp 3] (by kernel_rfl) hr h
def a154 : List Ann := [⟨[0, 3, 4], [], []⟩,
 ⟨[0, 3, 4, 17], [], []⟩,
 ⟨[0, 3, 4, 22], [], []⟩,
 ⟨[4, 5], [], []⟩,
 ⟨[4, 5], [], []⟩,
 ⟨[0, 3, 4, 36], [], []⟩,
 ⟨[3, 4, 6, 7], [0, 0, 2, 0, 8, 31, 0, 64, 192, 511, 0, 1024, 3072, 7168, 16383, 32767, 65535, 65535, 0, 393215, 1048575], [false, false, false, false, false, false, false, false, false, true, false, true, false, true, true, false, false, false, true, false, false]⟩,
 ⟨[3, 4, 6, 7, 56], [], []⟩,
 ⟨[4, 5], [], []⟩,
 ⟨[4, 5], [], []⟩,
 ⟨[0, 3, 4, 8], [], []⟩,
 ⟨[0, 3, 4, 8, 67, 68, 69], [], []⟩,
 ⟨[0, 3, 4, 8, 67, 68, 69, 70], [], []⟩,
 ⟨[0, 3, 4, 8, 10, 67, 68, 69], [], []⟩,
 ⟨[0, 3, 4, 8, 11, 12, 67, 68, 69], [], []⟩,
 ⟨[0, 3, 4, 8, 11, 12, 67, 68, 69, 80], [], []⟩,
 ⟨[4, 5], [], []⟩,
 ⟨[0, 3, 4, 8, 67, 68, 69], [], []⟩,
 ⟨[0, 3, 4, 8, 67, 68, 69], [], []⟩,
 ⟨[3, 4, 8, 13, 14], [], []⟩,
 ⟨[3, 4, 8, 13, 14, 91], [], []⟩,
 ⟨[3, 4, 8, 13, 14, 91, 92], [], []⟩,
 ⟨[4, 8, 111], [0, 1, 3, 7, 15, 31, 63, 127, 255, 511, 1023, 2047, 63, 4159, 12351, 32767, 65535, 131071], [false, false, false, false, false, false, false, false, false, false, false, false, false, false, false, false, false, false]⟩,
 ⟨[4, 5], [], []⟩,
 ⟨[4, 5], [], []⟩,
 ⟨[3, 4, 8, 13, 14, 91, 119], [], []⟩,
 ⟨[4, 5], [], []⟩,
 ⟨[3, 4, 8, 13, 14, 91, 122], [], []⟩,
 ⟨[4, 13, 129], [0, 1, 3, 0, 15, 31], [false, false, false, false, false, false]⟩,
 ⟨[4, 5], [], []⟩,
 ⟨[4, 5], [], []⟩,
 ⟨[3, 4, 8, 13, 14, 91, 132], [], []⟩,
 ⟨[3, 4, 162], [0, 1, 3, 0, 8, 31, 63, 127, 255, 511, 1023, 255, 255, 4351, 255, 16639, 61695, 129279, 262143, 524287, 1048575, 2097151, 4194303, 8388607, 16777215, 4194303, 67108863, 134217727, 268435455], [false, false, false, false, false, false, false, false, false, false, true, true, false, false, false, false, true, true, false, false, false, false, false, false, false, false, false, false, false]⟩,
 ⟨[4, 5], [], []⟩,
 ⟨[4, 5], [], []⟩,
 ⟨[3, 4, 8, 13, 14, 91, 167], [], []⟩,
 ⟨[4, 5], [], []⟩,
 ⟨[3, 4, 8, 13, 14, 91, 170], [], []⟩,
 ⟨[4, 14, 185], [0, 1, 3, 0, 15, 31, 63, 127, 255, 511, 127, 2047, 4095, 8191], [false, false, false, false, false, false, false, false, false, false, false, false, false, false]⟩,
 ⟨[4, 5], [], []⟩,
 ⟨[4, 5], [], []⟩,
 ⟨[3, 4, 8, 13, 14, 91, 188], [], []⟩,
 ⟨[3, 4, 220], [0, 1, 3, 0, 8, 31, 63, 127, 255, 511, 1023, 255, 255, 255, 8447, 255, 33023, 123135, 258303, 522495, 1048575, 2097151, 4194303, 8388607, 16777215, 33554431, 67108863, 16777215, 268435455, 536870911, 1073741823], [false, false, false, false, false, false, false, false, false, false, true, true, true, false, false, false, false, true, true, true, false, false, false, false, false, false, false, false, false, false, false]⟩,
 ⟨[4, 5], [], []⟩,
 ⟨[4, 5], [], []⟩,
 ⟨[3, 4, 8, 91, 225], [], []⟩,
 ⟨[4, 5], [0, 1, 3, 0, 8, 24, 63, 127, 255, 255, 1023, 2047], [false, false, false, false, false, false, false, false, false, false, false, false]⟩,
 ⟨[3, 4, 8, 91, 237], [], []⟩,
 ⟨[3, 4, 8, 237], [], []⟩,
 ⟨[3, 4, 8, 244], [], []⟩,
 ⟨[4, 5], [], []⟩,
 ⟨[4, 8, 248], [], []⟩,
 ⟨[4, 5], [], []⟩,
 ⟨[4, 5], [], []⟩,
 ⟨[4, 5], [], []⟩]
def s154 : SC := .seq (.ops [⟨some 3, .box 51 (.tmp 1), 0, .always⟩,
 ⟨some 4, .alloc 30, 0, .always⟩,
 ⟨some 5, .assign (.const (.int .i64 0)), 43, .always⟩] [0, 3, 4])
 (.seq (.seq (.ops [⟨some 15, .fieldAddr 51 (.tmp 3) 0, 0, .always⟩,
 ⟨some 16, .load 3 (.tmp 15), 3, .always⟩,
 ⟨some 17, .binOp .eql 3 (.tmp 16) (.const (.int .i64 1)) 3, 4, .always⟩] [0, 3, 4, 17])
 (.cond (.tmp 17)
 (.seq (.seq (.ops [⟨some 18, .fieldAddr 51 (.tmp 3) 1, 0, .always⟩,
 ⟨some 19, .load 3 (.tmp 18), 3, .always⟩,
 ⟨some 20, .move (.tmp 0), 27, .always⟩,
 ⟨some 21, .call { callee := .builtin .len, args := #[.tmp 20], argTypes := #[27] }, 3, .always⟩,
 ⟨some 22, .binOp .geq 3 (.tmp 19) (.tmp 21) 3, 4, .always⟩] [0, 3, 4, 22])
 (.cond (.tmp 22)
 (.seq (.ops [⟨some 23, .build 30 #[], 30, .always⟩,
 ⟨none, .store 30 (.tmp 4) (.tmp 23), 0, .always⟩,
 ⟨some 5, .assign (.const (.int .i64 6)), 43, .always⟩] [4, 5])
 (.ret))
 (.skip)))
 (.seq (.ops [⟨some 24, .move (.tmp 0), 27, .always⟩,
 ⟨some 25, .move (.tmp 0), 27, .always⟩,
 ⟨some 26, .call { callee := .builtin .len, args := #[.tmp 25], argTypes := #[27] }, 3, .always⟩,
 ⟨some 27, .binOp .sub 3 (.tmp 26) (.const (.int .i64 1)) 3, 3, .always⟩,
 ⟨some 28, .fieldAddr 51 (.tmp 3) 1, 0, .always⟩,
 ⟨some 29, .load 3 (.tmp 28), 3, .always⟩,
 ⟨some 30, .binOp .sub 3 (.tmp 27) (.tmp 29) 3, 3, .always⟩,
 ⟨some 31, .indexAddr 27 (.tmp 24) (.tmp 30), 0, .always⟩,
 ⟨some 32, .load 30 (.tmp 31), 30, .always⟩,
 ⟨some 33, .call { callee := .value (.func 52), args := #[.tmp 32], argTypes := #[30] }, 30, .always⟩,
 ⟨none, .store 30 (.tmp 4) (.tmp 33), 0, .always⟩,
 ⟨some 5, .assign (.const (.int .i64 0)), 43, .always⟩] [4, 5])
 (.ret)))
 (.skip)))
 (.seq (.seq (.ops [⟨some 34, .fieldAddr 51 (.tmp 3) 0, 0, .always⟩,
 ⟨some 35, .load 3 (.tmp 34), 3, .always⟩,
 ⟨some 36, .binOp .eql 3 (.tmp 35) (.const (.int .i64 2)) 3, 4, .always⟩] [0, 3, 4, 36])
 (.cond (.tmp 36)
 (.seq (.draw [⟨some 38, .move (.tmp 0), 27, .always⟩,
 ⟨some 39, .move (.tmp 0), 27, .always⟩,
 ⟨some 40, .call { callee := .builtin .len, args := #[.tmp 39], argTypes := #[27] }, 3, .always⟩,
 ⟨some 41, .move (.tmp 0), 27, .always⟩,
 ⟨some 42, .call { callee := .builtin .len, args := #[.tmp 41], argTypes := #[27] }, 3, .always⟩,
 ⟨some 43, .slice 27 (.tmp 38) none (some (.tmp 40)) (some (.tmp 42)), 27, .always⟩,
 ⟨some 44, .fieldAddr 51 (.tmp 3) 2, 0, .always⟩,
 ⟨some 45, .load 30 (.tmp 44), 30, .always⟩,
 ⟨some 46, .buildSlice 27 1 #[(0, .tmp 45)], 27, .always⟩,
 ⟨some 47, .call { callee := .builtin .append, args := #[.tmp 43, .tmp 46], argTypes := #[27, 27] }, 27, .always⟩,
 ⟨some 48, .fieldAddr 51 (.tmp 3) 3, 0, .always⟩,
 ⟨some 49, .load 32 (.tmp 48), 32, .always⟩,
 ⟨some 50, .indexAddr 32 (.tmp 49) (.const (.int .i64 0)), 0, .always⟩,
 ⟨some 51, .load 51 (.tmp 50), 51, .always⟩,
 ⟨some 52, .call { callee := .value (.func 154), args := #[.tmp 47, .tmp 51], argTypes := #[27, 51] }, 129, .always⟩,
 ⟨some 37, .move (.tmp 52), 129, .always⟩,
 ⟨some 53, .extract (.tmp 37) 0, 30, .always⟩,
 ⟨some 54, .extract (.tmp 37) 1, 43, .always⟩,
 ⟨some 6, .alloc 30, 0, .always⟩,
 ⟨none, .store 30 (.tmp 6) (.tmp 53), 0, .always⟩,
 ⟨some 7, .assign (.tmp 54), 43, .always⟩] [false, false, false, false, false, false, false, false, false, true, false, true, false, true, true, false, false, false, true, false, false] [3, 4, 6, 7])
 (.seq (.seq (.ops [⟨some 55, .move (.tmp 7), 43, .always⟩,
 ⟨some 56, .binOp .neq 43 (.tmp 55) (.const (.int .i64 0)) 43, 4, .always⟩] [3, 4, 6, 7, 56])
 (.cond (.tmp 56)
 (.seq (.ops [⟨some 57, .build 30 #[], 30, .always⟩,
 ⟨some 58, .move (.tmp 7), 43, .always⟩,
 ⟨none, .store 30 (.tmp 4) (.tmp 57), 0, .always⟩,
 ⟨some 5, .assign (.tmp 58), 43, .always⟩] [4, 5])
 (.ret))
 (.skip)))
 (.seq (.ops [⟨some 59, .fieldAddr 51 (.tmp 3) 2, 0, .always⟩,
 ⟨some 60, .load 30 (.tmp 59), 30, .always⟩,
 ⟨some 61, .load 30 (.tmp 6), 30, .always⟩,
 ⟨some 62, .call { callee := .value (.func 50), args := #[.tmp 60, .tmp 61], argTypes := #[30, 30] }, 30, .always⟩,
 ⟨some 63, .call { callee := .value (.func 159), args := #[.tmp 62], argTypes := #[30] }, 129, .always⟩,
 ⟨some 64, .extract (.tmp 63) 0, 30, .always⟩,
 ⟨some 65, .extract (.tmp 63) 1, 43, .always⟩,
 ⟨none, .store 30 (.tmp 4) (.tmp 64), 0, .always⟩,
 ⟨some 5, .assign (.tmp 65), 43, .always⟩] [4, 5])
 (.ret))))
 (.skip)))
 (.seq (.ops [⟨some 8, .assign (.const (.slice none 0 0)), 27, .always⟩] [0, 3, 4, 8])
 (.seq (.seq (.ops [⟨some 66, .fieldAddr 51 (.tmp 3) 3, 0, .always⟩,
 ⟨some 67, .load 32 (.tmp 66), 32, .always⟩,
 ⟨some 68, .call { callee := .builtin .len, args := #[.tmp 67], argTypes := #[32] }, 3, .always⟩,
 ⟨some 69, .move (.const (.int .i64 0)), 3, .always⟩] [0, 3, 4, 8, 67, 68, 69])
 (.block 0
 (.loop
 (.seq (.ops [⟨some 70, .binOp .lss 3 (.tmp 69) (.tmp 68) 3, 0, .always⟩] [0, 3, 4, 8, 67, 68, 69, 70])
 (.seq (.cond (.tmp 70)
 (.skip)
 (.exit 0))
 (.seq (.block 1
 (.seq (.ops [⟨some 71, .indexAddr 32 (.tmp 67) (.tmp 69), 0, .always⟩,
 ⟨some 72, .load 51 (.tmp 71), 51, .always⟩,
 ⟨some 10, .alloc 51, 0, .always⟩,
 ⟨none, .store 51 (.tmp 10) (.tmp 72), 0, .always⟩] [0, 3, 4, 8, 10, 67, 68, 69])
 (.seq (.ops [⟨some 74, .move (.tmp 0), 27, .always⟩,
 ⟨some 75, .load 51 (.tmp 10), 51, .always⟩,
 ⟨some 76, .call { callee := .value (.func 154), args := #[.tmp 74, .tmp 75], argTypes := #[27, 51] }, 129, .always⟩,
 ⟨some 73, .move (.tmp 76), 129, .always⟩,
 ⟨some 77, .extract (.tmp 73) 0, 30, .always⟩,
 ⟨some 78, .extract (.tmp 73) 1, 43, .always⟩,
 ⟨some 11, .alloc 30, 0, .always⟩,
 ⟨none, .store 30 (.tmp 11) (.tmp 77), 0, .always⟩,
 ⟨some 12, .assign (.tmp 78), 43, .always⟩] [0, 3, 4, 8, 11, 12, 67, 68, 69])
 (.seq (.seq (.ops [⟨some 79, .move (.tmp 12), 43, .always⟩,
 ⟨some 80, .binOp .neq 43 (.tmp 79) (.const (.int .i64 0)) 43, 4, .always⟩] [0, 3, 4, 8, 11, 12, 67, 68, 69, 80])
 (.cond (.tmp 80)
 (.seq (.ops [⟨some 81, .build 30 #[], 30, .always⟩,
 ⟨some 82, .move (.tmp 12), 43, .always⟩,
 ⟨none, .store 30 (.tmp 4) (.tmp 81), 0, .always⟩,
 ⟨some 5, .assign (.tmp 82), 43, .always⟩] [4, 5])
 (.ret))
 (.skip)))
 (.ops [⟨some 83, .move (.tmp 8), 27, .always⟩,
 ⟨some 84, .load 30 (.tmp 11), 30, .always⟩,
 ⟨some 85, .buildSlice 27 1 #[(0, .tmp 84)], 27, .always⟩,
 ⟨some 86, .call { callee := .builtin .append, args := #[.tmp 83, .tmp 85], argTypes := #[27, 27] }, 27, .always⟩,
 ⟨some 8, .assign (.tmp 86), 27, .always⟩] [0, 3, 4, 8, 67, 68, 69])))))
 (.ops [⟨some 87, .binOp .add 3 (.tmp 69) (.const (.int .i64 1)) 3, 3, .always⟩,
 ⟨some 69, .move (.tmp 87), 3, .always⟩] [0, 3, 4, 8, 67, 68, 69])))))))
 (.seq (.ops [⟨some 88, .call { callee := .value (.func 27), args := #[], argTypes := #[] }, 30, .always⟩,
 ⟨some 89, .call { callee := .value (.func 47), args := #[], argTypes := #[] }, 30, .always⟩,
 ⟨some 13, .alloc 30, 0, .always⟩,
 ⟨some 14, .alloc 30, 0, .always⟩,
 ⟨none, .store 30 (.tmp 13) (.tmp 88), 0, .always⟩,
 ⟨none, .store 30 (.tmp 14) (.tmp 89), 0, .always⟩] [3, 4, 8, 13, 14])
 (.seq (.seq (.ops [⟨some 90, .fieldAddr 51 (.tmp 3) 0, 0, .always⟩,
 ⟨some 91, .load 3 (.tmp 90), 3, .always⟩] [3, 4, 8, 13, 14, 91])
 (.block 2
 (.seq (.ops [⟨some 93, .binOp .eql 3 (.tmp 91) (.const (.int .i64 3)) 3, 4, .always⟩,
 ⟨some 92, .assign (.tmp 93), 4, .always⟩] [3, 4, 8, 13, 14, 91, 92])
 (.cond (.tmp 92)
 (.seq (.seq (.draw [⟨some 94, .move (.tmp 8), 27, .always⟩,
 ⟨some 95, .indexAddr 27 (.tmp 94) (.const (.int .i64 0)), 0, .always⟩,
 ⟨some 96, .fieldAddr 30 (.tmp 95) 0, 0, .always⟩,
 ⟨some 97, .load 3 (.tmp 96), 3, .always⟩,
 ⟨some 98, .binOp .neq 3 (.tmp 97) (.const (.int .i64 4)) 3, 4, .always⟩,
 ⟨some 99, .move (.tmp 98), 4, .always⟩,
 ⟨some 100, .move (.tmp 8), 27, .tmp 99 false⟩,
 ⟨some 101, .indexAddr 27 (.tmp 100) (.const (.int .i64 0)), 0, .tmp 99 false⟩,
 ⟨some 102, .fieldAddr 30 (.tmp 101) 1, 0, .tmp 99 false⟩,
 ⟨some 103, .load 27 (.tmp 102), 27, .tmp 99 false⟩,
 ⟨some 104, .indexAddr 27 (.tmp 103) (.const (.int .i64 0)), 0, .tmp 99 false⟩,
 ⟨some 105, .load 30 (.tmp 104), 30, .tmp 99 false⟩,
 ⟨some 106, .move (.tmp 8), 27, .tmp 99 false⟩,
 ⟨some 107, .indexAddr 27 (.tmp 106) (.const (.int .i64 1)), 0, .tmp 99 false⟩,
 ⟨some 108, .load 30 (.tmp 107), 30, .tmp 99 false⟩,
 ⟨some 109, .call { callee := .value (.func 16), args := #[.tmp 105, .tmp 108], argTypes := #[30, 30] }, 4, .tmp 99 false⟩,
 ⟨some 110, .unOp .not 4 (.tmp 109), 4, .tmp 99 false⟩,
 ⟨some 111, .pick (.tmp 99) (.const (.bool true)) (.tmp 110), 4, .always⟩] [false, false, false, false, false, false, false, false, false, false, false, false, false, false, false, false, false, false] [4, 8, 111])
 (.cond (.tmp 111)
 (.seq (.ops [⟨some 112, .build 30 #[], 30, .always⟩,
 ⟨none, .store 30 (.tmp 4) (.tmp 112), 0, .always⟩,
 ⟨some 5, .assign (.const (.int .i64 7)), 43, .always⟩] [4, 5])
 (.ret))
 (.skip)))
 (.seq (.ops [⟨some 113, .move (.tmp 8), 27, .always⟩,
 ⟨some 114, .indexAddr 27 (.tmp 113) (.const (.int .i64 0)), 0, .always⟩,
 ⟨some 115, .fieldAddr 30 (.tmp 114) 1, 0, .always⟩,
 ⟨some 116, .load 27 (.tmp 115), 27, .always⟩,
 ⟨some 117, .indexAddr 27 (.tmp 116) (.const (.int .i64 1)), 0, .always⟩,
 ⟨some 118, .load 30 (.tmp 117), 30, .always⟩,
 ⟨none, .store 30 (.tmp 4) (.tmp 118), 0, .always⟩,
 ⟨some 5, .assign (.const (.int .i64 0)), 43, .always⟩] [4, 5])
 (.ret)))
 (.seq (.ops [⟨some 120, .binOp .eql 3 (.tmp 91) (.const (.int .i64 4)) 3, 4, .always⟩,
 ⟨some 119, .assign (.tmp 120), 4, .always⟩] [3, 4, 8, 13, 14, 91, 119])
 (.cond (.tmp 119)
 (.seq (.ops [⟨some 121, .load 30 (.tmp 13), 30, .always⟩,
 ⟨none, .store 30 (.tmp 4) (.tmp 121), 0, .always⟩,
 ⟨some 5, .assign (.const (.int .i64 0)), 43, .always⟩] [4, 5])
 (.ret))
 (.seq (.ops [⟨some 123, .binOp .eql 3 (.tmp 91) (.const (.int .i64 5)) 3, 4, .always⟩,
 ⟨some 122, .assign (.tmp 123), 4, .always⟩] [3, 4, 8, 13, 14, 91, 122])
 (.cond (.tmp 122)
 (.seq (.seq (.draw [⟨some 124, .move (.tmp 8), 27, .always⟩,
 ⟨some 125, .indexAddr 27 (.tmp 124) (.const (.int .i64 0)), 0, .always⟩,
 ⟨some 126, .load 30 (.tmp 125), 30, .always⟩,
 ⟨some 127, .load 30 (.tmp 13), 30, .always⟩,
 ⟨some 128, .call { callee := .value (.func 16), args := #[.tmp 126, .tmp 127], argTypes := #[30, 30] }, 4, .always⟩,
 ⟨some 129, .unOp .not 4 (.tmp 128), 4, .always⟩] [false, false, false, false, false, false] [4, 13, 129])
 (.cond (.tmp 129)
 (.seq (.ops [⟨some 130, .build 30 #[], 30, .always⟩,
 ⟨none, .store 30 (.tmp 4) (.tmp 130), 0, .always⟩,
 ⟨some 5, .assign (.const (.int .i64 7)), 43, .always⟩] [4, 5])
 (.ret))
 (.skip)))
 (.seq (.ops [⟨some 131, .load 30 (.tmp 13), 30, .always⟩,
 ⟨none, .store 30 (.tmp 4) (.tmp 131), 0, .always⟩,
 ⟨some 5, .assign (.const (.int .i64 0)), 43, .always⟩] [4, 5])
 (.ret)))
 (.seq (.ops [⟨some 133, .binOp .eql 3 (.tmp 91) (.const (.int .i64 6)) 3, 4, .always⟩,
 ⟨some 132, .assign (.tmp 133), 4, .always⟩] [3, 4, 8, 13, 14, 91, 132])
 (.cond (.tmp 132)
 (.seq (.seq (.draw [⟨some 134, .move (.tmp 8), 27, .always⟩,
 ⟨some 135, .indexAddr 27 (.tmp 134) (.const (.int .i64 0)), 0, .always⟩,
 ⟨some 136, .load 30 (.tmp 135), 30, .always⟩,
 ⟨some 137, .fieldAddr 51 (.tmp 3) 2, 0, .always⟩,
 ⟨some 138, .load 30 (.tmp 137), 30, .always⟩,
 ⟨some 139, .call { callee := .value (.func 16), args := #[.tmp 136, .tmp 138], argTypes := #[30, 30] }, 4, .always⟩,
 ⟨some 140, .unOp .not 4 (.tmp 139), 4, .always⟩,
 ⟨some 141, .move (.tmp 140), 4, .always⟩,
 ⟨some 142, .move (.tmp 8), 27, .tmp 141 false⟩,
 ⟨some 143, .indexAddr 27 (.tmp 142) (.const (.int .i64 1)), 0, .tmp 141 false⟩,
 ⟨some 144, .load 30 (.tmp 143), 30, .tmp 141 false⟩,
 ⟨some 145, .load 30 (.tmp 13), 30, .tmp 141 false⟩,
 ⟨some 146, .fieldAddr 51 (.tmp 3) 2, 0, .tmp 141 false⟩,
 ⟨some 147, .load 30 (.tmp 146), 30, .tmp 141 false⟩,
 ⟨some 148, .fieldAddr 51 (.tmp 3) 2, 0, .tmp 141 false⟩,
 ⟨some 149, .load 30 (.tmp 148), 30, .tmp 141 false⟩,
 ⟨some 150, .call { callee := .value (.func 50), args := #[.tmp 147, .tmp 149], argTypes := #[30, 30] }, 30, .tmp 141 false⟩,
 ⟨some 151, .call { callee := .value (.func 50), args := #[.tmp 145, .tmp 150], argTypes := #[30, 30] }, 30, .tmp 141 false⟩,
 ⟨some 152, .call { callee := .value (.func 16), args := #[.tmp 144, .tmp 151], argTypes := #[30, 30] }, 4, .tmp 141 false⟩,
 ⟨some 153, .unOp .not 4 (.tmp 152), 4, .tmp 141 false⟩,
 ⟨some 154, .pick (.tmp 141) (.const (.bool true)) (.tmp 153), 4, .always⟩,
 ⟨some 155, .move (.tmp 154), 4, .always⟩,
 ⟨some 156, .move (.tmp 8), 27, .tmp 155 false⟩,
 ⟨some 157, .indexAddr 27 (.tmp 156) (.const (.int .i64 2)), 0, .tmp 155 false⟩,
 ⟨some 158, .load 30 (.tmp 157), 30, .tmp 155 false⟩,
 ⟨some 159, .load 30 (.tmp 13), 30, .tmp 155 false⟩,
 ⟨some 160, .call { callee := .value (.func 16), args := #[.tmp 158, .tmp 159], argTypes := #[30, 30] }, 4, .tmp 155 false⟩,
 ⟨some 161, .unOp .not 4 (.tmp 160), 4, .tmp 155 false⟩,
 ⟨some 162, .pick (.tmp 155) (.const (.bool true)) (.tmp 161), 4, .always⟩] [false, false, false, false, false, false, false, false, false, false, true, true, false, false, false, false, true, true, false, false, false, false, false, false, false, false, false, false, false] [3, 4, 162])
 (.cond (.tmp 162)
 (.seq (.ops [⟨some 163, .build 30 #[], 30, .always⟩,
 ⟨none, .store 30 (.tmp 4) (.tmp 163), 0, .always⟩,
 ⟨some 5, .assign (.const (.int .i64 7)), 43, .always⟩] [4, 5])
 (.ret))
 (.skip)))
 (.seq (.ops [⟨some 164, .fieldAddr 51 (.tmp 3) 2, 0, .always⟩,
 ⟨some 165, .load 30 (.tmp 164), 30, .always⟩,
 ⟨some 166, .call { callee := .value (.func 52), args := #[.tmp 165], argTypes := #[30] }, 30, .always⟩,
 ⟨none, .store 30 (.tmp 4) (.tmp 166), 0, .always⟩,
 ⟨some 5, .assign (.const (.int .i64 0)), 43, .always⟩] [4, 5])
 (.ret)))
 (.seq (.ops [⟨some 168, .binOp .eql 3 (.tmp 91) (.const (.int .i64 7)) 3, 4, .always⟩,
 ⟨some 167, .assign (.tmp 168), 4, .always⟩] [3, 4, 8, 13, 14, 91, 167])
 (.cond (.tmp 167)
 (.seq (.ops [⟨some 169, .load 30 (.tmp 14), 30, .always⟩,
 ⟨none, .store 30 (.tmp 4) (.tmp 169), 0, .always⟩,
 ⟨some 5, .assign (.const (.int .i64 0)), 43, .always⟩] [4, 5])
 (.ret))
 (.seq (.ops [⟨some 171, .binOp .eql 3 (.tmp 91) (.const (.int .i64 8)) 3, 4, .always⟩,
 ⟨some 170, .assign (.tmp 171), 4, .always⟩] [3, 4, 8, 13, 14, 91, 170])
 (.cond (.tmp 170)
 (.seq (.seq (.draw [⟨some 172, .move (.tmp 8), 27, .always⟩,
 ⟨some 173, .indexAddr 27 (.tmp 172) (.const (.int .i64 0)), 0, .always⟩,
 ⟨some 174, .load 30 (.tmp 173), 30, .always⟩,
 ⟨some 175, .load 30 (.tmp 13), 30, .always⟩,
 ⟨some 176, .call { callee := .value (.func 16), args := #[.tmp 174, .tmp 175], argTypes := #[30, 30] }, 4, .always⟩,
 ⟨some 177, .unOp .not 4 (.tmp 176), 4, .always⟩,
 ⟨some 178, .move (.tmp 177), 4, .always⟩,
 ⟨some 179, .move (.tmp 8), 27, .tmp 178 false⟩,
 ⟨some 180, .indexAddr 27 (.tmp 179) (.const (.int .i64 1)), 0, .tmp 178 false⟩,
 ⟨some 181, .load 30 (.tmp 180), 30, .tmp 178 false⟩,
 ⟨some 182, .load 30 (.tmp 14), 30, .tmp 178 false⟩,
 ⟨some 183, .call { callee := .value (.func 16), args := #[.tmp 181, .tmp 182], argTypes := #[30, 30] }, 4, .tmp 178 false⟩,
 ⟨some 184, .unOp .not 4 (.tmp 183), 4, .tmp 178 false⟩,
 ⟨some 185, .pick (.tmp 178) (.const (.bool true)) (.tmp 184), 4, .always⟩] [false, false, false, false, false, false, false, false, false, false, false, false, false, false] [4, 14, 185])
 (.cond (.tmp 185)
 (.seq (.ops [⟨some 186, .build 30 #[], 30, .always⟩,
 ⟨none, .store 30 (.tmp 4) (.tmp 186), 0, .always⟩,
 ⟨some 5, .assign (.const (.int .i64 7)), 43, .always⟩] [4, 5])
 (.ret))
 (.skip)))
 (.seq (.ops [⟨some 187, .load 30 (.tmp 14), 30, .always⟩,
 ⟨none, .store 30 (.tmp 4) (.tmp 187), 0, .always⟩,
 ⟨some 5, .assign (.const (.int .i64 0)), 43, .always⟩] [4, 5])
 (.ret)))
 (.seq (.ops [⟨some 189, .binOp .eql 3 (.tmp 91) (.const (.int .i64 9)) 3, 4, .always⟩,
 ⟨some 188, .assign (.tmp 189), 4, .always⟩] [3, 4, 8, 13, 14, 91, 188])
 (.cond (.tmp 188)
 (.seq (.seq (.draw [⟨some 190, .move (.tmp 8), 27, .always⟩,
 ⟨some 191, .indexAddr 27 (.tmp 190) (.const (.int .i64 0)), 0, .always⟩,
 ⟨some 192, .load 30 (.tmp 191), 30, .always⟩,
 ⟨some 193, .fieldAddr 51 (.tmp 3) 2, 0, .always⟩,
 ⟨some 194, .load 30 (.tmp 193), 30, .always⟩,
 ⟨some 195, .call { callee := .value (.func 16), args := #[.tmp 192, .tmp 194], argTypes := #[30, 30] }, 4, .always⟩,
 ⟨some 196, .unOp .not 4 (.tmp 195), 4, .always⟩,
 ⟨some 197, .move (.tmp 196), 4, .always⟩,
 ⟨some 198, .move (.tmp 8), 27, .tmp 197 false⟩,
 ⟨some 199, .indexAddr 27 (.tmp 198) (.const (.int .i64 1)), 0, .tmp 197 false⟩,
 ⟨some 200, .load 30 (.tmp 199), 30, .tmp 197 false⟩,
 ⟨some 201, .load 30 (.tmp 13), 30, .tmp 197 false⟩,
 ⟨some 202, .load 30 (.tmp 14), 30, .tmp 197 false⟩,
 ⟨some 203, .fieldAddr 51 (.tmp 3) 2, 0, .tmp 197 false⟩,
 ⟨some 204, .load 30 (.tmp 203), 30, .tmp 197 false⟩,
 ⟨some 205, .fieldAddr 51 (.tmp 3) 2, 0, .tmp 197 false⟩,
 ⟨some 206, .load 30 (.tmp 205), 30, .tmp 197 false⟩,
 ⟨some 207, .call { callee := .value (.func 50), args := #[.tmp 204, .tmp 206], argTypes := #[30, 30] }, 30, .tmp 197 false⟩,
 ⟨some 208, .call { callee := .value (.func 50), args := #[.tmp 202, .tmp 207], argTypes := #[30, 30] }, 30, .tmp 197 false⟩,
 ⟨some 209, .call { callee := .value (.func 50), args := #[.tmp 201, .tmp 208], argTypes := #[30, 30] }, 30, .tmp 197 false⟩,
 ⟨some 210, .call { callee := .value (.func 16), args := #[.tmp 200, .tmp 209], argTypes := #[30, 30] }, 4, .tmp 197 false⟩,
 ⟨some 211, .unOp .not 4 (.tmp 210), 4, .tmp 197 false⟩,
 ⟨some 212, .pick (.tmp 197) (.const (.bool true)) (.tmp 211), 4, .always⟩,
 ⟨some 213, .move (.tmp 212), 4, .always⟩,
 ⟨some 214, .move (.tmp 8), 27, .tmp 213 false⟩,
 ⟨some 215, .indexAddr 27 (.tmp 214) (.const (.int .i64 2)), 0, .tmp 213 false⟩,
 ⟨some 216, .load 30 (.tmp 215), 30, .tmp 213 false⟩,
 ⟨some 217, .load 30 (.tmp 14), 30, .tmp 213 false⟩,
 ⟨some 218, .call { callee := .value (.func 16), args := #[.tmp 216, .tmp 217], argTypes := #[30, 30] }, 4, .tmp 213 false⟩,
 ⟨some 219, .unOp .not 4 (.tmp 218), 4, .tmp 213 false⟩,
 ⟨some 220, .pick (.tmp 213) (.const (.bool true)) (.tmp 219), 4, .always⟩] [false, false, false, false, false, false, false, false, false, false, true, true, true, false, false, false, false, true, true, true, false, false, false, false, false, false, false, false, false, false, false] [3, 4, 220])
 (.cond (.tmp 220)
 (.seq (.ops [⟨some 221, .build 30 #[], 30, .always⟩,
 ⟨none, .store 30 (.tmp 4) (.tmp 221), 0, .always⟩,
 ⟨some 5, .assign (.const (.int .i64 7)), 43, .always⟩] [4, 5])
 (.ret))
 (.skip)))
 (.seq (.ops [⟨some 222, .fieldAddr 51 (.tmp 3) 2, 0, .always⟩,
 ⟨some 223, .load 30 (.tmp 222), 30, .always⟩,
 ⟨some 224, .call { callee := .value (.func 52), args := #[.tmp 223], argTypes := #[30] }, 30, .always⟩,
 ⟨none, .store 30 (.tmp 4) (.tmp 224), 0, .always⟩,
 ⟨some 5, .assign (.const (.int .i64 0)), 43, .always⟩] [4, 5])
 (.ret)))
 (.seq (.ops [⟨some 226, .binOp .eql 3 (.tmp 91) (.const (.int .i64 10)) 3, 4, .always⟩,
 ⟨some 225, .assign (.tmp 226), 4, .always⟩] [3, 4, 8, 91, 225])
 (.cond (.tmp 225)
 (.seq (.draw [⟨some 227, .move (.tmp 8), 27, .always⟩,
 ⟨some 228, .indexAddr 27 (.tmp 227) (.const (.int .i64 0)), 0, .always⟩,
 ⟨some 229, .load 30 (.tmp 228), 30, .always⟩,
 ⟨some 230, .move (.tmp 8), 27, .always⟩,
 ⟨some 231, .indexAddr 27 (.tmp 230) (.const (.int .i64 1)), 0, .always⟩,
 ⟨some 232, .load 30 (.tmp 231), 30, .always⟩,
 ⟨some 233, .call { callee := .value (.func 49), args := #[.tmp 229, .tmp 232], argTypes := #[30, 30] }, 30, .always⟩,
 ⟨some 234, .call { callee := .value (.func 159), args := #[.tmp 233], argTypes := #[30] }, 129, .always⟩,
 ⟨some 235, .extract (.tmp 234) 0, 30, .always⟩,
 ⟨some 236, .extract (.tmp 234) 1, 43, .always⟩,
 ⟨none, .store 30 (.tmp 4) (.tmp 235), 0, .always⟩,
 ⟨some 5, .assign (.tmp 236), 43, .always⟩] [false, false, false, false, false, false, false, false, false, false, false, false] [4, 5])
 (.ret))
 (.seq (.seq (.ops [⟨some 238, .binOp .eql 3 (.tmp 91) (.const (.int .i64 11)) 3, 4, .always⟩,
 ⟨some 237, .assign (.tmp 238), 4, .always⟩] [3, 4, 8, 91, 237])
 (.cond (.tmp 237)
 (.skip)
 (.ops [⟨some 239, .binOp .eql 3 (.tmp 91) (.const (.int .i64 12)) 3, 4, .always⟩,
 ⟨some 237, .assign (.tmp 239), 4, .always⟩] [3, 4, 8, 237])))
 (.cond (.tmp 237)
 (.seq (.seq (.ops [⟨some 240, .move (.tmp 8), 27, .always⟩,
 ⟨some 241, .indexAddr 27 (.tmp 240) (.const (.int .i64 0)), 0, .always⟩,
 ⟨some 242, .fieldAddr 30 (.tmp 241) 0, 0, .always⟩,
 ⟨some 243, .load 3 (.tmp 242), 3, .always⟩,
 ⟨some 244, .binOp .neq 3 (.tmp 243) (.const (.int .i64 3)) 3, 4, .always⟩] [3, 4, 8, 244])
 (.cond (.tmp 244)
 (.seq (.ops [⟨some 245, .build 30 #[], 30, .always⟩,
 ⟨none, .store 30 (.tmp 4) (.tmp 245), 0, .always⟩,
 ⟨some 5, .assign (.const (.int .i64 7)), 43, .always⟩] [4, 5])
 (.ret))
 (.skip)))
 (.seq (.seq (.ops [⟨some 246, .fieldAddr 51 (.tmp 3) 0, 0, .always⟩,
 ⟨some 247, .load 3 (.tmp 246), 3, .always⟩,
 ⟨some 248, .binOp .eql 3 (.tmp 247) (.const (.int .i64 11)) 3, 4, .always⟩] [4, 8, 248])
 (.cond (.tmp 248)
 (.seq (.ops [⟨some 249, .move (.tmp 8), 27, .always⟩,
 ⟨some 250, .indexAddr 27 (.tmp 249) (.const (.int .i64 0)), 0, .always⟩,
 ⟨some 251, .fieldAddr 30 (.tmp 250) 1, 0, .always⟩,
 ⟨some 252, .load 27 (.tmp 251), 27, .always⟩,
 ⟨some 253, .indexAddr 27 (.tmp 252) (.const (.int .i64 0)), 0, .always⟩,
 ⟨some 254, .load 30 (.tmp 253), 30, .always⟩,
 ⟨none, .store 30 (.tmp 4) (.tmp 254), 0, .always⟩,
 ⟨some 5, .assign (.const (.int .i64 0)), 43, .always⟩] [4, 5])
 (.ret))
 (.skip)))
 (.seq (.ops [⟨some 255, .move (.tmp 8), 27, .always⟩,
 ⟨some 256, .indexAddr 27 (.tmp 255) (.const (.int .i64 0)), 0, .always⟩,
 ⟨some 257, .fieldAddr 30 (.tmp 256) 1, 0, .always⟩,
 ⟨some 258, .load 27 (.tmp 257), 27, .always⟩,
 ⟨some 259, .indexAddr 27 (.tmp 258) (.const (.int .i64 1)), 0, .always⟩,
 ⟨some 260, .load 30 (.tmp 259), 30, .always⟩,
 ⟨none, .store 30 (.tmp 4) (.tmp 260), 0, .always⟩,
 ⟨some 5, .assign (.const (.int .i64 0)), 43, .always⟩] [4, 5])
 (.ret))))
 (.skip)))))))))))))))))))))
 (.seq (.ops [⟨some 261, .call { callee := .value (.func 48), args := #[], argTypes := #[] }, 30, .always⟩,
 ⟨none, .store 30 (.tmp 4) (.tmp 261), 0, .always⟩,
 ⟨some 5, .assign (.const (.int .i64 0)), 43, .always⟩] [4, 5])
 (.ret))))))))
theorem w154 {args : List PV} {σ σ' : List Frm} {r : Ret} (hr : ∀ p, r = .val p → erV p = p) (h : wpP cfg s154 (QEndP cfg [.cell 4 30, .tmp 5] σ' r) ⟨initEnv args, fun _ => [], σ, ⟨fun _ => false, 0⟩⟩) : CallsV cfg 154 args σ r σ' :=
 callsV_of_p follows cfgT a154 (fn := Tryz.f154) (c := Tryz.f154.body.getD .skip) (by kernel_rfl) (by kernel_rfl) (by kernel_rfl) (by kernel_rfl) (by kernel_rfl) (sc := s154) (by kernel_rfl) [.cell 4 30, .tmp 5] (by kernel_rfl) hr h
def a148 : List Ann := [⟨[0, 3, 4], [], []⟩,
 ⟨[0, 3, 4, 6], [], []⟩,
 ⟨[0, 3, 4, 6, 10], [], []⟩,
 ⟨[4, 5], [], []⟩,
 ⟨[4, 5], [], []⟩]
def s148 : SC := .seq (.ops [⟨some 3, .box 51 (.tmp 1), 0, .always⟩,
 ⟨some 4, .alloc 30, 0, .always⟩,
 ⟨some 5, .assign (.const (.int .i64 0)), 43, .always⟩] [0, 3, 4])
 (.seq (.seq (.ops [⟨some 7, .load 51 (.tmp 3), 51, .always⟩,
 ⟨some 8, .call { callee := .value (.func 63), args := #[.tmp 7], argTypes := #[51] }, 43, .always⟩,
 ⟨some 6, .assign (.tmp 8), 43, .always⟩] [0, 3, 4, 6])
 (.seq (.ops [⟨some 9, .move (.tmp 6), 43, .always⟩,
 ⟨some 10, .binOp .neq 43 (.tmp 9) (.const (.int .i64 0)) 43, 4, .always⟩] [0, 3, 4, 6, 10])
 (.cond (.tmp 10)
 (.seq (.ops [⟨some 11, .build 30 #[], 30, .always⟩,
 ⟨some 12, .move (.tmp 6), 43, .always⟩,
 ⟨none, .store 30 (.tmp 4) (.tmp 11), 0, .always⟩,
 ⟨some 5, .assign (.tmp 12), 43, .always⟩] [4, 5])
 (.ret))
 (.skip))))
 (.seq (.ops [⟨some 13, .move (.tmp 0), 27, .always⟩,
 ⟨some 14, .load 51 (.tmp 3), 51, .always⟩,
 ⟨some 15, .call { callee := .value (.func 154), args := #[.tmp 13, .tmp 14], argTypes := #[27, 51] }, 129, .always⟩,
 ⟨some 16, .extract (.tmp 15) 0, 30, .always⟩,
 ⟨some 17, .extract (.tmp 15) 1, 43, .always⟩,
 ⟨none, .store 30 (.tmp 4) (.tmp 16), 0, .always⟩,
 ⟨some 5, .assign (.tmp 17), 43, .always⟩] [4, 5])
 (.ret)))
theorem w148 {args : List PV} {σ σ' : List Frm} {r : Ret} (hr : ∀ p, r = .val p → erV p = p) (h : wpP cfg s148 (QEndP cfg [.cell 4 30, .tmp 5] σ' r) ⟨initEnv args, fun _ => [], σ, ⟨fun _ => false, 0⟩⟩) : CallsV cfg 148 args σ r σ' :=
 callsV_of_p follows cfgT a148 (fn := Tryz.f148) (c := Tryz.f148.body.getD .skip) (by kernel_rfl) (by kernel_rfl) (by kernel_rfl) (by kernel_rfl) (by kernel_rfl) (sc := s148) (by kernel_rfl) [.cell 4 30, .tmp 5] (by kernel_rfl) hr h
def a125 : List Ann := [⟨[0, 3], [], []⟩,
 ⟨[0, 3, 13, 14, 15], [], []⟩,
 ⟨[0, 3, 13, 14, 15, 16], [], []⟩,
 ⟨[0, 3, 6, 13, 14, 15], [], []⟩,
 ⟨[0, 3, 7, 8, 13, 14, 15], [], []⟩,
 ⟨[0, 3, 7, 8, 13, 14, 15, 26], [], []⟩,
 ⟨[4], [], []⟩,
 ⟨[0, 3, 13, 14, 15, 30], [], []⟩,
 ⟨[4], [], []⟩,
 ⟨[0, 3, 13, 14, 15], [], []⟩,
 ⟨[0, 3, 34], [], []⟩,
 ⟨[0, 3], [0, 0, 2, 0, 8, 31, 0, 64, 192, 511, 1023], [false, false, false, false, false, false, false, false, false, false, false]⟩,
 ⟨[0, 46, 47, 48], [], []⟩,
 ⟨[0, 46, 47, 48, 49], [], []⟩,
 ⟨[0, 10, 46, 47, 48], [], []⟩,
 ⟨[0, 11, 46, 47, 48], [], []⟩,
 ⟨[0, 11, 46, 47, 48, 56], [], []⟩,
 ⟨[4], [], []⟩,
 ⟨[0, 46, 47, 48], [], []⟩,
 ⟨[4], [], []⟩]
def s125 : SC := .seq (.ops [⟨some 3, .box 35 (.tmp 1), 0, .always⟩,
 ⟨some 4, .assign (.const (.int .i64 0)), 43, .always⟩] [0, 3])
 (.seq (.seq (.ops [⟨some 12, .fieldAddr 35 (.tmp 3) 2, 0, .always⟩,
 ⟨some 13, .load 32 (.tmp 12), 32, .always⟩,
 ⟨some 14, .call { callee := .builtin .len, args := #[.tmp 13], argTypes := #[32] }, 3, .always⟩,
 ⟨some 15, .move (.const (.int .i64 0)), 3, .always⟩] [0, 3, 13, 14, 15])
 (.block 0
 (.loop
 (.seq (.ops [⟨some 16, .binOp .lss 3 (.tmp 15) (.tmp 14) 3, 0, .always⟩] [0, 3, 13, 14, 15, 16])
 (.seq (.cond (.tmp 16)
 (.skip)
 (.exit 0))
 (.seq (.block 1
 (.seq (.ops [⟨some 17, .indexAddr 32 (.tmp 13) (.tmp 15), 0, .always⟩,
 ⟨some 18, .load 51 (.tmp 17), 51, .always⟩,
 ⟨some 6, .alloc 51, 0, .always⟩,
 ⟨none, .store 51 (.tmp 6) (.tmp 18), 0, .always⟩] [0, 3, 6, 13, 14, 15])
 (.seq (.ops [⟨some 20, .move (.tmp 0), 27, .always⟩,
 ⟨some 21, .load 51 (.tmp 6), 51, .always⟩,
 ⟨some 22, .call { callee := .value (.func 148), args := #[.tmp 20, .tmp 21], argTypes := #[27, 51] }, 129, .always⟩,
 ⟨some 19, .move (.tmp 22), 129, .always⟩,
 ⟨some 23, .extract (.tmp 19) 0, 30, .always⟩,
 ⟨some 24, .extract (.tmp 19) 1, 43, .always⟩,
 ⟨some 7, .alloc 30, 0, .always⟩,
 ⟨none, .store 30 (.tmp 7) (.tmp 23), 0, .always⟩,
 ⟨some 8, .assign (.tmp 24), 43, .always⟩] [0, 3, 7, 8, 13, 14, 15])
 (.seq (.seq (.ops [⟨some 25, .move (.tmp 8), 43, .always⟩,
 ⟨some 26, .binOp .neq 43 (.tmp 25) (.const (.int .i64 0)) 43, 4, .always⟩] [0, 3, 7, 8, 13, 14, 15, 26])
 (.cond (.tmp 26)
 (.seq (.ops [⟨some 27, .move (.tmp 8), 43, .always⟩,
 ⟨some 4, .assign (.tmp 27), 43, .always⟩] [4])
 (.ret))
 (.skip)))
 (.seq (.ops [⟨some 28, .fieldAddr 30 (.tmp 7) 0, 0, .always⟩,
 ⟨some 29, .load 3 (.tmp 28), 3, .always⟩,
 ⟨some 30, .binOp .neq 3 (.tmp 29) (.const (.int .i64 1)) 3, 4, .always⟩] [0, 3, 13, 14, 15, 30])
 (.cond (.tmp 30)
 (.seq (.ops [⟨some 4, .assign (.const (.int .i64 7)), 43, .always⟩] [4])
 (.ret))
 (.skip)))))))
 (.ops [⟨some 31, .binOp .add 3 (.tmp 15) (.const (.int .i64 1)) 3, 3, .always⟩,
 ⟨some 15, .move (.tmp 31), 3, .always⟩] [0, 3, 13, 14, 15])))))))
 (.seq (.seq (.ops [⟨some 32, .fieldAddr 35 (.tmp 3) 0, 0, .always⟩,
 ⟨some 33, .load 3 (.tmp 32), 3, .always⟩,
 ⟨some 34, .call { callee := .value (.func 132), args := #[.tmp 33], argTypes := #[3] }, 4, .always⟩] [0, 3, 34])
 (.cond (.tmp 34)
 (.draw [⟨some 35, .move (.tmp 0), 27, .always⟩,
 ⟨some 36, .move (.tmp 0), 27, .always⟩,
 ⟨some 37, .call { callee := .builtin .len, args := #[.tmp 36], argTypes := #[27] }, 3, .always⟩,
 ⟨some 38, .move (.tmp 0), 27, .always⟩,
 ⟨some 39, .call { callee := .builtin .len, args := #[.tmp 38], argTypes := #[27] }, 3, .always⟩,
 ⟨some 40, .slice 27 (.tmp 35) none (some (.tmp 37)) (some (.tmp 39)), 27, .always⟩,
 ⟨some 41, .fieldAddr 35 (.tmp 3) 1, 0, .always⟩,
 ⟨some 42, .load 30 (.tmp 41), 30, .always⟩,
 ⟨some 43, .buildSlice 27 1 #[(0, .tmp 42)], 27, .always⟩,
 ⟨some 44, .call { callee := .builtin .append, args := #[.tmp 40, .tmp 43], argTypes := #[27, 27] }, 27, .always⟩,
 ⟨some 0, .assign (.tmp 44), 27, .always⟩] [false, false, false, false, false, false, false, false, false, false, false] [0, 3])
 (.skip)))
 (.seq (.seq (.ops [⟨some 45, .fieldAddr 35 (.tmp 3) 3, 0, .always⟩,
 ⟨some 46, .load 33 (.tmp 45), 33, .always⟩,
 ⟨some 47, .call { callee := .builtin .len, args := #[.tmp 46], argTypes := #[33] }, 3, .always⟩,
 ⟨some 48, .move (.const (.int .i64 0)), 3, .always⟩] [0, 46, 47, 48])
 (.block 2
 (.loop
 (.seq (.ops [⟨some 49, .binOp .lss 3 (.tmp 48) (.tmp 47) 3, 0, .always⟩] [0, 46, 47, 48, 49])
 (.seq (.cond (.tmp 49)
 (.skip)
 (.exit 2))
 (.seq (.block 3
 (.seq (.ops [⟨some 50, .indexAddr 33 (.tmp 46) (.tmp 48), 0, .always⟩,
 ⟨some 51, .load 35 (.tmp 50), 35, .always⟩,
 ⟨some 10, .alloc 35, 0, .always⟩,
 ⟨none, .store 35 (.tmp 10) (.tmp 51), 0, .always⟩] [0, 10, 46, 47, 48])
 (.seq (.ops [⟨some 52, .move (.tmp 0), 27, .always⟩,
 ⟨some 53, .load 35 (.tmp 10), 35, .always⟩,
 ⟨some 54, .call { callee := .value (.func 125), args := #[.tmp 52, .tmp 53], argTypes := #[27, 35] }, 43, .always⟩,
 ⟨some 11, .assign (.tmp 54), 43, .always⟩] [0, 11, 46, 47, 48])
 (.seq (.ops [⟨some 55, .move (.tmp 11), 43, .always⟩,
 ⟨some 56, .binOp .neq 43 (.tmp 55) (.const (.int .i64 0)) 43, 4, .always⟩] [0, 11, 46, 47, 48, 56])
 (.cond (.tmp 56)
 (.seq (.ops [⟨some 57, .move (.tmp 11), 43, .always⟩,
 ⟨some 4, .assign (.tmp 57), 43, .always⟩] [4])
 (.ret))
 (.skip))))))
 (.ops [⟨some 58, .binOp .add 3 (.tmp 48) (.const (.int .i64 1)) 3, 3, .always⟩,
 ⟨some 48, .move (.tmp 58), 3, .always⟩] [0, 46, 47, 48])))))))
 (.seq (.ops [⟨some 4, .assign (.const (.int .i64 0)), 43, .always⟩] [4])
 (.ret)))))
theorem w125 {args : List PV} {σ σ' : List Frm} {r : Ret} (hr : ∀ p, r = .val p → erV p = p) (h : wpP cfg s125 (QEndP cfg [.tmp 4] σ' r) ⟨initEnv args, fun _ => [], σ, ⟨fun _ => false, 0⟩⟩) : CallsV cfg 125 args σ r σ' :=
 callsV_of_p follows cfgT a125 (fn := Tryz.f125) (c := Tryz.f125.body.getD .skip) (by kernel_rfl) (by kernel_rfl) (by kernel_rfl) (by kernel_rfl) (by kernel_rfl) (sc := s125) (by kernel_rfl) [.tmp 4] (by kernel_rfl) hr h
def a88 : List Ann := [⟨[0, 3], [], []⟩,
 ⟨[0, 3, 5], [], []⟩,
 ⟨[0, 3, 5, 9], [], []⟩,
 ⟨[4], [], []⟩,
 ⟨[4], [], []⟩]
def s88 : SC := .seq (.ops [⟨some 3, .box 35 (.tmp 1), 0, .always⟩,
 ⟨some 4, .assign (.const (.int .i64 0)), 43, .always⟩] [0, 3])
 (.seq (.seq (.ops [⟨some 6, .load 35 (.tmp 3), 35, .always⟩,
 ⟨some 7, .call { callee := .value (.func 60), args := #[.tmp 6], argTypes := #[35] }, 43, .always⟩,
 ⟨some 5, .assign (.tmp 7), 43, .always⟩] [0, 3, 5])
 (.seq (.ops [⟨some 8, .move (.tmp 5), 43, .always⟩,
 ⟨some 9, .binOp .neq 43 (.tmp 8) (.const (.int .i64 0)) 43, 4, .always⟩] [0, 3, 5, 9])
 (.cond (.tmp 9)
 (.seq (.ops [⟨some 10, .move (.tmp 5), 43, .always⟩,
 ⟨some 4, .assign (.tmp 10), 43, .always⟩] [4])
 (.ret))
 (.skip))))
 (.seq (.ops [⟨some 11, .move (.tmp 0), 27, .always⟩,
 ⟨some 12, .load 35 (.tmp 3), 35, .always⟩,
 ⟨some 13, .call { callee := .value (.func 125), args := #[.tmp 11, .tmp 12], argTypes := #[27, 35] }, 43, .always⟩,
 ⟨some 4, .assign (.tmp 13), 43, .always⟩] [4])
 (.ret)))
theorem w88 {args : List PV} {σ σ' : List Frm} {r : Ret} (hr : ∀ p, r = .val p → erV p = p) (h : wpP cfg s88 (QEndP cfg [.tmp 4] σ' r) ⟨initEnv args, fun _ => [], σ, ⟨fun _ => false, 0⟩⟩) : CallsV cfg 88 args σ r σ' :=
 callsV_of_p follows cfgT a88 (fn := Tryz.f88) (c := Tryz.f88.body.getD .skip) (by kernel_rfl) (by kernel_rfl) (by kernel_rfl) (by kernel_rfl) (by kernel_rfl) (sc := s88) (by kernel_rfl) [.tmp 4] (by kernel_rfl) hr h
def a32 : List Ann := [⟨[0, 3], [], []⟩,
 ⟨[0, 3, 5], [], []⟩,
 ⟨[0, 3, 5, 9], [], []⟩,
 ⟨[4], [], []⟩,
 ⟨[4], [], []⟩]
def s32 : SC := .seq (.ops [⟨some 3, .box 35 (.tmp 1), 0, .always⟩,
 ⟨some 4, .assign (.const (.int .i64 0)), 43, .always⟩] [0, 3])
 (.seq (.seq (.ops [⟨some 6, .move (.tmp 0), 27, .always⟩,
 ⟨some 7, .call { callee := .value (.func 87), args := #[.tmp 6], argTypes := #[27] }, 43, .always⟩,
 ⟨some 5, .assign (.tmp 7), 43, .always⟩] [0, 3, 5])
 (.seq (.ops [⟨some 8, .move (.tmp 5), 43, .always⟩,
 ⟨some 9, .binOp .neq 43 (.tmp 8) (.const (.int .i64 0)) 43, 4, .always⟩] [0, 3, 5, 9])
 (.cond (.tmp 9)
 (.seq (.ops [⟨some 10, .move (.tmp 5), 43, .always⟩,
 ⟨some 4, .assign (.tmp 10), 43, .always⟩] [4])
 (.ret))
 (.skip))))
 (.seq (.ops [⟨some 11, .move (.tmp 0), 27, .always⟩,
 ⟨some 12, .load 35 (.tmp 3), 35, .always⟩,
 ⟨some 13, .call { callee := .value (.func 88), args := #[.tmp 11, .tmp 12], argTypes := #[27, 35] }, 43, .always⟩,
 ⟨some 4, .assign (.tmp 13), 43, .always⟩] [4])
 (.ret)))
theorem w32 {args : List PV} {σ σ' : List Frm} {r : Ret} (hr : ∀ p, r = .val p → erV p = p) (h : wpP cfg s32 (QEndP cfg [.tmp 4] σ' r) ⟨initEnv args, fun _ => [], σ, ⟨fun _ => false, 0⟩⟩) : CallsV cfg 32 args σ r σ' :=
 callsV_of_p follows cfgT a32 (fn := Tryz.f32) (c := Tryz.f32.body.getD .skip) (by kernel_rfl) (by kernel_rfl) (by kernel_rfl) (by kernel_rfl) (by kernel_rfl) (sc := s32) (by kernel_rfl) [.tmp 4] (by kernel_rfl) hr h
def a5 : List Ann := [⟨[0, 1], [], []⟩,
 ⟨[0, 1, 23], [], []⟩,
 ⟨[4], [], []⟩,
 ⟨[0, 1, 26], [], []⟩,
 ⟨[4], [], []⟩,
 ⟨[1, 5], [], []⟩,
 ⟨[1, 5, 6], [], []⟩,
 ⟨[1, 5, 6, 7], [], []⟩,
 ⟨[1, 5, 6, 7, 8], [], []⟩,
 ⟨[1, 5, 6, 7, 8, 9], [0, 0, 2, 0, 8, 30, 63, 0, 255], [false, false, true, true, false, true, true, true, false]⟩,
 ⟨[1, 5, 6, 7, 8, 9, 45], [], []⟩,
 ⟨[1, 6, 8, 9], [0, 0, 2, 0, 8, 30, 63, 127], [false, false, true, true, false, false, false, false]⟩,
 ⟨[1, 6, 8, 9, 10, 11], [], []⟩,
 ⟨[1, 6, 8, 9, 10, 11, 12, 13, 14, 15], [], []⟩,
 ⟨[1, 6, 8, 9, 10, 11, 12, 13, 14, 15, 16, 17], [], []⟩,
 ⟨[1, 6, 8, 9, 10, 11, 12, 13, 14, 15, 16, 17, 18, 19], [], []⟩,
 ⟨[1, 6, 8, 9, 10, 11, 12, 13, 14, 15, 16, 17, 18, 19, 20, 21], [], []⟩,
 ⟨[4], [], []⟩]
def s5 : SC := .seq (.ops [⟨some 4, .assign (.const (.bool false)), 4, .always⟩] [0, 1])
 (.seq (.seq (.ops [⟨some 22, .call { callee := .value (.func 7), args := #[], argTypes := #[] }, 4, .always⟩,
 ⟨some 23, .unOp .not 4 (.tmp 22), 4, .always⟩] [0, 1, 23])
 (.cond (.tmp 23)
 (.seq (.ops [⟨some 4, .assign (.const (.bool false)), 4, .always⟩] [4])
 (.ret))
 (.skip)))
 (.seq (.seq (.ops [⟨some 24, .move (.tmp 0), 22, .always⟩,
 ⟨some 25, .call { callee := .value (.func 8), args := #[.tmp 24], argTypes := #[22] }, 4, .always⟩,
 ⟨some 26, .unOp .not 4 (.tmp 25), 4, .always⟩] [0, 1, 26])
 (.cond (.tmp 26)
 (.seq (.ops [⟨some 4, .assign (.const (.bool true)), 4, .always⟩] [4])
 (.ret))
 (.skip)))
 (.seq (.ops [⟨some 27, .move (.tmp 0), 22, .always⟩,
 ⟨some 28, .call { callee := .value (.func 9), args := #[.tmp 27], argTypes := #[22] }, 25, .always⟩,
 ⟨some 5, .assign (.tmp 28), 25, .always⟩] [1, 5])
 (.seq (.ops [⟨some 29, .move (.tmp 5), 25, .always⟩,
 ⟨some 30, .call { callee := .value (.func 10), args := #[.tmp 29], argTypes := #[25] }, 27, .always⟩,
 ⟨some 6, .assign (.tmp 30), 27, .always⟩] [1, 5, 6])
 (.seq (.ops [⟨some 31, .call { callee := .value (.func 27), args := #[], argTypes := #[] }, 30, .always⟩,
 ⟨some 7, .alloc 30, 0, .always⟩,
 ⟨none, .store 30 (.tmp 7) (.tmp 31), 0, .always⟩] [1, 5, 6, 7])
 (.seq (.ops [⟨some 32, .move (.tmp 5), 25, .always⟩,
 ⟨some 33, .move (.tmp 6), 27, .always⟩,
 ⟨some 34, .load 30 (.tmp 7), 30, .always⟩,
 ⟨some 35, .call { callee := .value (.func 23), args := #[.tmp 32, .tmp 33, .tmp 34, .const (.int .i64 2)], argTypes := #[25, 27, 30, 3] }, 51, .always⟩,
 ⟨some 8, .alloc 51, 0, .always⟩,
 ⟨none, .store 51 (.tmp 8) (.tmp 35), 0, .always⟩] [1, 5, 6, 7, 8])
 (.seq (.draw [⟨some 36, .move (.tmp 5), 25, .always⟩,
 ⟨some 37, .move (.tmp 6), 27, .always⟩,
 ⟨some 38, .call { callee := .builtin .append, args := #[.const (.slice none 0 0), .tmp 37], argTypes := #[27, 27] }, 27, .always⟩,
 ⟨some 39, .load 30 (.tmp 7), 30, .always⟩,
 ⟨some 40, .buildSlice 27 1 #[(0, .tmp 39)], 27, .always⟩,
 ⟨some 41, .call { callee := .builtin .append, args := #[.tmp 38, .tmp 40], argTypes := #[27, 27] }, 27, .always⟩,
 ⟨some 42, .call { callee := .value (.func 20), args := #[.tmp 36, .tmp 41, .const (.int .i64 2)], argTypes := #[25, 27, 3] }, 35, .always⟩,
 ⟨some 9, .alloc 35, 0, .always⟩,
 ⟨none, .store 35 (.tmp 9) (.tmp 42), 0, .always⟩] [false, false, true, true, false, true, true, true, false] [1, 5, 6, 7, 8, 9])
 (.seq (.seq (.ops [⟨some 43, .move (.tmp 5), 25, .always⟩,
 ⟨some 44, .call { callee := .value (.func 28), args := #[.tmp 43, .const (.int .i64 2)], argTypes := #[25, 3] }, 3, .always⟩,
 ⟨some 45, .binOp .eql 3 (.tmp 44) (.const (.int .i64 0)) 3, 4, .always⟩] [1, 5, 6, 7, 8, 9, 45])
 (.cond (.tmp 45)
 (.draw [⟨some 46, .move (.tmp 5), 25, .always⟩,
 ⟨some 47, .move (.tmp 6), 27, .always⟩,
 ⟨some 48, .call { callee := .builtin .append, args := #[.const (.slice none 0 0), .tmp 47], argTypes := #[27, 27] }, 27, .always⟩,
 ⟨some 49, .load 30 (.tmp 7), 30, .always⟩,
 ⟨some 50, .buildSlice 27 1 #[(0, .tmp 49)], 27, .always⟩,
 ⟨some 51, .call { callee := .builtin .append, args := #[.tmp 48, .tmp 50], argTypes := #[27, 27] }, 27, .always⟩,
 ⟨some 52, .call { callee := .value (.func 12), args := #[.tmp 46, .tmp 51, .const (.int .i64 2)], argTypes := #[25, 27, 3] }, 35, .always⟩,
 ⟨none, .store 35 (.tmp 9) (.tmp 52), 0, .always⟩] [false, false, true, true, false, false, false, false] [1, 6, 8, 9])
 (.skip)))
 (.seq (.ops [⟨some 54, .move (.tmp 1), 4, .always⟩,
 ⟨some 55, .load 51 (.tmp 8), 51, .always⟩,
 ⟨some 56, .load 35 (.tmp 9), 35, .always⟩,
 ⟨some 57, .call { callee := .value (.func 29), args := #[.tmp 54, .tmp 55, .tmp 56], argTypes := #[4, 51, 35] }, 47, .always⟩,
 ⟨some 53, .move (.tmp 57), 47, .always⟩,
 ⟨some 58, .extract (.tmp 53) 0, 35, .always⟩,
 ⟨some 59, .extract (.tmp 53) 1, 43, .always⟩,
 ⟨some 10, .alloc 35, 0, .always⟩,
 ⟨none, .store 35 (.tmp 10) (.tmp 58), 0, .always⟩,
 ⟨some 11, .assign (.tmp 59), 43, .always⟩] [1, 6, 8, 9, 10, 11])
 (.seq (.ops [⟨some 61, .load 35 (.tmp 10), 35, .always⟩,
 ⟨some 62, .call { callee := .value (.func 30), args := #[.tmp 61], argTypes := #[35] }, 58, .always⟩,
 ⟨some 60, .move (.tmp 62), 58, .always⟩,
 ⟨some 63, .extract (.tmp 60) 0, 4, .always⟩,
 ⟨some 64, .extract (.tmp 60) 1, 51, .always⟩,
 ⟨some 65, .extract (.tmp 60) 2, 35, .always⟩,
 ⟨some 66, .extract (.tmp 60) 3, 4, .always⟩,
 ⟨some 13, .alloc 51, 0, .always⟩,
 ⟨some 14, .alloc 35, 0, .always⟩,
 ⟨some 12, .assign (.tmp 63), 4, .always⟩,
 ⟨none, .store 51 (.tmp 13) (.tmp 64), 0, .always⟩,
 ⟨none, .store 35 (.tmp 14) (.tmp 65), 0, .always⟩,
 ⟨some 15, .assign (.tmp 66), 4, .always⟩] [1, 6, 8, 9, 10, 11, 12, 13, 14, 15])
 (.seq (.ops [⟨some 68, .load 35 (.tmp 10), 35, .always⟩,
 ⟨some 69, .call { callee := .value (.func 26), args := #[.tmp 68], argTypes := #[35] }, 53, .always⟩,
 ⟨some 67, .move (.tmp 69), 53, .always⟩,
 ⟨some 70, .extract (.tmp 67) 0, 4, .always⟩,
 ⟨some 71, .extract (.tmp 67) 1, 43, .always⟩,
 ⟨some 16, .assign (.tmp 70), 4, .always⟩,
 ⟨some 17, .assign (.tmp 71), 43, .always⟩] [1, 6, 8, 9, 10, 11, 12, 13, 14, 15, 16, 17])
 (.seq (.ops [⟨some 73, .load 35 (.tmp 9), 35, .always⟩,
 ⟨some 74, .call { callee := .value (.func 26), args := #[.tmp 73], argTypes := #[35] }, 53, .always⟩,
 ⟨some 72, .move (.tmp 74), 53, .always⟩,
 ⟨some 75, .extract (.tmp 72) 0, 4, .always⟩,
 ⟨some 76, .extract (.tmp 72) 1, 43, .always⟩,
 ⟨some 18, .assign (.tmp 75), 4, .always⟩,
 ⟨some 19, .assign (.tmp 76), 43, .always⟩] [1, 6, 8, 9, 10, 11, 12, 13, 14, 15, 16, 17, 18, 19])
 (.seq (.ops [⟨some 78, .load 35 (.tmp 10), 35, .always⟩,
 ⟨some 79, .call { callee := .value (.func 25), args := #[.tmp 78], argTypes := #[35] }, 53, .always⟩,
 ⟨some 77, .move (.tmp 79), 53, .always⟩,
 ⟨some 80, .extract (.tmp 77) 0, 4, .always⟩,
 ⟨some 81, .extract (.tmp 77) 1, 43, .always⟩,
 ⟨some 20, .assign (.tmp 80), 4, .always⟩,
 ⟨some 21, .assign (.tmp 81), 43, .always⟩] [1, 6, 8, 9, 10, 11, 12, 13, 14, 15, 16, 17, 18, 19, 20, 21])
 (.seq (.ops [⟨some 82, .move (.tmp 11), 43, .always⟩,
 ⟨some 83, .binOp .eql 43 (.tmp 82) (.const (.int .i64 0)) 43, 4, .always⟩,
 ⟨some 84, .move (.tmp 83), 4, .always⟩,
 ⟨some 85, .move (.tmp 17), 43, .tmp 84 true⟩,
 ⟨some 86, .binOp .eql 43 (.tmp 85) (.const (.int .i64 0)) 43, 4, .tmp 84 true⟩,
 ⟨some 87, .pick (.tmp 84) (.tmp 86) (.const (.bool false)), 4, .always⟩,
 ⟨some 88, .move (.tmp 87), 4, .always⟩,
 ⟨some 89, .move (.tmp 19), 43, .tmp 88 true⟩,
 ⟨some 90, .binOp .eql 43 (.tmp 89) (.const (.int .i64 0)) 43, 4, .tmp 88 true⟩,
 ⟨some 91, .pick (.tmp 88) (.tmp 90) (.const (.bool false)), 4, .always⟩,
 ⟨some 92, .move (.tmp 91), 4, .always⟩,
 ⟨some 93, .move (.tmp 21), 43, .tmp 92 true⟩,
 ⟨some 94, .binOp .eql 43 (.tmp 93) (.const (.int .i64 0)) 43, 4, .tmp 92 true⟩,
 ⟨some 95, .pick (.tmp 92) (.tmp 94) (.const (.bool false)), 4, .always⟩,
 ⟨some 96, .move (.tmp 95), 4, .always⟩,
 ⟨some 97, .move (.tmp 15), 4, .tmp 96 true⟩,
 ⟨some 98, .pick (.tmp 96) (.tmp 97) (.const (.bool false)), 4, .always⟩,
 ⟨some 99, .move (.tmp 98), 4, .always⟩,
 ⟨some 100, .move (.tmp 12), 4, .tmp 99 true⟩,
 ⟨some 101, .move (.tmp 1), 4, .tmp 99 true⟩,
 ⟨some 102, .binOp .eql 4 (.tmp 100) (.tmp 101) 4, 4, .tmp 99 true⟩,
 ⟨some 103, .pick (.tmp 99) (.tmp 102) (.const (.bool false)), 4, .always⟩,
 ⟨some 104, .move (.tmp 103), 4, .always⟩,
 ⟨some 105, .load 51 (.tmp 8), 51, .tmp 104 true⟩,
 ⟨some 106, .load 51 (.tmp 13), 51, .tmp 104 true⟩,
 ⟨some 107, .call { callee := .value (.func 31), args := #[.tmp 105, .tmp 106], argTypes := #[51, 51] }, 4, .tmp 104 true⟩,
 ⟨some 108, .pick (.tmp 104) (.tmp 107) (.const (.bool false)), 4, .always⟩,
 ⟨some 109, .move (.tmp 108), 4, .always⟩,
 ⟨some 110, .load 35 (.tmp 9), 35, .tmp 109 true⟩,
 ⟨some 111, .load 35 (.tmp 14), 35, .tmp 109 true⟩,
 ⟨some 112, .call { callee := .value (.func 17), args := #[.tmp 110, .tmp 111], argTypes := #[35, 35] }, 4, .tmp 109 true⟩,
 ⟨some 113, .pick (.tmp 109) (.tmp 112) (.const (.bool false)), 4, .always⟩,
 ⟨some 114, .move (.tmp 113), 4, .always⟩,
 ⟨some 115, .move (.tmp 16), 4, .tmp 114 true⟩,
 ⟨some 116, .move (.tmp 18), 4, .tmp 114 true⟩,
 ⟨some 117, .binOp .eql 4 (.tmp 115) (.tmp 116) 4, 4, .tmp 114 true⟩,
 ⟨some 118, .pick (.tmp 114) (.tmp 117) (.const (.bool false)), 4, .always⟩,
 ⟨some 119, .move (.tmp 118), 4, .always⟩,
 ⟨some 120, .move (.tmp 20), 4, .tmp 119 true⟩,
 ⟨some 121, .unOp .not 4 (.tmp 120), 4, .tmp 119 true⟩,
 ⟨some 122, .pick (.tmp 119) (.tmp 121) (.const (.bool false)), 4, .always⟩,
 ⟨some 123, .move (.tmp 122), 4, .always⟩,
 ⟨some 124, .move (.tmp 6), 27, .tmp 123 true⟩,
 ⟨some 125, .load 35 (.tmp 10), 35, .tmp 123 true⟩,
 ⟨some 126, .call { callee := .value (.func 32), args := #[.tmp 124, .tmp 125], argTypes := #[27, 35] }, 43, .tmp 123 true⟩,
 ⟨some 127, .binOp .eql 43 (.tmp 126) (.const (.int .i64 0)) 43, 4, .tmp 123 true⟩,
 ⟨some 128, .pick (.tmp 123) (.tmp 127) (.const (.bool false)), 4, .always⟩,
 ⟨some 4, .assign (.tmp 128), 4, .always⟩] [4])
 (.ret)))))))))))))))
theorem w5 {args : List PV} {σ σ' : List Frm} {r : Ret} (hr : ∀ p, r = .val p → erV p = p) (h : wpP cfg s5 (QEndP cfg [.tmp 4] σ' r) ⟨initEnv args, fun _ => [], σ, ⟨fun _ => false, 0⟩⟩) : CallsV cfg 5 args σ r σ' :=
 callsV_of_p follows cfgT a5 (fn := Tryz.f5) (c := Tryz.f5.body.getD .skip) (by kernel_rfl) (by kernel_rfl) (by kernel_rfl) (by kernel_rfl) (by kernel_rfl) (sc := s5) (by kernel_rfl) [.tmp 4] (by kernel_rfl) hr h
end
end Go.Proofs.YtcgmhnlmgomlgaaGreatDoor.V

set_option maxRecDepth 100000
namespace Go.Proofs.YtcgmhnlmgomlgaaGreatDoor.V
open Go Go.Proofs
noncomputable section
end
end Go.Proofs.YtcgmhnlmgomlgaaGreatDoor.V

set_option maxRecDepth 100000
namespace Go.Proofs.YtcgmhnlmgomlgaaGreatDoor.V
open Go Go.Proofs
theorem drop_cons {α : Type} {l : List α} {j : Nat} (h : j < l.length) : ∃ x, l[j]? = some x ∧ l.drop j = x :: l.drop (j + 1) ∧ x ∈ l := ⟨l[j], List.getElem?_eq_getElem h, List.drop_eq_getElem_cons h, List.getElem_mem h⟩
def i52 (k : Int) (l : List Ty) (σ : List Frm) (j : Nat) : St → Prop
  | ⟨env, loc, σ', live⟩ => ∃ ow, env = mkE [(1, .one (.box σ.length 1 0 0)), (2, .one (.box σ.length 2 0 0)), (3, .one (.slice ow 2 ((l.take j).map enc))), (7, .one (.slice .no 2 (l.map enc))), (8, .one (.int .i64 l.length)), (9, .one (.int .i64 j))] ∧
    loc 1 = [enc (.mk k l)] ∧ loc 2 = [[Cell.int .i64 0, .slice .full 2 []]] ∧ σ' = σ ∧ okOwn live ow
theorem c52 (t : Ty) : t.size ≤ 1099511627776 → ∀ (σ : List Frm), CallsV cfg 52 [.agg (enc t)] σ (.val (.agg (enc t))) σ := by
  induction t using Ty.ind with
  | _ k l ih =>
  intro hsz σ
  simp at hsz
  have hlen := Ty.length_le l
  refine w52 (by simp) ?_
  rw [s52]
  simp
  refine wpP_range l.length (i52 k l σ) (by omega) ⟨.full, by simp, by simp, by simp, rfl, by simp⟩ ?_ ?_ (hend := ?_)
  · rintro j ⟨_, loc, _, live⟩ ⟨ow, rfl, h1, h2, rfl, how⟩
    simp
  · rintro j ⟨_, loc, _, live⟩ hj ⟨ow, rfl, h1, h2, rfl, how⟩
    obtain ⟨x, hx, hd, hm⟩ := drop_cons hj
    have := Ty.sizes_mem hm
    simp [hx]
    refine opV_call (ih x hm (by omega) _) (by simp) ?_
    simp [how]
    refine ⟨by omega, by omega, .tip live.nx, ?_, by simp [h1], by simp [h2], rfl, grown_on⟩
    simp [List.take_add_one, hx]
  · rintro ⟨_, loc, _, live⟩ ⟨ow, rfl, h1, h2, rfl, how⟩
    simp [h1, h2]
theorem c49 (a b : Ty) (ha : a.size ≤ 1099511627776) (hb : b.size ≤ 1099511627776) (σ : List Frm) : CallsV cfg 49 [.agg (enc a), .agg (enc b)] σ (.val (.agg (enc (.mk 3 [a, b])))) σ := by
  refine w49 (by simp) ?_
  rw [s49]
  simp
  refine wpP_draw (fun _ _ _ => false) ?_
  simp
  refine stepD_call (c52 _ ha _) (by simp) ?_
  simp
  refine stepD_call (c52 _ hb _) (by simp) ?_
  simp
theorem c50 (a b : Ty) (ha : a.size ≤ 1099511627776) (hb : b.size ≤ 1099511627776) (σ : List Frm) : CallsV cfg 50 [.agg (enc a), .agg (enc b)] σ (.val (.agg (enc (.mk 4 [a, b])))) σ := by
  refine w50 (by simp) ?_
  rw [s50]
  simp
  refine wpP_draw (fun _ _ _ => false) ?_
  simp
  refine stepD_call (c52 _ ha _) (by simp) ?_
  simp
  refine stepD_call (c52 _ hb _) (by simp) ?_
  simp
theorem c47 (σ : List Frm) : CallsV cfg 47 [] σ (.val (.agg (enc (.mk 2 [])))) σ := by
  refine w47 (by simp) ?_
  rw [s47]
  simp
theorem c27 (σ : List Frm) : CallsV cfg 27 [] σ (.val (.agg (enc (.mk 1 [])))) σ := by
  refine w27 (by simp) ?_
  rw [s27]
  simp
theorem c48 (σ : List Frm) : CallsV cfg 48 [] σ (.val (.agg (enc (.mk 5 [])))) σ := by
  refine w48 (by simp) ?_
  rw [s48]
  simp
def i16 (k k' : Int) (l m : List Ty) (σ : List Frm) (j : Nat) : St → Prop
  | ⟨env, loc, σ', _⟩ => env = mkE [(2, .one (.box σ.length 2 0 0)), (3, .one (.box σ.length 3 0 0)), (22, .one (.int .i64 l.length)), (23, .one (.int .i64 j))] ∧
    loc 2 = [enc (.mk k l)] ∧ loc 3 = [enc (.mk k' m)] ∧ σ' = σ ∧ Ty.sames l m = Ty.sames (l.drop j) (m.drop j)
theorem c16 (a : Ty) : ∀ (b : Ty), a.size ≤ 1099511627776 → ∀ (σ : List Frm), CallsV cfg 16 [.agg (enc a), .agg (enc b)] σ (.val (.one (.bool (Ty.same a b)))) σ := by
  induction a using Ty.ind with
  | _ k l ih =>
  rintro ⟨k', m⟩ hsz σ
  simp at hsz
  have hlen := Ty.length_le l
  refine w16 (by simp) ?_
  rw [s16]
  by_cases hk : k = k'
  rotate_left
  · simp [hk]
  subst hk
  by_cases hl : l.length = m.length
  rotate_left
  · have : Ty.sames l m = false := by
      cases h : Ty.sames l m with
      | false => rfl
      | true => exact absurd (Ty.sames_length h) hl
    have hl' : ((l.length : Int) == (m.length : Int)) = false := by simpa using (by omega : ¬ (l.length : Int) = m.length)
    simp [hl', this, bne]
  have hl' : ((l.length : Int) == (m.length : Int)) = true := by rw [hl]; simp
  simp [hl', bne]
  refine wpP_range l.length (i16 k k l m σ) (by omega) ⟨by simp, by simp, by simp, rfl, by simp⟩ ?_ ?_ (hend := ?_)
  · rintro j ⟨_, loc, _, live⟩ ⟨rfl, h1, h2, rfl, hs⟩
    simp
  · rintro j ⟨_, loc, _, live⟩ hj ⟨rfl, h1, h2, rfl, hs⟩
    obtain ⟨x, hx, hd, hmx⟩ := drop_cons hj
    obtain ⟨y, hy, hd', _⟩ := drop_cons (hl ▸ hj)
    have := Ty.sizes_mem hmx
    simp
    refine wpP_draw (fun _ _ _ => false) ?_
    simp [h1, h2, hx, hy]
    refine stepD_call (ih x hmx y (by omega) _) (by simp) ?_
    rw [hd, hd', Ty.sames_cons] at hs
    cases hxy : Ty.same x y with
    | false =>
      rw [hxy] at hs
      simp [hs]
    | true =>
      rw [hxy] at hs
      simp
      exact ⟨by simp, h1, h2, rfl, by simpa using hs⟩
  · rintro ⟨_, loc, _, live⟩ ⟨rfl, h1, h2, rfl, hs⟩
    rw [List.drop_length, hl, List.drop_length] at hs
    simp [hs]
def encI (l : List Int) : List (List Cell) := l.map fun n => [.int .i64 n]
theorem encI_get {l : List Int} {j : Nat} {n : Int} (h : l[j]? = some n) : (encI l)[j]? = some [.int .i64 n] := by simp [encI, h]
@[simp] theorem encI_length (l : List Int) : (encI l).length = l.length := by simp [encI]
end Go.Proofs.YtcgmhnlmgomlgaaGreatDoor.V

set_option maxRecDepth 100000
namespace Go.Proofs.YtcgmhnlmgomlgaaGreatDoor.V
open Go Go.Proofs
theorem len_ne {n : Nat} {m : Int} (h : ¬ (n : Int) = m) : ((n : Int) == m) = false := by simp [h]
def r163 (k : Int) (l : List Ty) (σ : List Frm) : St → Prop
  | ⟨env, loc, σ', _⟩ => ∃ n : Nat, tyArity k = some n ∧ env 1 = .one (.box σ.length 1 0 0) ∧ env 3 = .one (.int .i64 n) ∧ loc 1 = [enc (.mk k l)] ∧ σ' = σ
def i146 (l : List Ty) (σ : List Frm) (j : Nat) : St → Prop
  | ⟨env, _, σ', _⟩ => env = mkE [(21, .one (.slice .no 2 (l.map enc))), (22, .one (.int .i64 l.length)), (23, .one (.int .i64 j))] ∧ σ' = σ ∧ Ty.oks l = Ty.oks (l.drop j)
theorem c146 (t : Ty) : t.size ≤ 1099511627776 → ∀ (σ : List Frm), CallsV cfg 146 [.agg (enc t)] σ (.val (.one (.bool t.ok))) σ := by
  induction t using Ty.ind with
  | _ k l ih =>
  intro hsz σ
  simp at hsz
  have hlen := Ty.length_le l
  refine w146 (by simp) ?_
  rw [s146]
  simp [-wpP_block]
  refine cut (r163 k l σ) ?_ ?_
  · have hcase : k = 1 ∨ k = 2 ∨ k = 5 ∨ k = 3 ∨ k = 4 ∨ (tyArity k = none ∧ k ≠ 1 ∧ k ≠ 2 ∧ k ≠ 5 ∧ k ≠ 3 ∧ k ≠ 4) := by
      unfold tyArity
      by_cases a1 : k = 1 ∨ k = 2 ∨ k = 5
      · omega
      · by_cases a2 : k = 3 ∨ k = 4
        · omega
        · rw [if_neg a1, if_neg a2]; simp; omega
    rcases hcase with rfl | rfl | rfl | rfl | rfl | ⟨h, h1, h2, h3, h4, h5⟩
    · simp; exact ⟨0, by simp [tyArity], by simp, by simp, by simp, rfl⟩
    · simp; exact ⟨0, by simp [tyArity], by simp, by simp, by simp, rfl⟩
    · simp; exact ⟨0, by simp [tyArity], by simp, by simp, by simp, rfl⟩
    · simp; exact ⟨2, by simp [tyArity], by simp, by simp, by simp, rfl⟩
    · simp; exact ⟨2, by simp [tyArity], by simp, by simp, by simp, rfl⟩
    · simp [h, h1, h2, h3, h4, h5]
  · rintro ⟨env, loc, σ', live⟩ ⟨n, hn, e1, e3, h1, rfl⟩
    by_cases hl : (l.length : Int) = n
    rotate_left
    · have hl2 : ¬ l.length = n := by omega
      have hl3 : ¬ n = l.length := by omega
      simp [e1, e3, h1, len_ne hl, hn, bne, hl3]
    · have hl2 : n = l.length := by omega
      subst hl2
      simp [e1, e3, h1, hn, bne]
      refine wpP_range l.length (i146 l σ') (by omega) ⟨by simp, rfl, by simp⟩ ?_ ?_ (hend := ?_)
      · rintro j ⟨_, loc, _, live⟩ ⟨rfl, rfl, hs⟩
        simp
      · rintro j ⟨_, loc, _, live⟩ hj ⟨rfl, rfl, hs⟩
        obtain ⟨x, hx, hd, hmx⟩ := drop_cons hj
        have := Ty.sizes_mem hmx
        rw [hd, Ty.oks_cons] at hs
        simp [hx]
        refine opV_call (ih x hmx (by omega) _) (by simp) ?_
        cases hxy : x.ok with
        | false => rw [hxy] at hs; simp [hs]
        | true =>
          rw [hxy] at hs
          simp
          exact ⟨by simp, rfl, by simpa using hs⟩
      · rintro ⟨_, loc, _, live⟩ ⟨rfl, rfl, hs⟩
        rw [List.drop_length] at hs
        simp [hs]
def i147 (l : List Ty) (σ : List Frm) (j : Nat) : St → Prop
  | ⟨env, _, σ', _⟩ => env 3 = .one (.int .i64 ((1 + Ty.sizes (l.take j) : Nat) : Int)) ∧ env 7 = .one (.slice .no 2 (l.map enc)) ∧ env 8 = .one (.int .i64 l.length) ∧ env 9 = .one (.int .i64 j) ∧ σ' = σ
theorem c147 (t : Ty) : t.size ≤ 1099511627776 → ∀ (σ : List Frm), CallsV cfg 147 [.agg (enc t)] σ (.val (.one (.int .i64 t.size))) σ := by
  induction t using Ty.ind with
  | _ k l ih =>
  intro hsz σ
  simp at hsz
  have hlen := Ty.length_le l
  refine w147 (by simp) ?_
  rw [s147]
  simp
  refine wpP_range l.length (i147 l σ) (by omega) ⟨by simp, by simp, by simp, by simp, rfl⟩ ?_ ?_ (hend := ?_)
  · rintro j ⟨env, loc, σ', live⟩ ⟨h3, h7, h8, h9, hσ⟩
    exact ⟨h9, h8⟩
  · rintro j ⟨env, loc, σ', live⟩ hj ⟨h3, h7, h8, h9, hσ⟩
    obtain ⟨x, hx, hd, hmx⟩ := drop_cons hj
    have := Ty.sizes_mem hmx
    have h1 := Ty.sizes_take hx
    have h2 := Ty.sizes_take_le l (j + 1)
    simp [h3, h7, h8, h9, hx]
    refine opV_call (ih x hmx (by omega) _) (by simp) ?_
    simp
    rw [wrap_id (by omega) (by omega)]
    refine ⟨?_, by simp, by simp, by simp, hσ⟩
    simp [h1]
    omega
  · rintro ⟨env, loc, σ', live⟩ ⟨h3, h7, h8, h9, hσ⟩
    rw [List.take_length] at h3
    simp [h3, hσ]
theorem c124 (t : Ty) (hsz : t.size ≤ 1099511627776) (σ : List Frm) : CallsV cfg 124 [.agg (enc t)] σ (.val (.one (.int .i64 t.check))) σ := by
  refine w124 (by simp) ?_
  rw [s124]
  simp
  refine opV_call (c146 t hsz _) (by simp) ?_
  unfold Ty.check
  cases hok : t.ok with
  | false => simp
  | true =>
    simp
    refine opV_call (c147 t hsz _) (by simp) ?_
    by_cases h : t.size ≤ 64
    · have h' : ¬ ((64 : Int) < t.size) := by omega
      simp [h, h']
    · have h' : ((64 : Int) < t.size) := by omega
      simp [h, h']
def r192 (k : Int) (l : List Ty) (σ : List Frm) : St → Prop
  | ⟨env, loc, σ', _⟩ => ∃ n : Nat, tyArity k = some n ∧ env 1 = .one (.box σ.length 1 0 0) ∧ env 4 = .one (.int .i64 n) ∧ loc 1 = [enc (.mk k l)] ∧ σ' = σ
def i160 (l : List Ty) (σ : List Frm) (j : Nat) : St → Prop
  | ⟨env, _, σ', _⟩ => env 5 = .one (.int .i64 ((1 + Ty.sizes (l.take j) : Nat) : Int)) ∧ env 25 = .one (.slice .no 2 (l.map enc)) ∧ env 26 = .one (.int .i64 l.length) ∧ env 27 = .one (.int .i64 j) ∧ σ' = σ ∧ Ty.oks l = Ty.oks (l.drop j)
def Ty.nodes (t : Ty) : PV := .tup [.one (.int .i64 (if t.ok = true then (t.size : Int) else 0)), .one (.bool t.ok)]
theorem c160 (t : Ty) : t.size ≤ 1099511627776 → ∀ (σ : List Frm), CallsV cfg 160 [.agg (enc t)] σ (.val t.nodes) σ := by
  induction t using Ty.ind with
  | _ k l ih =>
  intro hsz σ
  simp at hsz
  have hlen := Ty.length_le l
  refine w160 (by simp [Ty.nodes]) ?_
  rw [s160]
  simp [-wpP_block]
  refine cut (r192 k l σ) ?_ ?_
  · have hcase : k = 1 ∨ k = 2 ∨ k = 5 ∨ k = 3 ∨ k = 4 ∨ (tyArity k = none ∧ k ≠ 1 ∧ k ≠ 2 ∧ k ≠ 5 ∧ k ≠ 3 ∧ k ≠ 4) := by
      unfold tyArity
      by_cases a1 : k = 1 ∨ k = 2 ∨ k = 5
      · omega
      · by_cases a2 : k = 3 ∨ k = 4
        · omega
        · rw [if_neg a1, if_neg a2]; simp; omega
    rcases hcase with rfl | rfl | rfl | rfl | rfl | ⟨h, h1, h2, h3, h4, h5⟩
    · simp; exact ⟨0, by simp [tyArity], by simp, by simp, by simp, rfl⟩
    · simp; exact ⟨0, by simp [tyArity], by simp, by simp, by simp, rfl⟩
    · simp; exact ⟨0, by simp [tyArity], by simp, by simp, by simp, rfl⟩
    · simp; exact ⟨2, by simp [tyArity], by simp, by simp, by simp, rfl⟩
    · simp; exact ⟨2, by simp [tyArity], by simp, by simp, by simp, rfl⟩
    · simp [h, h1, h2, h3, h4, h5, Ty.nodes]
  · rintro ⟨env, loc, σ', live⟩ ⟨n, hn, e1, e4, h1, rfl⟩
    by_cases hl : (l.length : Int) = n
    rotate_left
    · have hl3 : ¬ n = l.length := by omega
      simp [e1, e4, h1, len_ne hl, hn, bne, hl3, Ty.nodes]
    · have hl2 : n = l.length := by omega
      subst hl2
      simp [e1, e4, h1, hn, bne]
      refine wpP_range l.length (i160 l σ') (by omega) ⟨by simp, by simp, by simp, by simp, rfl, by simp⟩ ?_ ?_ (hend := ?_)
      · rintro j ⟨env, loc, σ'', live⟩ ⟨h5, h25, h26, h27, rfl, hs⟩
        exact ⟨h27, h26⟩
      · rintro j ⟨env, loc, σ'', live⟩ hj ⟨h5, h25, h26, h27, rfl, hs⟩
        obtain ⟨x, hx, hd, hmx⟩ := drop_cons hj
        have := Ty.sizes_mem hmx
        have h1 := Ty.sizes_take hx
        have h2 := Ty.sizes_take_le l (j + 1)
        rw [hd, Ty.oks_cons] at hs
        simp [h5, h25, h26, h27, hx]
        refine opV_call (ih x hmx (by omega) _) (by simp) ?_
        cases hxy : x.ok with
        | false => rw [hxy] at hs; simp [hs, hn, hxy, Ty.nodes]
        | true =>
          rw [hxy] at hs
          simp [hxy, Ty.nodes]
          rw [wrap_id (by omega) (by omega)]
          refine ⟨?_, by simp, by simp, by simp, rfl, by simpa using hs⟩
          simp [h1]
          omega
      · rintro ⟨env, loc, σ'', live⟩ ⟨h5, h25, h26, h27, rfl, hs⟩
        rw [List.drop_length] at hs
        rw [List.take_length] at h5
        simp [h5, hs, hn, Ty.nodes]
theorem c157 (t : Ty) (hsz : t.size ≤ 1099511627776) (σ : List Frm) : CallsV cfg 157 [.agg (enc t)] σ (.val (.tup [.one (.int .i64 (if t.check = 0 then (t.size : Int) else 0)), .one (.int .i64 t.check)])) σ := by
  refine w157 (by simp) ?_
  rw [s157]
  simp
  refine opV_call (c160 t hsz _) (by simp) ?_
  unfold Ty.check
  cases hok : t.ok with
  | false => simp [Ty.nodes, hok]
  | true =>
    by_cases h : t.size ≤ 64
    · have h' : ¬ ((64 : Int) < t.size) := by omega
      simp [Ty.nodes, hok, h, h']
    · have h' : ((64 : Int) < t.size) := by omega
      simp [Ty.nodes, hok, h, h']
end Go.Proofs.YtcgmhnlmgomlgaaGreatDoor.V

set_option maxRecDepth 100000
namespace Go.Proofs.YtcgmhnlmgomlgaaGreatDoor.V
open Go Go.Proofs
@[simp] theorem oper_global {env : Nat → PV} : oper cfg env (.global 0) = .one (.cptr arity 0) := by simp [oper, cfg]
def optPV : Option Nat → PV
  | some n => .tup [.one (.int .i64 n), .one (.bool true)]
  | none => .tup [.one (.int .i64 0), .one (.bool false)]
@[simp] theorem optPV_er (o : Option Nat) : erV (optPV o) = optPV o := by cases o <;> simp [optPV]
theorem c155 (k : Int) (σ : List Frm) : CallsV cfg 155 [.one (.int .i64 k)] σ (.val (optPV (tmArity k))) σ := by
  refine w155 (by simp) ?_
  rw [s155]
  by_cases h1 : k < 1
  · have : ¬ (1 ≤ k ∧ k < 14) := by omega
    simp [h1, tmArity, this, optPV]
  by_cases h2 : 14 ≤ k
  · have : ¬ (1 ≤ k ∧ k < 14) := by omega
    simp [h1, h2, tmArity, this, optPV]
  have hk : k = 1 ∨ k = 2 ∨ k = 3 ∨ k = 4 ∨ k = 5 ∨ k = 6 ∨ k = 7 ∨ k = 8 ∨ k = 9 ∨ k = 10 ∨ k = 11 ∨ k = 12 ∨ k = 13 := by omega
  rcases hk with rfl | rfl | rfl | rfl | rfl | rfl | rfl | rfl | rfl | rfl | rfl | rfl | rfl <;> simp [tmArity, optPV, arity]
theorem c156 (k : Int) (σ : List Frm) : CallsV cfg 156 [.one (.int .i64 k)] σ (.val (.one (.bool (tmTyped k)))) σ := by
  refine w156 (by simp) ?_
  rw [s156]
  by_cases h1 : k = 2
  · subst h1; simp [tmTyped]
  by_cases h2 : k = 6
  · subst h2; simp [tmTyped]
  simp [h1, h2, tmTyped]
theorem c158 (t : Ty) (σ : List Frm) : CallsV cfg 158 [.agg (enc t)] σ (.val (.one (.bool t.none))) σ := by
  obtain ⟨k, l⟩ := t
  refine w158 (by simp) ?_
  rw [s158]
  by_cases h : k = 0
  · subst h; cases l <;> simp [Ty.none] <;> omega
  · simp [h, Ty.none]
def Tm.nodes (t : Tm) : PV := .tup [.one (.int .i64 (if t.ok = true then (t.count : Int) else 0)), .one (.bool t.ok)]
def r171 (k i : Int) (t : Ty) (l : List Tm) (σ : List Frm) : St → Prop
  | ⟨env, loc, σ', _⟩ => Tm.head k i t l.length = true ∧ env 1 = .one (.box σ.length 1 0 0) ∧ loc 1 = [encT (.mk k i t l)] ∧ σ' = σ
def i149 (l : List Tm) (σ : List Frm) (j : Nat) : St → Prop
  | ⟨env, _, σ', _⟩ => env 8 = .one (.int .i64 ((1 + Tm.counts (l.take j) : Nat) : Int)) ∧ env 59 = .one (.slice .no 5 (l.map encT)) ∧ env 60 = .one (.int .i64 l.length) ∧ env 61 = .one (.int .i64 j) ∧ σ' = σ ∧ Tm.oks l = Tm.oks (l.drop j)
theorem c149 (t : Tm) : t.size ≤ 1099511627776 → ∀ (σ : List Frm), CallsV cfg 149 [.agg (encT t)] σ (.val t.nodes) σ := by
  induction t using Tm.ind with
  | _ k i t l ih =>
  intro hsz σ
  simp at hsz
  have hlen := Tm.length_le l
  refine w149 (by simp [Tm.nodes]) ?_
  rw [s149]
  refine cut4 (r171 k i t l σ) ?_ ?_
  · simp
    refine opV_call (c155 k _) (by simp) ?_
    cases ha : tmArity k with
    | none => simp [optPV, Tm.nodes, Tm.head, ha]
    | some n =>
      by_cases hn : (l.length : Int) = n
      rotate_left
      · have : ¬ n = l.length := by omega
        simp [optPV, Tm.nodes, Tm.head, ha, len_ne hn, bne, this]
      have hn2 : n = l.length := by omega
      subst hn2
      by_cases hi : i < 0
      · have : ¬ 0 ≤ i := by omega
        simp [optPV, Tm.nodes, Tm.head, ha, bne, hi, this]
      have hi' : 0 ≤ i := by omega
      by_cases hik : i = 0 ∨ k = 1
      rotate_left
      · have h1 : ¬ i = 0 := fun h => hik (.inl h)
        have h2 : ¬ k = 1 := fun h => hik (.inr h)
        simp [optPV, Tm.nodes, Tm.head, ha, bne, hi, h1, h2]
      have fin : Tm.head k i t l.length = (if tmTyped k = true then t.check == 0 else t.none) := by
        have : (i == 0 || k == 1) = true := by simpa using hik
        simp [Tm.head, ha, hi', this]
      have go : ∀ {P : Prop}, (i = 0 → P) → (¬ i = 0 → k = 1 → P) → P := fun h1 h2 => by
        by_cases h : i = 0
        · exact h1 h
        · exact h2 h (hik.resolve_left h)
      refine go (fun h0 => ?_) (fun h0 h1 => ?_)
      · subst h0
        simp [optPV, bne]
        refine opV_call (c156 k _) (by simp) ?_
        cases hty : tmTyped k with
        | true =>
          rw [hty] at fin
          simp
          refine opV_call (c157 t (by omega) _) (by simp) ?_
          by_cases hc : t.check = 0
          · simp [hc]
            exact ⟨by rw [fin]; simp [hc], by simp, by simp, rfl⟩
          · have hf : Tm.head k 0 t l.length = false := by rw [fin]; simp [hc]
            simp [hc, Tm.nodes, hf]
        | false =>
          rw [hty] at fin
          simp
          refine opV_call (c158 t _) (by simp) ?_
          cases hc : t.none with
          | true =>
            simp
            exact ⟨by rw [fin]; simp [hc], by simp, by simp, rfl⟩
          | false =>
            have hf : Tm.head k 0 t l.length = false := by rw [fin]; simp [hc]
            simp [Tm.nodes, hf]
      · subst h1
        have hty : tmTyped 1 = false := rfl
        rw [hty] at fin
        simp [optPV, bne, hi, h0]
        refine opV_call (c156 1 _) (by simp) ?_
        rw [hty]
        simp
        refine opV_call (c158 t _) (by simp) ?_
        cases hc : t.none with
        | true =>
          simp
          exact ⟨by rw [fin]; simp [hc], by simp, by simp, rfl⟩
        | false =>
          have hf : Tm.head 1 i t l.length = false := by rw [fin]; simp [hc]
          simp [Tm.nodes, hf]
  · rintro ⟨env, loc, σ', live⟩ ⟨hh, e1, h1, rfl⟩
    simp [e1, h1]
    refine wpP_range l.length (i149 l σ') (by omega) ⟨by simp, by simp, by simp, by simp, rfl, by simp⟩ ?_ ?_ (hend := ?_)
    · rintro j ⟨env, loc, σ'', live⟩ ⟨h8, h59, h60, h61, rfl, hs⟩
      exact ⟨h61, h60⟩
    · rintro j ⟨env, loc, σ'', live⟩ hj ⟨h8, h59, h60, h61, rfl, hs⟩
      obtain ⟨x, hx, hd, hmx⟩ := drop_cons hj
      have := Tm.sizes_mem hmx
      have h1 := Tm.counts_take hx
      have h2 := Tm.counts_take_le l (j + 1)
      have h3 := Tm.counts_le l
      rw [hd, Tm.oks_cons] at hs
      simp [h8, h59, h60, h61, hx]
      refine opV_call (ih x hmx (by omega) _) (by simp) ?_
      cases hxy : x.ok with
      | false => rw [hxy] at hs; simp [hs, hxy, Tm.nodes]
      | true =>
        rw [hxy] at hs
        simp [hxy, Tm.nodes]
        rw [wrap_id (by omega) (by omega)]
        refine ⟨?_, by simp, by simp, by simp, rfl, by simpa using hs⟩
        simp [h1]
        omega
    · rintro ⟨env, loc, σ'', live⟩ ⟨h8, h59, h60, h61, rfl, hs⟩
      rw [List.drop_length] at hs
      rw [List.take_length] at h8
      simp [h8, hs, hh, Tm.nodes]
end Go.Proofs.YtcgmhnlmgomlgaaGreatDoor.V

set_option maxRecDepth 100000
namespace Go.Proofs.YtcgmhnlmgomlgaaGreatDoor.V
open Go Go.Proofs
@[simp] theorem enc_app_take4 (t : Ty) (l : List Cell) : (enc t ++ l).take 4 = enc t ++ l.take 2 := by rw [enc_eq]; try rfl
def r179 (k : Int) (t : Ty) (m : List Tm) (l : List Fm) (σ : List Frm) : St → Prop
  | ⟨env, loc, σ', _⟩ => ∃ a b ty, fmArity k = some (a, b, ty) ∧ env 1 = .one (.box σ.length 1 0 0) ∧ env 3 = .one (.int .i64 (a : Nat)) ∧ env 4 = .one (.int .i64 (b : Nat)) ∧ env 5 = .one (.bool ty) ∧ loc 1 = [encF (.mk k t m l)] ∧ σ' = σ
theorem c150 (f : Fm) (hsz : f.size ≤ 1099511627776) (σ : List Frm) : CallsV cfg 150 [.agg (encF f)] σ (.val (.one (.bool (Fm.head f.kind f.type f.terms.length f.args.length)))) σ := by
  obtain ⟨k, t, m, l⟩ := f
  simp at hsz
  refine w150 (by simp) ?_
  rw [s150]
  simp [-wpP_block]
  refine cut (r179 k t m l σ) ?_ ?_
  · have hcase : k = 1 ∨ k = 2 ∨ k = 3 ∨ k = 4 ∨ k = 5 ∨ k = 6 ∨ k = 7 ∨ (k ≠ 1 ∧ k ≠ 2 ∧ k ≠ 3 ∧ k ≠ 4 ∧ k ≠ 5 ∧ k ≠ 6 ∧ k ≠ 7) := by omega
    rcases hcase with rfl | rfl | rfl | rfl | rfl | rfl | rfl | ⟨h1, h2, h3, h4, h5, h6, h7⟩
    · simp; exact ⟨2, 0, false, by simp [fmArity], by simp, by simp, by simp, by simp, by simp, rfl⟩
    · simp; exact ⟨0, 2, false, by simp [fmArity], by simp, by simp, by simp, by simp, by simp, rfl⟩
    · simp; exact ⟨0, 2, false, by simp [fmArity], by simp, by simp, by simp, by simp, by simp, rfl⟩
    · simp; exact ⟨0, 1, true, by simp [fmArity], by simp, by simp, by simp, by simp, by simp, rfl⟩
    · simp; exact ⟨0, 1, true, by simp [fmArity], by simp, by simp, by simp, by simp, by simp, rfl⟩
    · simp; exact ⟨0, 1, true, by simp [fmArity], by simp, by simp, by simp, by simp, by simp, rfl⟩
    · simp; exact ⟨0, 1, true, by simp [fmArity], by simp, by simp, by simp, by simp, by simp, rfl⟩
    · have hn : fmArity k = none := by simp [fmArity, h1, h2, h3, h4, h5, h6, h7]
      simp [h1, h2, h3, h4, h5, h6, h7, Fm.head, hn]
  · rintro ⟨env, loc, σ', live⟩ ⟨a, b, ty, ha, e1, e3, e4, e5, h1, rfl⟩
    have hh : Fm.head k t m.length l.length = ((if ty = true then t.check == 0 else t.none) && (m.length == a && l.length == b)) := by simp [Fm.head, ha]
    have fin : ∀ b1 : Bool, (if ty = true then t.check == 0 else t.none) = b1 → (Fm.head k t m.length l.length = (b1 && (m.length == a && l.length == b))) := fun b1 h => by rw [hh, h]
    cases ty with
    | true =>
      simp [e1, e5, h1]
      refine opV_call (c157 t (by omega) _) (by simp) ?_
      by_cases hc : t.check = 0
      · have hf := fin true (by simp [hc])
        by_cases hm : a = m.length
        · subst hm
          by_cases hl : b = l.length
          · subst hl
            simp [hc, e1, e3, e4, h1, hf]
          · have hl' : ¬ l.length = b := fun h => hl h.symm
            have hl2 : ¬ (l.length : Int) = b := by omega
            have hl3 : (l.length == b) = false := by simpa using hl'
            simp [hc, e1, e3, e4, h1, hf, hl3, len_ne hl2]
        · have hm' : ¬ m.length = a := fun h => hm h.symm
          have hm2 : ¬ (m.length : Int) = a := by omega
          have hm3 : (m.length == a) = false := by simpa using hm'
          simp [hc, e1, e3, e4, h1, hf, hm3, len_ne hm2]
      · have hf := fin false (by simp [hc])
        simp [hc, hf]
    | false =>
      simp [e1, e5, h1]
      refine opV_call (c158 t _) (by simp) ?_
      cases hc : t.none with
      | true =>
        have hf := fin true (by simp [hc])
        by_cases hm : a = m.length
        · subst hm
          by_cases hl : b = l.length
          · subst hl
            simp [hc, e1, e3, e4, h1, hf]
          · have hl' : ¬ l.length = b := fun h => hl h.symm
            have hl2 : ¬ (l.length : Int) = b := by omega
            have hl3 : (l.length == b) = false := by simpa using hl'
            simp [hc, e1, e3, e4, h1, hf, hl3, len_ne hl2]
        · have hm' : ¬ m.length = a := fun h => hm h.symm
          have hm2 : ¬ (m.length : Int) = a := by omega
          have hm3 : (m.length == a) = false := by simpa using hm'
          simp [hc, e1, e3, e4, h1, hf, hm3, len_ne hm2]
      | false =>
        have hf := fin false (by simp [hc])
        simp [hc, hf]
def Fm.nodes (f : Fm) : PV := .tup [.one (.int .i64 (if f.ok = true then (f.count : Int) else 0)), .one (.bool f.ok)]
def i129a (f : Fm) (m : List Tm) (σ : List Frm) (j : Nat) : St → Prop
  | ⟨env, loc, σ', _⟩ => env 1 = .one (.box σ.length 1 0 0) ∧ env 4 = .one (.int .i64 ((1 + Tm.counts (m.take j) : Nat) : Int)) ∧ env 17 = .one (.slice .no 5 (m.map encT)) ∧ env 18 = .one (.int .i64 m.length) ∧ env 19 = .one (.int .i64 j) ∧ loc 1 = [encF f] ∧ σ' = σ ∧ Tm.oks m = Tm.oks (m.drop j)
def i129b (n : Nat) (l : List Fm) (σ : List Frm) (j : Nat) : St → Prop
  | ⟨env, _, σ', _⟩ => env 4 = .one (.int .i64 ((n + Fm.counts (l.take j) : Nat) : Int)) ∧ env 35 = .one (.slice .no 5 (l.map encF)) ∧ env 36 = .one (.int .i64 l.length) ∧ env 37 = .one (.int .i64 j) ∧ σ' = σ ∧ Fm.oks l = Fm.oks (l.drop j)
theorem c129 (f : Fm) : f.size ≤ 1099511627776 → ∀ (σ : List Frm), CallsV cfg 129 [.agg (encF f)] σ (.val f.nodes) σ := by
  induction f using Fm.ind with
  | _ k t m l ih =>
  intro hsz σ
  have hhead := c150 (.mk k t m l) hsz
  simp at hsz hhead
  have hlm := Tm.length_le m
  have hll := Fm.length_le l
  have hcm := Tm.counts_le m
  have hcl := Fm.counts_le l
  refine w129 (by simp [Fm.nodes]) ?_
  rw [s129]
  simp
  refine opV_call (hhead _) (by simp) ?_
  cases hh : Fm.head k t m.length l.length with
  | false => simp [Fm.nodes, hh]
  | true =>
    simp
    refine wpP_range m.length (i129a (.mk k t m l) m σ) (by omega) ⟨by simp, by simp, by simp, by simp, by simp, by simp, rfl, by simp⟩ ?_ ?_ (hend := ?_)
    · rintro j ⟨env, loc, σ'', live⟩ ⟨h1, h4, h17, h18, h19, hl1, rfl, hs⟩
      exact ⟨h19, h18⟩
    · rintro j ⟨env, loc, σ'', live⟩ hj ⟨h1, h4, h17, h18, h19, hl1, rfl, hs⟩
      obtain ⟨x, hx, hd, hmx⟩ := drop_cons hj
      have := Tm.sizes_mem hmx
      have e1 := Tm.counts_take hx
      have e2 := Tm.counts_take_le m (j + 1)
      rw [hd, Tm.oks_cons] at hs
      simp [h1, h4, h17, h18, h19, hx]
      refine opV_call (c149 x (by omega) _) (by simp) ?_
      cases hxy : x.ok with
      | false => rw [hxy] at hs; simp [hs, hxy, Tm.nodes, Fm.nodes]
      | true =>
        rw [hxy] at hs
        simp [hxy, Tm.nodes]
        rw [wrap_id (by omega) (by omega)]
        refine ⟨by simp, ?_, by simp, by simp, by simp, by simp [hl1], rfl, by simpa using hs⟩
        simp [e1]
        omega
    · rintro ⟨env, loc, σ'', live⟩ ⟨h1, h4, h17, h18, h19, hl1, rfl, hs⟩
      rw [List.drop_length] at hs
      rw [List.take_length] at h4
      simp [h1, h4, hl1]
      refine wpP_range l.length (i129b (1 + Tm.counts m) l σ'') (by omega) ⟨by simp, by simp, by simp, by simp, rfl, by simp⟩ ?_ ?_ (hend := ?_)
      · rintro j ⟨env, loc, σ3, live⟩ ⟨h4, h35, h36, h37, rfl, hs2⟩
        exact ⟨h37, h36⟩
      · rintro j ⟨env, loc, σ3, live⟩ hj ⟨h4, h35, h36, h37, rfl, hs2⟩
        obtain ⟨x, hx, hd, hmx⟩ := drop_cons hj
        have := Fm.sizes_mem hmx
        have e1 := Fm.counts_take hx
        have e2 := Fm.counts_take_le l (j + 1)
        rw [hd, Fm.oks_cons] at hs2
        simp [h4, h35, h36, h37, hx]
        refine opV_call (ih x hmx (by omega) _) (by simp) ?_
        cases hxy : x.ok with
        | false => rw [hxy] at hs2; simp [hs2, hxy, Fm.nodes]
        | true =>
          rw [hxy] at hs2
          simp [hxy, Fm.nodes]
          rw [wrap_id (by omega) (by omega)]
          refine ⟨?_, by simp, by simp, by simp, rfl, by simpa using hs2⟩
          simp [e1]
          omega
      · rintro ⟨env, loc, σ3, live⟩ ⟨h4, h35, h36, h37, rfl, hs2⟩
        rw [List.drop_length] at hs2
        rw [List.take_length] at h4
        simp [h4, hs, hs2, hh, Fm.nodes]
theorem c100 (f : Fm) (hsz : f.size ≤ 1099511627776) (σ : List Frm) : CallsV cfg 100 [.agg (encF f)] σ (.val (.tup [.one (.int .i64 (if f.check = 0 then (f.count : Int) else 0)), .one (.int .i64 f.check)])) σ := by
  refine w100 (by simp) ?_
  rw [s100]
  simp
  refine opV_call (c129 f hsz _) (by simp) ?_
  unfold Fm.check
  cases hok : f.ok with
  | false => simp [Fm.nodes, hok]
  | true =>
    by_cases h : f.count ≤ 4096
    · have h' : ¬ ((4096 : Int) < f.count) := by omega
      simp [Fm.nodes, hok, h, h']
    · have h' : ((4096 : Int) < f.count) := by omega
      simp [Fm.nodes, hok, h, h']
theorem c54 (f : Fm) (hsz : f.size ≤ 1099511627776) (σ : List Frm) : CallsV cfg 54 [.agg (encF f)] σ (.val (.one (.int .i64 f.check))) σ := by
  refine w54 (by simp) ?_
  rw [s54]
  simp
  refine opV_call (c100 f hsz _) (by simp) ?_
  simp
end Go.Proofs.YtcgmhnlmgomlgaaGreatDoor.V

set_option maxRecDepth 100000
namespace Go.Proofs.YtcgmhnlmgomlgaaGreatDoor.V
open Go Go.Proofs
def enc3 (r : Ty × Bool × Int) : PV := .tup [.agg (enc r.1), .one (.bool r.2.1), .one (.int .i64 r.2.2)]
@[simp] theorem enc3_er (r : Ty × Bool × Int) : erV (enc3 r) = enc3 r := by simp [enc3]
def enc2 (r : Ty × Int) : PV := .tup [.agg (enc r.1), .one (.int .i64 r.2)]
@[simp] theorem enc2_er (r : Ty × Int) : erV (enc2 r) = enc2 r := by simp [enc2]
end Go.Proofs.YtcgmhnlmgomlgaaGreatDoor.V

set_option maxRecDepth 100000
namespace Go.Proofs.YtcgmhnlmgomlgaaGreatDoor.V
open Go Go.Proofs
def ownNe : Own → Own → Prop
  | .tip k, .tip k' => k ≠ k'
  | _, _ => True
theorem ownNe.symm {a b : Own} (h : ownNe a b) : ownNe b a := by
  cases a <;> cases b <;> first
    | trivial
    | exact fun e => h e.symm
@[simp] theorem enc_map_er (l : List Ty) : List.map ((fun e => List.map erC e) ∘ enc) l = l.map enc := List.map_congr_left fun x _ => enc_er x
@[simp] theorem encI_append (l m : List Int) : encI (l ++ m) = encI l ++ encI m := by simp [encI]
@[simp] theorem encI_one (n : Int) : encI [n] = [[.int .i64 n]] := rfl
@[simp] theorem encI_nil : encI [] = [] := rfl
@[simp] theorem encI_flat (l : List Int) : flatLL (encI l) = true := flatLL_of fun e he => by
  simp only [encI, List.mem_map] at he
  obtain ⟨n, _, rfl⟩ := he
  simp
def encL (r : List Ty × List Int × Int) : PV := .tup [.one (.slice .no 2 (r.1.map enc)), .one (.slice .no 1 (encI r.2.1)), .one (.int .i64 r.2.2)]
@[simp] theorem encL_er (r : List Ty × List Int × Int) : erV (encL r) = encL r := by simp [encL]
end Go.Proofs.YtcgmhnlmgomlgaaGreatDoor.V

namespace Go.Proofs.YtcgmhnlmgomlgaaGreatDoor.V
open Go
def Ty.nat : Ty := .mk 1 []
def Ty.list : Ty := .mk 2 []
def Ty.unit : Ty := .mk 5 []
def Ty.pair (a b : Ty) : Ty := .mk 3 [a, b]
def Ty.fn (a b : Ty) : Ty := .mk 4 [a, b]
def Tm.node (k : Int) (l : List Tm) : Tm := .mk k 0 .zero l
def Tm.tnode (k : Int) (s : Ty) (l : List Tm) : Tm := .mk k 0 s l
def Tm.var (i : Int) : Tm := .mk 1 i .zero []
def Tm.zeroT : Tm := .mk 0 0 .zero []
def Fm.zeroF : Fm := .mk 0 .zero [] []
def Fm.eq (s t : Tm) : Fm := .mk 1 .zero [s, t] []
def Fm.two (k : Int) (a b : Fm) : Fm := .mk k .zero [] [a, b]
def Fm.q (k : Int) (s : Ty) (f : Fm) : Fm := .mk k s [] [f]
def Fm.bad : Fm := .eq (.node 4 []) (.node 5 [.node 4 []])
def modI (n k : Int) : Int := (n.tmod k + k).tmod k
def next (n : Int) : List Int → Int × List Int
  | [] => (0, [])
  | x :: r => if n < 1 then (0, x :: r) else (modI x n, r)
def mkType (d : Nat) (r : List Int) : Ty × List Int :=
  let c := next 7 r
  if c.1 = 3 then (.list, c.2) else if c.1 = 4 then (.unit, c.2) else
  match d with
  | 0 => (.nat, c.2)
  | d + 1 =>
    if c.1 = 5 then let a := mkType d c.2; let b := mkType d a.2; (.pair a.1 b.1, b.2)
    else if c.1 = 6 then let a := mkType d c.2; let b := mkType d a.2; (.fn a.1 b.1, b.2)
    else (.nat, c.2)
def mkTypes (d : Nat) : Nat → List Int → List Ty × List Int
  | 0, r => ([], r)
  | k + 1, r => let a := mkType d r; let b := mkTypes d k a.2; (a.1 :: b.1, b.2)
def mkContext (r : List Int) : List Ty × List Int := let c := next 4 r; mkTypes 1 c.1.toNat c.2
def Tm.num : Nat → Tm
  | 0 => .node 4 []
  | n + 1 => .node 5 [Tm.num n]
def Tm.lamN (t : Tm) : Tm := .tnode 2 .nat [t]
def Tm.recN (b f n : Tm) : Tm := .tnode 6 .nat [b, f, n]
def Tm.app (f a : Tm) : Tm := .node 3 [f, a]
def Tm.app2 (f a b : Tm) : Tm := .app (.app f a) b
def Tm.pred : Tm := .lamN (.recN (.node 4 []) (.lamN (.lamN (.var 1))) (.var 0))
def Tm.plus : Tm := .lamN (.lamN (.recN (.var 1) (.lamN (.lamN (.node 5 [.var 0]))) (.var 0)))
def Tm.sub : Tm := .lamN (.lamN (.recN (.var 1) (.lamN (.lamN (.app .pred (.var 0)))) (.var 0)))
def varsFrom (t : Ty) : Nat → List Ty → List Int
  | _, [] => []
  | i, x :: l => if Ty.same x t = true then (i : Int) :: varsFrom t (i + 1) l else varsFrom t (i + 1) l
def vars (g : List Ty) (t : Ty) : List Int := varsFrom t 0 g.reverse
def funFrom (t : Ty) : Nat → List Ty → Option (Int × Ty)
  | _, [] => none
  | i, .mk k [a, b] :: l => if k = 4 ∧ Ty.same b t = true then some ((i : Int), a) else funFrom t (i + 1) l
  | i, _ :: l => funFrom t (i + 1) l
def pickVar (l : List Int) (r : List Int) : Option Int × List Int :=
  if l = [] then (none, r) else
  let c := next 3 r
  if 0 < c.1 then let e := next l.length c.2; (some (l.getD e.1.toNat 0), e.2) else (none, c.2)
def mkTerm0 (g : List Ty) (t : Ty) (r : List Int) : Tm × List Int :=
  match pickVar (vars g t) r with
  | (some i, r) => (.var i, r)
  | (none, r) =>
    match t with
    | .mk k l =>
      if k = 1 then let c := next 3 r; (.num c.1.toNat, c.2)
      else if k = 2 then (.node 7 [], r)
      else match l with
        | [a, b] =>
          if k = 3 then let x := mkTerm0 g a r; let y := mkTerm0 g b x.2; (.node 10 [x.1, y.1], y.2)
          else if k = 4 then let x := mkTerm0 (g ++ [a]) b r; (.tnode 2 a [x.1], x.2)
          else (.node 13 [], r)
        | _ => (.node 13 [], r)
def mkPlain (F : List Ty → Ty → List Int → Tm × List Int) (g : List Ty) (t : Ty) (r : List Int) : Tm × List Int :=
  match t with
  | .mk k l =>
    if k = 1 then
      let c := next 5 r
      if c.1 = 0 then let x := F g t c.2; (.node 5 [x.1], x.2)
      else if c.1 = 1 then let x := F g t c.2; let y := F g t x.2; (.app2 .plus x.1 y.1, y.2)
      else if c.1 = 2 then let x := F g t c.2; let y := F g t x.2; (.app2 .sub x.1 y.1, y.2)
      else let e := next 3 c.2; (.num e.1.toNat, e.2)
    else if k = 2 then
      let c := next 2 r
      if c.1 = 0 then let x := F g .nat c.2; let y := F g t x.2; (.node 8 [x.1, y.1], y.2)
      else (.node 7 [], c.2)
    else match l with
      | [a, b] =>
        if k = 3 then let x := F g a r; let y := F g b x.2; (.node 10 [x.1, y.1], y.2)
        else if k = 4 then let x := F (g ++ [a]) b r; (.tnode 2 a [x.1], x.2)
        else (.node 13 [], r)
      | _ => (.node 13 [], r)
def mkTerm : Nat → List Ty → Ty → List Int → Tm × List Int
  | 0, g, t, r => mkTerm0 g t r
  | d + 1, g, t, r =>
    match pickVar (vars g t) r with
    | (some i, r) => (.var i, r)
    | (none, r) =>
      let c := next 8 r
      if c.1 = 0 then
        let s := mkType 0 c.2
        let x := mkTerm d (g ++ [s.1]) t s.2
        let y := mkTerm d g s.1 x.2
        (.node 3 [.tnode 2 s.1 [x.1], y.1], y.2)
      else if c.1 = 1 then
        let s := mkType 0 c.2
        let x := mkTerm d g t s.2
        let y := mkTerm d g s.1 x.2
        (.node 11 [.node 10 [x.1, y.1]], y.2)
      else if c.1 = 2 then
        let x := mkTerm d (g ++ [.nat, t]) t c.2
        let y := mkTerm d g t x.2
        let e := next 3 y.2
        (.tnode 6 t [y.1, .tnode 2 .nat [.tnode 2 t [x.1]], .num e.1.toNat], e.2)
      else if c.1 = 3 then
        let x := mkTerm d (g ++ [.nat, .list, t]) t c.2
        let y := mkTerm d g t x.2
        let z := mkTerm d g .list y.2
        (.tnode 9 t [y.1, .tnode 2 .nat [.tnode 2 .list [.tnode 2 t [x.1]]], z.1], z.2)
      else if c.1 = 4 then
        let s := mkType 0 c.2
        let x := mkTerm d g s.1 s.2
        let y := mkTerm d g t x.2
        (.node 12 [.node 10 [x.1, y.1]], y.2)
      else if c.1 = 5 then
        match funFrom t 0 g.reverse with
        | some (i, a) => let x := mkTerm d g a c.2; (.node 3 [.var i, x.1], x.2)
        | none => mkPlain (mkTerm d) g t c.2
      else mkPlain (mkTerm d) g t c.2
def mkFormula : Nat → List Ty → List Int → Fm × List Int
  | 0, g, r => let x := mkTerm 1 g .nat r; let y := mkTerm 1 g .nat x.2; (.eq x.1 y.1, y.2)
  | d + 1, g, r =>
    let c := next 9 r
    if c.1 = 0 then let x := mkFormula d g c.2; let y := mkFormula d g x.2; (.two 2 x.1 y.1, y.2)
    else if c.1 = 1 ∨ c.1 = 2 then let x := mkFormula d g c.2; let y := mkFormula d g x.2; (.two 3 x.1 y.1, y.2)
    else if c.1 = 3 ∨ c.1 = 4 then let s := mkType 1 c.2; let x := mkFormula d (g ++ [s.1]) s.2; (.q 4 s.1 x.1, x.2)
    else if c.1 = 5 then let s := mkType 1 c.2; let x := mkFormula d (g ++ [s.1]) s.2; (.q 5 s.1 x.1, x.2)
    else if c.1 = 6 then let s := mkType 0 c.2; let e := next 2 s.2; let x := mkFormula d (g ++ [s.1]) e.2; (.q (6 + e.1) s.1 x.1, x.2)
    else let x := mkTerm 1 g .nat c.2; let y := mkTerm 1 g .nat x.2; (.eq x.1 y.1, y.2)
mutual
def Tm.up : Tm → Int → Int → Tm
  | .mk k i t l, fr, by' => .mk k (if k = 1 ∧ fr ≤ i then i + by' else i) t (Tm.ups l (if k = 2 then fr + 1 else fr) by')
def Tm.ups : List Tm → Int → Int → List Tm
  | [], _, _ => []
  | x :: l, fr, by' => x.up fr by' :: Tm.ups l fr by'
end
mutual
def Tm.put : Tm → Int → Int → Tm → Tm
  | .mk k i t l, at', d, s =>
    if k = 1 then if i = at' + d then s.up 0 (at' + d) else if at' + d < i then .var (i - 1) else .mk k i t l
    else .mk k i t (Tm.puts l at' (if k = 2 then d + 1 else d) s)
def Tm.puts : List Tm → Int → Int → Tm → List Tm
  | [], _, _, _ => []
  | x :: l, at', d, s => x.put at' d s :: Tm.puts l at' d s
end
mutual
def Tm.times : Tm → Int → Int
  | .mk k i _ l, at' => (if k = 1 ∧ i = at' then 1 else 0) + Tm.timess l (if k = 2 then at' + 1 else at')
def Tm.timess : List Tm → Int → Int
  | [], _ => 0
  | x :: l, at' => x.times at' + Tm.timess l at'
end
mutual
def Tm.least : Tm → Int → Bool
  | .mk _ i _ l, m => decide (i ≤ m) && Tm.leasts l m
def Tm.leasts : List Tm → Int → Bool
  | [], _ => true
  | x :: l, m => x.least m && Tm.leasts l m
end
def fmQ (k : Int) : Bool := k == 4 || k == 5 || k == 6 || k == 7
mutual
def Fm.up : Fm → Int → Int → Fm
  | .mk k t a l, fr, by' => .mk k t (Tm.ups a fr by') (Fm.ups l (if fmQ k = true then fr + 1 else fr) by')
def Fm.ups : List Fm → Int → Int → List Fm
  | [], _, _ => []
  | x :: l, fr, by' => x.up fr by' :: Fm.ups l fr by'
end
mutual
def Fm.put : Fm → Int → Int → Tm → Fm
  | .mk k t a l, at', d, s => .mk k t (Tm.puts a at' d s) (Fm.puts l at' (if fmQ k = true then d + 1 else d) s)
def Fm.puts : List Fm → Int → Int → Tm → List Fm
  | [], _, _, _ => []
  | x :: l, at', d, s => x.put at' d s :: Fm.puts l at' d s
end
mutual
def Fm.times : Fm → Int → Int
  | .mk k _ a l, at' => Tm.timess a at' + Fm.timess l (if fmQ k = true then at' + 1 else at')
def Fm.timess : List Fm → Int → Int
  | [], _ => 0
  | x :: l, at' => x.times at' + Fm.timess l at'
end
mutual
def Fm.least : Fm → Int → Bool
  | .mk _ _ a l, m => Tm.leasts a m && Fm.leasts l m
def Fm.leasts : List Fm → Int → Bool
  | [], _ => true
  | x :: l, m => x.least m && Fm.leasts l m
end
def Tm.check (t : Tm) : Int := if t.ok = true then if t.count ≤ 4096 then 0 else 4 else 2
mutual
def Fm.has : Fm → Bool
  | .mk k _ _ l => if k = 1 then false else if k = 2 then (Fm.hass l).headD false || (Fm.hass l).getD 1 false else if k = 5 then true else (Fm.hass l).getLastD false
def Fm.hass : List Fm → List Bool
  | [] => []
  | x :: l => x.has :: Fm.hass l
end
def fits (t : Ty) (e : Int) : Ty × Int := if e ≠ 0 then (.zero, e) else if t.check ≠ 0 then (.zero, t.check) else (t, 0)
end Go.Proofs.YtcgmhnlmgomlgaaGreatDoor.V

namespace Go.Proofs.YtcgmhnlmgomlgaaGreatDoor.V
open Go
@[simp] theorem fits_err {t : Ty} : fits t 4 = (.zero, 4) := by simp [fits]
end Go.Proofs.YtcgmhnlmgomlgaaGreatDoor.V

namespace Go.Proofs.YtcgmhnlmgomlgaaGreatDoor.V
open Go
theorem modI_range {n k : Int} (hk : 0 < k) : 0 ≤ modI n k ∧ modI n k < k := by
  unfold modI
  have h1 := Int.tmod_lt_of_pos n hk
  have h2 : -k < n.tmod k := by
    have := Int.tmod_lt_of_pos (-n) hk
    rw [Int.neg_tmod] at this
    omega
  refine ⟨Int.tmod_nonneg _ (by omega), Int.tmod_lt_of_pos _ hk⟩
theorem next_range {n : Int} (hn : 0 < n) (r : List Int) : 0 ≤ (next n r).1 ∧ (next n r).1 < n := by
  cases r with
  | nil => exact ⟨Int.le_refl _, hn⟩
  | cons x r =>
    have : ¬ n < 1 := by omega
    simp only [next, this, if_false]
    exact modI_range hn
theorem next_nat {n : Nat} (hn : 0 < n) (r : List Int) : (next n r).1.toNat < n := by
  have := next_range (n := n) (by omega) r
  omega
theorem Ty.check_iff {t : Ty} : t.check = 0 ↔ t.ok = true ∧ t.size ≤ 64 := by
  unfold Ty.check
  split
  · split
    · simp_all
    · simp_all
  · simp_all
theorem Ty.nat_ok : Ty.nat.ok = true := by simp [Ty.nat, tyArity]
theorem Ty.list_ok : Ty.list.ok = true := by simp [Ty.list, tyArity]
theorem Ty.unit_ok : Ty.unit.ok = true := by simp [Ty.unit, tyArity]
theorem Ty.pair_ok {a b : Ty} (ha : a.ok = true) (hb : b.ok = true) : (Ty.pair a b).ok = true := by simp [Ty.pair, tyArity, ha, hb]
theorem Ty.fn_ok {a b : Ty} (ha : a.ok = true) (hb : b.ok = true) : (Ty.fn a b).ok = true := by simp [Ty.fn, tyArity, ha, hb]
@[simp] theorem Ty.nat_size : Ty.nat.size = 1 := by simp [Ty.nat]
@[simp] theorem Ty.list_size : Ty.list.size = 1 := by simp [Ty.list]
@[simp] theorem Ty.unit_size : Ty.unit.size = 1 := by simp [Ty.unit]
@[simp] theorem Ty.zero_size : Ty.zero.size = 1 := by simp [Ty.zero]
@[simp] theorem Ty.pair_size (a b : Ty) : (Ty.pair a b).size = 1 + a.size + b.size := by simp [Ty.pair]; omega
@[simp] theorem Ty.fn_size (a b : Ty) : (Ty.fn a b).size = 1 + a.size + b.size := by simp [Ty.fn]; omega
theorem mkType_ok (d : Nat) : ∀ r, (mkType d r).1.ok = true ∧ (mkType d r).1.size + 1 ≤ 2 * 2 ^ d := by
  induction d with
  | zero =>
    intro r
    unfold mkType
    simp only
    split
    · exact ⟨Ty.list_ok, by simp⟩
    · split
      · exact ⟨Ty.unit_ok, by simp⟩
      · exact ⟨Ty.nat_ok, by simp⟩
  | succ d ih =>
    intro r
    unfold mkType
    simp only
    have hp : 1 ≤ 2 ^ d := Nat.one_le_two_pow
    have hq : 2 ^ (d + 1) = 2 * 2 ^ d := by rw [Nat.pow_succ]; omega
    split
    · exact ⟨Ty.list_ok, by simp; omega⟩
    · split
      · exact ⟨Ty.unit_ok, by simp; omega⟩
      · split
        · have h1 := ih (next 7 r).2
          have h2 := ih (mkType d (next 7 r).2).2
          exact ⟨Ty.pair_ok h1.1 h2.1, by simp; omega⟩
        · split
          · have h1 := ih (next 7 r).2
            have h2 := ih (mkType d (next 7 r).2).2
            exact ⟨Ty.fn_ok h1.1 h2.1, by simp; omega⟩
          · exact ⟨Ty.nat_ok, by simp; omega⟩
theorem mkType0 (r : List Int) : (mkType 0 r).1.ok = true ∧ (mkType 0 r).1.size ≤ 1 := by have := mkType_ok 0 r; exact ⟨this.1, by omega⟩
theorem mkType1 (r : List Int) : (mkType 1 r).1.ok = true ∧ (mkType 1 r).1.size ≤ 3 := by have := mkType_ok 1 r; exact ⟨this.1, by omega⟩
def Good (m : Nat) (g : List Ty) : Prop := ∀ x ∈ g, x.ok = true ∧ x.size ≤ m
theorem Good.nil {m : Nat} : Good m [] := fun x hx => by simp at hx
theorem Good.app {m : Nat} {g h : List Ty} (hg : Good m g) (hh : Good m h) : Good m (g ++ h) := fun x hx => (List.mem_append.1 hx).elim (hg x) (hh x)
theorem Good.one {m : Nat} {t : Ty} (h : t.ok = true ∧ t.size ≤ m) : Good m [t] := fun x hx => by rw [List.mem_singleton.1 hx]; exact h
theorem Good.cons {m : Nat} {t : Ty} {g : List Ty} (h : t.ok = true ∧ t.size ≤ m) (hg : Good m g) : Good m (t :: g) := fun x hx => by
  rcases List.mem_cons.1 hx with rfl | hx
  · exact h
  · exact hg x hx
theorem mkTypes_good (n : Nat) : ∀ r, Good 3 (mkTypes 1 n r).1 ∧ (mkTypes 1 n r).1.length = n := by
  induction n with
  | zero => intro r; exact ⟨Good.nil, rfl⟩
  | succ n ih =>
    intro r
    have h := ih (mkType 1 r).2
    exact ⟨Good.cons (mkType1 r) h.1, by simp [mkTypes, h.2]⟩
theorem mkContext_good (r : List Int) : Good 3 (mkContext r).1 ∧ (mkContext r).1.length ≤ 3 := by
  have h := mkTypes_good (next 4 r).1.toNat (next 4 r).2
  have h2 := next_range (n := 4) (by omega) r
  refine ⟨h.1, ?_⟩
  show (mkTypes 1 _ _).1.length ≤ 3
  rw [h.2]; omega
theorem varsFrom_mem (t : Ty) (g : List Ty) : ∀ (n : Nat) (i : Int), i ∈ varsFrom t n g → ∃ j : Nat, i = (n + j : Nat) ∧ j < g.length ∧ g[j]? = some t := by
  induction g with
  | nil => intro n i h; simp [varsFrom] at h
  | cons x l ih =>
    intro n i h
    unfold varsFrom at h
    split at h
    · rename_i hs
      rcases List.mem_cons.1 h with rfl | h
      · exact ⟨0, rfl, by simp, by simp [(Ty.same_iff x t).1 hs]⟩
      · obtain ⟨j, h1, h2, h3⟩ := ih _ _ h
        exact ⟨j + 1, by rw [h1]; omega, by simp; omega, by simpa using h3⟩
    · obtain ⟨j, h1, h2, h3⟩ := ih _ _ h
      exact ⟨j + 1, by rw [h1]; omega, by simp; omega, by simpa using h3⟩
theorem vars_mem {g : List Ty} {t : Ty} {i : Int} (h : i ∈ vars g t) : ∃ j : Nat, i = j ∧ j < g.length ∧ g.reverse[j]? = some t := by
  obtain ⟨j, h1, h2, h3⟩ := varsFrom_mem t _ _ _ h
  exact ⟨j, by rw [h1]; omega, by simpa using h2, h3⟩
theorem pickVar_some {l r r' : List Int} {i : Int} (h : pickVar l r = (some i, r')) : i ∈ l := by
  unfold pickVar at h
  split at h
  · simp at h
  · simp only at h
    split at h
    · simp only [Prod.mk.injEq, Option.some.injEq] at h
      have hl : 0 < l.length := by cases l <;> simp_all
      have hlt := next_nat hl (next 3 r).2
      rw [← h.1, List.getD_eq_getElem?_getD, List.getElem?_eq_getElem hlt]
      exact List.getElem_mem _
    · simp at h
theorem funFrom_mem (t : Ty) (g : List Ty) : ∀ (n : Nat) (i : Int) (a : Ty), funFrom t n g = some (i, a) → ∃ j : Nat, i = (n + j : Nat) ∧ j < g.length ∧ g[j]? = some (.fn a t) := by
  induction g with
  | nil => intro n i a h; simp [funFrom] at h
  | cons x l ih =>
    intro n i a h
    have rest : funFrom t (n + 1) l = some (i, a) → ∃ j : Nat, i = (n + j : Nat) ∧ j < (x :: l).length ∧ (x :: l)[j]? = some (.fn a t) := fun h => by
      obtain ⟨j, h1, h2, h3⟩ := ih _ _ _ h
      exact ⟨j + 1, by rw [h1]; omega, by simp; omega, by simpa using h3⟩
    obtain ⟨k, m⟩ := x
    match m with
    | [a', b] =>
      simp only [funFrom] at h
      split at h
      · rename_i hc
        simp only [Option.some.injEq, Prod.mk.injEq] at h
        refine ⟨0, by rw [← h.1]; omega, by simp, ?_⟩
        simp [Ty.fn, hc.1, (Ty.same_iff b t).1 hc.2, h.2]
      · exact rest h
    | [] => exact rest (by simpa [funFrom] using h)
    | [_] => exact rest (by simpa [funFrom] using h)
    | _ :: _ :: _ :: _ => exact rest (by simpa [funFrom] using h)
theorem Tm.head_node {k : Int} {n : Nat} (h : tmArity k = some n) (ht : tmTyped k = false) : Tm.head k 0 .zero n = true := by simp [Tm.head, h, ht, Ty.none, Ty.zero]
theorem Tm.head_tnode {k : Int} {n : Nat} {s : Ty} (h : tmArity k = some n) (ht : tmTyped k = true) (hs : s.check = 0) : Tm.head k 0 s n = true := by simp [Tm.head, h, ht, hs]
theorem Tm.var_ok {i : Int} (h : 0 ≤ i) : (Tm.var i).ok = true := by simp [Tm.var, Tm.head, tmArity, tmTyped, Ty.none, Ty.zero, h]
@[simp] theorem Tm.var_size (i : Int) : (Tm.var i).size = 2 := by simp [Tm.var]
@[simp] theorem Tm.node_size (k : Int) (l : List Tm) : (Tm.node k l).size = 2 + Tm.sizes l := by simp [Tm.node]
@[simp] theorem Tm.tnode_size (k : Int) (s : Ty) (l : List Tm) : (Tm.tnode k s l).size = 1 + s.size + Tm.sizes l := by simp [Tm.tnode]
theorem Tm.node_ok {k : Int} {l : List Tm} (h : tmArity k = some l.length) (ht : tmTyped k = false) (hl : Tm.oks l = true) : (Tm.node k l).ok = true := by simp [Tm.node, Tm.head_node h ht, hl]
theorem Tm.tnode_ok {k : Int} {s : Ty} {l : List Tm} (h : tmArity k = some l.length) (ht : tmTyped k = true) (hs : s.check = 0) (hl : Tm.oks l = true) : (Tm.tnode k s l).ok = true := by simp [Tm.tnode, Tm.head_tnode h ht hs, hl]
theorem Tm.num_ok (n : Nat) : (Tm.num n).ok = true := by
  induction n with
  | zero => exact Tm.node_ok rfl rfl rfl
  | succ n ih => exact Tm.node_ok rfl rfl (by simp [ih])
@[simp] theorem Tm.num_size (n : Nat) : (Tm.num n).size = 2 * (n + 1) := by
  induction n with
  | zero => simp [Tm.num]
  | succ n ih => simp [Tm.num, ih]; omega
theorem Ty.nat_check : Ty.nat.check = 0 := Ty.check_iff.2 ⟨Ty.nat_ok, by simp⟩
theorem Ty.list_check : Ty.list.check = 0 := Ty.check_iff.2 ⟨Ty.list_ok, by simp⟩
theorem Tm.plus_ok : Tm.plus.ok = true := by decide +kernel
theorem Tm.sub_ok : Tm.sub.ok = true := by decide +kernel
@[simp] theorem Tm.plus_size : Tm.plus.size = 18 := by decide +kernel
@[simp] theorem Tm.sub_size : Tm.sub.size = 32 := by decide +kernel
@[simp] theorem Tm.pred_size : Tm.pred.size = 14 := by decide +kernel
def Fine (B : Nat) (t : Tm) : Prop := t.ok = true ∧ t.size ≤ B
theorem fine_var {i : Int} (h : 0 ≤ i) {B : Nat} (hB : 2 ≤ B) : Fine B (.var i) := ⟨Tm.var_ok h, by simpa using hB⟩
theorem fine_num {n : Int} {B : Nat} (h : n < 3) (hB : 6 ≤ B) : Fine B (.num n.toNat) := ⟨Tm.num_ok _, by simp; omega⟩
theorem Ty.parts2 {k : Int} {a b : Ty} {m : Nat} (h : (Ty.mk k [a, b]).ok = true ∧ (Ty.mk k [a, b]).size ≤ m) : (a.ok = true ∧ a.size ≤ m) ∧ (b.ok = true ∧ b.size ≤ m) := by
  simp at h
  exact ⟨⟨h.1.2.1, by omega⟩, ⟨h.1.2.2, by omega⟩⟩
theorem mkTerm0_fine {m : Nat} (hm : m ≤ 64) (t : Ty) : ∀ (g : List Ty) (r : List Int), t.ok = true ∧ t.size ≤ m → Fine (6 * t.size) (mkTerm0 g t r).1 := by
  induction t using Ty.ind with
  | _ k l ih =>
  intro g r ht
  have hp := Ty.size_pos (.mk k l)
  unfold mkTerm0
  rcases hv : pickVar (vars g (.mk k l)) r with ⟨_ | i, r'⟩ <;> simp only
  rotate_left
  · obtain ⟨j, h1, _⟩ := vars_mem (pickVar_some hv)
    exact fine_var (by omega) (by omega)
  · split
    · have := next_range (n := 3) (by omega) r'
      exact fine_num (by omega) (by omega)
    · split
      · exact ⟨Tm.node_ok rfl rfl rfl, by simp <;> omega⟩
      · split
        · rename_i a b
          have hab := Ty.parts2 ht
          have hsz : (Ty.mk k [a, b]).size = 1 + (a.size + b.size) := by simp
          rw [hsz] at ht ⊢
          split
          · have h1 := ih a (by simp) g r' hab.1
            have h2 := ih b (by simp) g (mkTerm0 g a r').2 hab.2
            exact ⟨Tm.node_ok rfl rfl (by simp [h1.1, h2.1]), by have := h1.2; have := h2.2; simp; omega⟩
          · split
            · have h2 := ih b (by simp) (g ++ [a]) r' hab.2
              exact ⟨Tm.tnode_ok rfl rfl (Ty.check_iff.2 ⟨hab.1.1, by omega⟩) (by simp [h2.1]), by have := h2.2; simp; omega⟩
            · exact ⟨Tm.node_ok rfl rfl rfl, by simp <;> omega⟩
        · exact ⟨Tm.node_ok rfl rfl rfl, by simp <;> omega⟩
def tmB (m : Nat) : Nat → Nat
  | 0 => 6 * m
  | d + 1 => 3 * tmB m d + 2 * m + 40
theorem tmB_ge {m : Nat} (hm : 1 ≤ m) (d : Nat) : 6 * m ≤ tmB m d := by
  induction d with
  | zero => exact Nat.le_refl _
  | succ d ih => simp only [tmB]; omega
theorem Fine.mono {B B' : Nat} {t : Tm} (h : Fine B t) (hB : B ≤ B') : Fine B' t := ⟨h.1, Nat.le_trans h.2 hB⟩
theorem mkPlain_fine {m B : Nat} (hm : m ≤ 64) (_hB : 6 ≤ B) {F : List Ty → Ty → List Int → Tm × List Int} (hF : ∀ g t r, Good m g → t.ok = true ∧ t.size ≤ m → Fine B (F g t r).1) (g : List Ty) (t : Ty) (r : List Int) (hg : Good m g) (ht : t.ok = true ∧ t.size ≤ m) : Fine (3 * B + 2 * m + 40) (mkPlain F g t r).1 := by
  obtain ⟨k, l⟩ := t
  have hp := Ty.size_pos (.mk k l)
  have hnat : Ty.nat.ok = true ∧ Ty.nat.size ≤ m := ⟨Ty.nat_ok, by simp; omega⟩
  unfold mkPlain
  simp only
  split
  · split
    · have h1 := hF g (.mk k l) (next 5 r).2 hg ht
      exact ⟨Tm.node_ok rfl rfl (by simp [h1.1]), by have := h1.2; simp; omega⟩
    · split
      · have h1 := hF g (.mk k l) (next 5 r).2 hg ht
        have h2 := hF g (.mk k l) (F g (.mk k l) (next 5 r).2).2 hg ht
        exact ⟨Tm.node_ok rfl rfl (by simp [Tm.app, Tm.node_ok (k := 3) (l := [_, _]) rfl rfl, h1.1, h2.1, Tm.plus_ok]), by have := h1.2; have := h2.2; simp [Tm.app2, Tm.app]; omega⟩
      · split
        · have h1 := hF g (.mk k l) (next 5 r).2 hg ht
          have h2 := hF g (.mk k l) (F g (.mk k l) (next 5 r).2).2 hg ht
          exact ⟨Tm.node_ok rfl rfl (by simp [Tm.app, Tm.node_ok (k := 3) (l := [_, _]) rfl rfl, h1.1, h2.1, Tm.sub_ok]), by have := h1.2; have := h2.2; simp [Tm.app2, Tm.app]; omega⟩
        · have := next_range (n := 3) (by omega) (next 5 r).2
          exact fine_num (by omega) (by omega)
  · split
    · split
      · have h1 := hF g .nat (next 2 r).2 hg hnat
        have h2 := hF g (.mk k l) (F g .nat (next 2 r).2).2 hg ht
        exact ⟨Tm.node_ok rfl rfl (by simp [h1.1, h2.1]), by have := h1.2; have := h2.2; simp; omega⟩
      · exact ⟨Tm.node_ok rfl rfl rfl, by simp <;> omega⟩
    · split
      · rename_i a b
        have hab := Ty.parts2 ht
        split
        · have h1 := hF g a r hg hab.1
          have h2 := hF g b (F g a r).2 hg hab.2
          exact ⟨Tm.node_ok rfl rfl (by simp [h1.1, h2.1]), by have := h1.2; have := h2.2; simp; omega⟩
        · split
          · have h2 := hF (g ++ [a]) b r (hg.app (Good.one hab.1)) hab.2
            exact ⟨Tm.tnode_ok rfl rfl (Ty.check_iff.2 ⟨hab.1.1, by omega⟩) (by simp [h2.1]), by have := h2.2; have := hab.1.2; simp; omega⟩
          · exact ⟨Tm.node_ok rfl rfl rfl, by simp <;> omega⟩
      · exact ⟨Tm.node_ok rfl rfl rfl, by simp <;> omega⟩
theorem mkTerm_fine {m : Nat} (hm : m ≤ 64) (d : Nat) : ∀ (g : List Ty) (t : Ty) (r : List Int), Good m g → t.ok = true ∧ t.size ≤ m → Fine (tmB m d) (mkTerm d g t r).1 := by
  induction d with
  | zero =>
    intro g t r hg ht
    exact (mkTerm0_fine hm t g r ht).mono (by simp only [tmB]; omega)
  | succ d ih =>
    intro g t r hg ht
    have hp := Ty.size_pos t
    have hge := tmB_ge (m := m) (by omega) d
    have hnat : Ty.nat.ok = true ∧ Ty.nat.size ≤ m := ⟨Ty.nat_ok, by simp; omega⟩
    have hlist : Ty.list.ok = true ∧ Ty.list.size ≤ m := ⟨Ty.list_ok, by simp; omega⟩
    have htc : t.check = 0 := Ty.check_iff.2 ⟨ht.1, by omega⟩
    have h0 : ∀ r, (mkType 0 r).1.ok = true ∧ (mkType 0 r).1.size ≤ m := fun r => ⟨(mkType0 r).1, by have := (mkType0 r).2; omega⟩
    have h0c : ∀ r, (mkType 0 r).1.check = 0 := fun r => Ty.check_iff.2 ⟨(h0 r).1, by have := (h0 r).2; omega⟩
    show Fine (3 * tmB m d + 2 * m + 40) _
    unfold mkTerm
    split
    · rename_i i r' hv
      obtain ⟨j, h1, _⟩ := vars_mem (pickVar_some hv)
      exact fine_var (by omega) (by omega)
    · rename_i r' hv
      have plain := mkPlain_fine hm (by omega) (fun g t r => ih g t r) g t (next 8 r').2 hg ht
      simp only
      split
      · have h1 := ih (g ++ [(mkType 0 (next 8 r').2).1]) t (mkType 0 (next 8 r').2).2 (hg.app (Good.one (h0 _))) ht
        have h2 := ih g (mkType 0 (next 8 r').2).1 (mkTerm d (g ++ [(mkType 0 (next 8 r').2).1]) t (mkType 0 (next 8 r').2).2).2 hg (h0 _)
        exact ⟨Tm.node_ok rfl rfl (by simp [Tm.tnode_ok (k := 2) (l := [_]) rfl rfl (h0c _), h1.1, h2.1]), by have := h1.2; have := h2.2; have := (h0 (next 8 r').2).2; simp; omega⟩
      · split
        · have h1 := ih g t (mkType 0 (next 8 r').2).2 hg ht
          have h2 := ih g (mkType 0 (next 8 r').2).1 (mkTerm d g t (mkType 0 (next 8 r').2).2).2 hg (h0 _)
          exact ⟨Tm.node_ok rfl rfl (by simp [Tm.node_ok (k := 10) (l := [_, _]) rfl rfl, h1.1, h2.1]), by have := h1.2; have := h2.2; simp; omega⟩
        · split
          · have h1 := ih (g ++ [.nat, t]) t (next 8 r').2 (hg.app (Good.cons hnat (Good.one ht))) ht
            have h2 := ih g t (mkTerm d (g ++ [.nat, t]) t (next 8 r').2).2 hg ht
            have h3 := next_range (n := 3) (by omega) (mkTerm d g t (mkTerm d (g ++ [.nat, t]) t (next 8 r').2).2).2
            refine ⟨Tm.tnode_ok rfl rfl htc ?_, ?_⟩
            · simp [Tm.tnode_ok (k := 2) (l := [_]) rfl rfl Ty.nat_check, Tm.tnode_ok (k := 2) (l := [_]) rfl rfl htc, h1.1, h2.1, Tm.num_ok]
            · have := h1.2; have := h2.2; simp; omega
          · split
            · have h1 := ih (g ++ [.nat, .list, t]) t (next 8 r').2 (hg.app (Good.cons hnat (Good.cons hlist (Good.one ht)))) ht
              have h2 := ih g t (mkTerm d (g ++ [.nat, .list, t]) t (next 8 r').2).2 hg ht
              have h3 := ih g .list (mkTerm d g t (mkTerm d (g ++ [.nat, .list, t]) t (next 8 r').2).2).2 hg hlist
              refine ⟨Tm.tnode_ok rfl rfl htc ?_, ?_⟩
              · have e1 := Tm.tnode_ok (k := 2) (l := [(mkTerm d (g ++ [.nat, .list, t]) t (next 8 r').2).1]) rfl rfl htc (by simp [h1.1])
                have e2 := Tm.tnode_ok (k := 2) (l := [.tnode 2 t [(mkTerm d (g ++ [.nat, .list, t]) t (next 8 r').2).1]]) rfl rfl Ty.list_check (by simp [e1])
                have e3 := Tm.tnode_ok (k := 2) (l := [.tnode 2 .list [.tnode 2 t [(mkTerm d (g ++ [.nat, .list, t]) t (next 8 r').2).1]]]) rfl rfl Ty.nat_check (by simp [e2])
                simp [e3, h2.1, h3.1]
              · have := h1.2; have := h2.2; have := h3.2; simp; omega
            · split
              · have h1 := ih g (mkType 0 (next 8 r').2).1 (mkType 0 (next 8 r').2).2 hg (h0 _)
                have h2 := ih g t (mkTerm d g (mkType 0 (next 8 r').2).1 (mkType 0 (next 8 r').2).2).2 hg ht
                exact ⟨Tm.node_ok rfl rfl (by simp [Tm.node_ok (k := 10) (l := [_, _]) rfl rfl, h1.1, h2.1]), by have := h1.2; have := h2.2; simp; omega⟩
              · split
                · split
                  · rename_i i a hf
                    obtain ⟨j, e1, e2, e3⟩ := funFrom_mem t _ _ _ _ hf
                    have hga := hg (.fn a t) (by have := List.mem_of_getElem? e3; simpa using this)
                    have ha := (Ty.parts2 hga).1
                    have h1 := ih g a (next 8 r').2 hg ha
                    exact ⟨Tm.node_ok rfl rfl (by simp [Tm.var_ok (i := i) (by omega), h1.1]), by have := h1.2; simp; omega⟩
                  · exact plain
                · exact plain
theorem Fm.head_eq : Fm.head 1 .zero 2 0 = true := by decide +kernel
theorem Fm.eq_ok {s t : Tm} (hs : s.ok = true) (ht : t.ok = true) : (Fm.eq s t).ok = true := by simp [Fm.eq, Fm.head_eq, hs, ht]
theorem Fm.two_ok {k : Int} {a b : Fm} (hk : k = 2 ∨ k = 3) (ha : a.ok = true) (hb : b.ok = true) : (Fm.two k a b).ok = true := by
  have : Fm.head k .zero 0 2 = true := by rcases hk with rfl | rfl <;> decide +kernel
  simp [Fm.two, this, ha, hb]
theorem Fm.q_ok {k : Int} {s : Ty} {f : Fm} (hk : k = 4 ∨ k = 5 ∨ k = 6 ∨ k = 7) (hs : s.check = 0) (hf : f.ok = true) : (Fm.q k s f).ok = true := by
  have : fmArity k = some (0, 1, true) := by rcases hk with rfl | rfl | rfl | rfl <;> rfl
  simp [Fm.q, Fm.head, this, hs, hf]
@[simp] theorem Fm.eq_size (s t : Tm) : (Fm.eq s t).size = 2 + (s.size + t.size) := by simp [Fm.eq]
@[simp] theorem Fm.two_size (k : Int) (a b : Fm) : (Fm.two k a b).size = 2 + (a.size + b.size) := by simp [Fm.two]
@[simp] theorem Fm.q_size (k : Int) (s : Ty) (f : Fm) : (Fm.q k s f).size = 1 + s.size + f.size := by simp [Fm.q]
def FineF (B : Nat) (f : Fm) : Prop := f.ok = true ∧ f.size ≤ B
def fmB (m : Nat) : Nat → Nat
  | 0 => 2 + 2 * tmB m 1
  | d + 1 => 2 * fmB m d + 3
theorem fmB_pos (m d : Nat) : 2 + 2 * tmB m 1 ≤ fmB m d := by
  induction d with
  | zero => exact Nat.le_refl _
  | succ d ih => simp only [fmB]; omega
theorem mkFormula_fine {m : Nat} (hm : m ≤ 64) (h3 : 3 ≤ m) (d : Nat) : ∀ (g : List Ty) (r : List Int), Good m g → FineF (fmB m d) (mkFormula d g r).1 := by
  have hnat : Ty.nat.ok = true ∧ Ty.nat.size ≤ m := ⟨Ty.nat_ok, by simp; omega⟩
  have eqn : ∀ (g : List Ty) (r : List Int), Good m g → FineF (2 + 2 * tmB m 1) (.eq (mkTerm 1 g .nat r).1 (mkTerm 1 g .nat (mkTerm 1 g .nat r).2).1) := fun g r hg => by
    have h1 := mkTerm_fine hm 1 g .nat r hg hnat
    have h2 := mkTerm_fine hm 1 g .nat (mkTerm 1 g .nat r).2 hg hnat
    exact ⟨Fm.eq_ok h1.1 h2.1, by have := h1.2; have := h2.2; simp; omega⟩
  have t1 : ∀ r, (mkType 1 r).1.ok = true ∧ (mkType 1 r).1.size ≤ m := fun r => ⟨(mkType1 r).1, by have := (mkType1 r).2; omega⟩
  have t0 : ∀ r, (mkType 0 r).1.ok = true ∧ (mkType 0 r).1.size ≤ m := fun r => ⟨(mkType0 r).1, by have := (mkType0 r).2; omega⟩
  induction d with
  | zero => exact fun g r hg => eqn g r hg
  | succ d ih =>
    intro g r hg
    have hpos := fmB_pos m d
    have cases2 : ∀ k, k = 2 ∨ k = 3 → FineF (fmB m (d + 1)) (.two k (mkFormula d g (next 9 r).2).1 (mkFormula d g (mkFormula d g (next 9 r).2).2).1) := fun k hk => by
      have h1 := ih g (next 9 r).2 hg
      have h2 := ih g (mkFormula d g (next 9 r).2).2 hg
      exact ⟨Fm.two_ok hk h1.1 h2.1, by have := h1.2; have := h2.2; simp [fmB]; omega⟩
    have casesq : ∀ k s r', k = 4 ∨ k = 5 ∨ k = 6 ∨ k = 7 → s.ok = true ∧ s.size ≤ 3 → FineF (fmB m (d + 1)) (.q k s (mkFormula d (g ++ [s]) r').1) := fun k s r' hk hs => by
      have h1 := ih (g ++ [s]) r' (hg.app (Good.one ⟨hs.1, by have := hs.2; omega⟩))
      exact ⟨Fm.q_ok hk (Ty.check_iff.2 ⟨hs.1, by have := hs.2; omega⟩) h1.1, by have := h1.2; have := hs.2; simp [fmB]; omega⟩
    unfold mkFormula
    simp only
    split
    · exact cases2 2 (.inl rfl)
    · split
      · exact cases2 3 (.inr rfl)
      · split
        · exact casesq 4 _ _ (by simp) (mkType1 _)
        · split
          · exact casesq 5 _ _ (by simp) (mkType1 _)
          · split
            · refine casesq _ _ _ ?_ ⟨(mkType0 _).1, by have := (mkType0 (next 9 r).2).2; omega⟩
              have := next_range (n := 2) (by omega) (mkType 0 (next 9 r).2).2
              omega
            · have := eqn g (next 9 r).2 hg
              exact ⟨this.1, Nat.le_trans this.2 (by simp only [fmB]; omega)⟩
end Go.Proofs.YtcgmhnlmgomlgaaGreatDoor.V

namespace Go.Proofs.YtcgmhnlmgomlgaaGreatDoor.V
open Go
theorem Tm.ups_eq (l : List Tm) (a b : Int) : Tm.ups l a b = l.map fun x => x.up a b := by
  induction l with
  | nil => rfl
  | cons x l ih => simp only [Tm.ups, List.map_cons, ih]
theorem Tm.puts_eq (l : List Tm) (a b : Int) (s : Tm) : Tm.puts l a b s = l.map fun x => x.put a b s := by
  induction l with
  | nil => rfl
  | cons x l ih => simp only [Tm.puts, List.map_cons, ih]
theorem Fm.ups_eq (l : List Fm) (a b : Int) : Fm.ups l a b = l.map fun x => x.up a b := by
  induction l with
  | nil => rfl
  | cons x l ih => simp only [Fm.ups, List.map_cons, ih]
theorem Fm.puts_eq (l : List Fm) (a b : Int) (s : Tm) : Fm.puts l a b s = l.map fun x => x.put a b s := by
  induction l with
  | nil => rfl
  | cons x l ih => simp only [Fm.puts, List.map_cons, ih]
theorem Tm.up_mk (k i : Int) (t : Ty) (l : List Tm) (a b : Int) : (Tm.mk k i t l).up a b = .mk k (if k = 1 ∧ a ≤ i then i + b else i) t (l.map fun x => x.up (if k = 2 then a + 1 else a) b) := by rw [Tm.up, Tm.ups_eq]
theorem Tm.put_mk (k i : Int) (t : Ty) (l : List Tm) (a d : Int) (s : Tm) : (Tm.mk k i t l).put a d s = if k = 1 then if i = a + d then s.up 0 (a + d) else if a + d < i then .var (i - 1) else .mk k i t l else .mk k i t (l.map fun x => x.put a (if k = 2 then d + 1 else d) s) := by rw [Tm.put, Tm.puts_eq]
theorem Fm.up_mk (k : Int) (t : Ty) (m : List Tm) (l : List Fm) (a b : Int) : (Fm.mk k t m l).up a b = .mk k t (m.map fun x => x.up a b) (l.map fun x => x.up (if fmQ k = true then a + 1 else a) b) := by rw [Fm.up, Tm.ups_eq, Fm.ups_eq]
theorem Fm.put_mk (k : Int) (t : Ty) (m : List Tm) (l : List Fm) (a d : Int) (s : Tm) : (Fm.mk k t m l).put a d s = .mk k t (m.map fun x => x.put a d s) (l.map fun x => x.put a (if fmQ k = true then d + 1 else d) s) := by rw [Fm.put, Tm.puts_eq, Fm.puts_eq]
theorem Tm.oks_iff (l : List Tm) : Tm.oks l = true ↔ ∀ x ∈ l, x.ok = true := by
  induction l with
  | nil => simp
  | cons x l ih => simp [ih]
theorem Fm.oks_iff (l : List Fm) : Fm.oks l = true ↔ ∀ x ∈ l, x.ok = true := by
  induction l with
  | nil => simp
  | cons x l ih => simp [ih]
theorem Tm.counts_map {f : Tm → Tm} {l : List Tm} (h : ∀ x ∈ l, (f x).count = x.count) : Tm.counts (l.map f) = Tm.counts l := by
  induction l with
  | nil => rfl
  | cons x l ih => simp [h x (by simp), ih fun y hy => h y (by simp [hy])]
theorem Fm.counts_map {f : Fm → Fm} {l : List Fm} (h : ∀ x ∈ l, (f x).count = x.count) : Fm.counts (l.map f) = Fm.counts l := by
  induction l with
  | nil => rfl
  | cons x l ih => simp [h x (by simp), ih fun y hy => h y (by simp [hy])]
theorem Tm.up_count (t : Tm) : ∀ a b, (t.up a b).count = t.count := by
  induction t using Tm.ind with
  | _ k i t l ih =>
    intro a b
    rw [Tm.up_mk, Tm.count_mk, Tm.count_mk, Tm.counts_map fun x hx => ih x hx _ _]
theorem Tm.head_index {k i j : Int} {t : Ty} {n : Nat} (h : Tm.head k i t n = true) (hj : k = 1 → 0 ≤ j) (hk : k ≠ 1 → j = i) : Tm.head k j t n = true := by
  by_cases h1 : k = 1
  · subst h1
    have := hj rfl
    simp only [Tm.head, Bool.and_eq_true] at h ⊢
    simp only [decide_eq_true_eq]
    exact ⟨⟨⟨h.1.1.1, this⟩, by simp⟩, h.2⟩
  · rw [hk h1]; exact h
theorem Tm.head_nonneg {k i : Int} {t : Ty} {n : Nat} (h : Tm.head k i t n = true) : 0 ≤ i := by
  simp only [Tm.head, Bool.and_eq_true, decide_eq_true_eq] at h
  exact h.1.1.2
theorem Tm.head_var {i : Int} {t : Ty} {n : Nat} (h : Tm.head 1 i t n = true) : n = 0 := by
  simp only [Tm.head, Bool.and_eq_true] at h
  have := h.1.1.1
  simp [tmArity] at this
  omega
theorem Tm.up_ok (t : Tm) : ∀ a b, 0 ≤ b → t.ok = true → (t.up a b).ok = true := by
  induction t using Tm.ind with
  | _ k i t l ih =>
    intro a b hb h
    rw [Tm.up_mk]
    simp only [Tm.ok_mk, Bool.and_eq_true, Tm.oks_iff, List.length_map] at h ⊢
    have hi := Tm.head_nonneg h.1
    refine ⟨Tm.head_index h.1 (fun _ => by split <;> omega) (fun hk => by rw [if_neg]; exact fun h => hk h.1), fun x hx => ?_⟩
    obtain ⟨y, hy, rfl⟩ := List.mem_map.1 hx
    exact ih y hy _ _ hb (h.2 y hy)
theorem Tm.times_mk (k i : Int) (t : Ty) (l : List Tm) (a : Int) : (Tm.mk k i t l).times a = (if k = 1 ∧ i = a then 1 else 0) + Tm.timess l (if k = 2 then a + 1 else a) := by rw [Tm.times]
theorem Fm.times_mk (k : Int) (t : Ty) (m : List Tm) (l : List Fm) (a : Int) : (Fm.mk k t m l).times a = Tm.timess m a + Fm.timess l (if fmQ k = true then a + 1 else a) := by rw [Fm.times]
theorem Fm.up_count (f : Fm) : ∀ a b, (f.up a b).count = f.count := by
  induction f using Fm.ind with
  | _ k t m l ih =>
    intro a b
    rw [Fm.up_mk, Fm.count_mk, Fm.count_mk, Tm.counts_map fun x _ => Tm.up_count x _ _, Fm.counts_map fun x hx => ih x hx _ _]
theorem Fm.up_ok (f : Fm) : ∀ a b, 0 ≤ b → f.ok = true → (f.up a b).ok = true := by
  induction f using Fm.ind with
  | _ k t m l ih =>
    intro a b hb h
    rw [Fm.up_mk]
    simp only [Fm.ok_mk, Bool.and_eq_true, Tm.oks_iff, Fm.oks_iff, List.length_map] at h ⊢
    refine ⟨h.1, fun x hx => ?_, fun x hx => ?_⟩
    · obtain ⟨y, hy, rfl⟩ := List.mem_map.1 hx
      exact Tm.up_ok y _ _ hb (h.2.1 y hy)
    · obtain ⟨y, hy, rfl⟩ := List.mem_map.1 hx
      exact ih y hy _ _ hb (h.2.2 y hy)
theorem Fm.check_small {f : Fm} (h : f.ok = true) (hc : f.count ≤ 4096) : f.check = 0 := by unfold Fm.check; rw [if_pos h, if_pos hc]
theorem Tm.check_ok {f : Tm} (h : f.check = 0) : f.ok = true ∧ f.count ≤ 4096 := by
  unfold Tm.check at h
  split at h
  · split at h
    · exact ⟨by assumption, by assumption⟩
    · cases h
  · cases h
theorem Fm.check_ok2 {f : Fm} (h : f.check = 0) : f.ok = true ∧ f.count ≤ 4096 := by
  unfold Fm.check at h
  split at h
  · split at h
    · exact ⟨by assumption, by assumption⟩
    · cases h
  · cases h
theorem Tm.leasts_iff (l : List Tm) (m : Int) : Tm.leasts l m = true ↔ ∀ x ∈ l, x.least m = true := by
  induction l with
  | nil => simp [Tm.leasts]
  | cons x l ih => simp [Tm.leasts, ih]
theorem Fm.leasts_iff (l : List Fm) (m : Int) : Fm.leasts l m = true ↔ ∀ x ∈ l, x.least m = true := by
  induction l with
  | nil => simp [Fm.leasts]
  | cons x l ih => simp [Fm.leasts, ih]
theorem Tm.node_least {k : Int} {l : List Tm} {m : Int} (hm : 0 ≤ m) (h : ∀ x ∈ l, x.least m = true) : (Tm.node k l).least m = true := by
  rw [Tm.node, Tm.least]; simp [hm, (Tm.leasts_iff l m).2 h]
theorem Tm.tnode_least {k : Int} {s : Ty} {l : List Tm} {m : Int} (hm : 0 ≤ m) (h : ∀ x ∈ l, x.least m = true) : (Tm.tnode k s l).least m = true := by
  rw [Tm.tnode, Tm.least]; simp [hm, (Tm.leasts_iff l m).2 h]
theorem Tm.var_least {i m : Int} (h : i ≤ m) : (Tm.var i).least m = true := by simp [Tm.var, Tm.least, Tm.leasts, h]
theorem Tm.num_least {m : Int} (hm : 0 ≤ m) (n : Nat) : (Tm.num n).least m = true := by
  induction n with
  | zero => exact Tm.node_least hm fun x hx => by simp at hx
  | succ n ih => exact Tm.node_least hm fun x hx => by rw [List.mem_singleton.1 hx]; exact ih
theorem Tm.plus_least {m : Int} (hm : 1 ≤ m) : Tm.plus.least m = true := by
  simp [Tm.plus, Tm.lamN, Tm.recN, Tm.tnode, Tm.node, Tm.var, Tm.least, Tm.leasts]; omega
theorem Tm.sub_least {m : Int} (hm : 1 ≤ m) : Tm.sub.least m = true := by
  simp [Tm.sub, Tm.pred, Tm.lamN, Tm.recN, Tm.app, Tm.tnode, Tm.node, Tm.var, Tm.least, Tm.leasts]; omega
theorem mkTerm0_least (t : Ty) : ∀ (g : List Ty) (r : List Int) (m : Int), (g.length + t.size : Nat) ≤ m → (mkTerm0 g t r).1.least m = true := by
  induction t using Ty.ind with
  | _ k l ih =>
  intro g r m hm
  have hp := Ty.size_pos (.mk k l)
  unfold mkTerm0
  rcases hv : pickVar (vars g (.mk k l)) r with ⟨_ | i, r'⟩ <;> simp only
  rotate_left
  · obtain ⟨j, h1, h2, _⟩ := vars_mem (pickVar_some hv)
    exact Tm.var_least (by omega)
  · split
    · exact Tm.num_least (by omega) _
    · split
      · exact Tm.node_least (by omega) fun x hx => by simp at hx
      · split
        · rename_i a b
          simp at hm
          split
          · refine Tm.node_least (by omega) fun x hx => ?_
            simp only [List.mem_cons, List.not_mem_nil, or_false] at hx
            rcases hx with rfl | rfl
            · exact ih a (by simp) _ _ _ (by omega)
            · exact ih b (by simp) _ _ _ (by omega)
          · split
            · refine Tm.tnode_least (by omega) fun x hx => ?_
              rw [List.mem_singleton.1 hx]
              exact ih b (by simp) _ _ _ (by have := a.size_pos; simp; omega)
            · exact Tm.node_least (by omega) fun x hx => by simp at hx
        · exact Tm.node_least (by omega) fun x hx => by simp at hx
theorem mem2 {α : Type} {P : α → Prop} {a b : α} (ha : P a) (hb : P b) : ∀ x ∈ [a, b], P x := fun x hx => by
  simp only [List.mem_cons, List.not_mem_nil, or_false] at hx
  rcases hx with rfl | rfl <;> assumption
theorem mem1 {α : Type} {P : α → Prop} {a : α} (ha : P a) : ∀ x ∈ [a], P x := fun x hx => by rw [List.mem_singleton.1 hx]; exact ha
theorem mem3 {α : Type} {P : α → Prop} {a b c : α} (ha : P a) (hb : P b) (hc : P c) : ∀ x ∈ [a, b, c], P x := fun x hx => by
  simp only [List.mem_cons, List.not_mem_nil, or_false] at hx
  rcases hx with rfl | rfl | rfl <;> assumption
theorem mkPlain_least {n : Nat} {m : Int} (hm : 1 ≤ m) {F : List Ty → Ty → List Int → Tm × List Int} (hF : ∀ g t r, Good 64 g → t.ok = true ∧ t.size ≤ 64 → g.length ≤ n + 1 → (F g t r).1.least m = true) (g : List Ty) (t : Ty) (r : List Int) (hg : Good 64 g) (ht : t.ok = true ∧ t.size ≤ 64) (hn : g.length ≤ n) : (mkPlain F g t r).1.least m = true := by
  obtain ⟨k, l⟩ := t
  have hnat : Ty.nat.ok = true ∧ Ty.nat.size ≤ 64 := ⟨Ty.nat_ok, by simp⟩
  have go : ∀ t r, t.ok = true ∧ t.size ≤ 64 → (F g t r).1.least m = true := fun t r ht => hF g t r hg ht (by omega)
  have h0 : (0 : Int) ≤ m := by omega
  unfold mkPlain
  simp only
  split
  · split
    · exact Tm.node_least h0 (mem1 (go _ _ ht))
    · split
      · exact Tm.node_least h0 (mem2 (Tm.node_least h0 (mem2 (Tm.plus_least hm) (go _ _ ht))) (go _ _ ht))
      · split
        · exact Tm.node_least h0 (mem2 (Tm.node_least h0 (mem2 (Tm.sub_least hm) (go _ _ ht))) (go _ _ ht))
        · exact Tm.num_least h0 _
  · split
    · split
      · exact Tm.node_least h0 (mem2 (go _ _ hnat) (go _ _ ht))
      · exact Tm.node_least h0 fun x hx => by simp at hx
    · split
      · rename_i a b
        have hab := Ty.parts2 ht
        split
        · exact Tm.node_least h0 (mem2 (go _ _ hab.1) (go _ _ hab.2))
        · split
          · exact Tm.tnode_least h0 (mem1 (hF _ _ _ (hg.app (Good.one hab.1)) hab.2 (by simp; omega)))
          · exact Tm.node_least h0 fun x hx => by simp at hx
      · exact Tm.node_least h0 fun x hx => by simp at hx
theorem mkTerm_least (d : Nat) : ∀ (g : List Ty) (t : Ty) (r : List Int) (m : Int), Good 64 g → t.ok = true ∧ t.size ≤ 64 → (g.length + 3 * d + 64 : Nat) ≤ m → (mkTerm d g t r).1.least m = true := by
  induction d with
  | zero =>
    intro g t r m hg ht hm
    exact mkTerm0_least t g r m (by omega)
  | succ d ih =>
    intro g t r m hg ht hm
    have hnat : Ty.nat.ok = true ∧ Ty.nat.size ≤ 64 := ⟨Ty.nat_ok, by simp⟩
    have hlist : Ty.list.ok = true ∧ Ty.list.size ≤ 64 := ⟨Ty.list_ok, by simp⟩
    have h0 : ∀ r, (mkType 0 r).1.ok = true ∧ (mkType 0 r).1.size ≤ 64 := fun r => ⟨(mkType0 r).1, by have := (mkType0 r).2; omega⟩
    have go : ∀ (h : List Ty) t r, Good 64 h → t.ok = true ∧ t.size ≤ 64 → h.length ≤ 3 → (mkTerm d (g ++ h) t r).1.least m = true := fun h t r hh ht hl => ih _ t r m (hg.app hh) ht (by simp; omega)
    have go0 : ∀ t r, t.ok = true ∧ t.size ≤ 64 → (mkTerm d g t r).1.least m = true := fun t r ht => ih _ t r m hg ht (by omega)
    have hm0 : (0 : Int) ≤ m := by omega
    unfold mkTerm
    split
    · rename_i i r' hv
      obtain ⟨j, h1, h2, _⟩ := vars_mem (pickVar_some hv)
      exact Tm.var_least (by omega)
    · rename_i r' hv
      have plain := mkPlain_least (n := g.length) (by omega) (fun g' t r hg' ht' hn => ih g' t r m hg' ht' (by omega)) g t (next 8 r').2 hg ht (by omega)
      simp only
      split
      · exact Tm.node_least hm0 (mem2 (Tm.tnode_least hm0 (mem1 (go _ _ _ (Good.one (h0 _)) ht (by simp)))) (go0 _ _ (h0 _)))
      · split
        · exact Tm.node_least hm0 (mem1 (Tm.node_least hm0 (mem2 (go0 _ _ ht) (go0 _ _ (h0 _)))))
        · split
          · exact Tm.tnode_least hm0 (mem3 (go0 _ _ ht) (Tm.tnode_least hm0 (mem1 (Tm.tnode_least hm0 (mem1 (go _ _ _ (Good.cons hnat (Good.one ht)) ht (by simp)))))) (Tm.num_least hm0 _))
          · split
            · exact Tm.tnode_least hm0 (mem3 (go0 _ _ ht) (Tm.tnode_least hm0 (mem1 (Tm.tnode_least hm0 (mem1 (Tm.tnode_least hm0 (mem1 (go _ _ _ (Good.cons hnat (Good.cons hlist (Good.one ht))) ht (by simp)))))))) (go0 _ _ hlist))
            · split
              · exact Tm.node_least hm0 (mem1 (Tm.node_least hm0 (mem2 (go0 _ _ (h0 _)) (go0 _ _ ht))))
              · split
                · split
                  · rename_i i a hf
                    obtain ⟨j, e1, e2, e3⟩ := funFrom_mem t _ _ _ _ hf
                    have hga := hg (.fn a t) (by have := List.mem_of_getElem? e3; simpa using this)
                    have ha := (Ty.parts2 hga).1
                    simp only [List.length_reverse] at e2
                    exact Tm.node_least hm0 (mem2 (Tm.var_least (by omega)) (go0 _ _ ha))
                  · exact plain
                · exact plain
theorem Fm.eq_least {s t : Tm} {m : Int} (hs : s.least m = true) (ht : t.least m = true) : (Fm.eq s t).least m = true := by
  rw [Fm.eq, Fm.least]; simp [Tm.leasts, Fm.leasts, hs, ht]
theorem Fm.two_least {k : Int} {a b : Fm} {m : Int} (hs : a.least m = true) (ht : b.least m = true) : (Fm.two k a b).least m = true := by
  rw [Fm.two, Fm.least]; simp [Tm.leasts, Fm.leasts, hs, ht]
theorem Fm.q_least {k : Int} {s : Ty} {a : Fm} {m : Int} (hs : a.least m = true) : (Fm.q k s a).least m = true := by
  rw [Fm.q, Fm.least]; simp [Tm.leasts, Fm.leasts, hs]
theorem mkFormula_least (d : Nat) : ∀ (g : List Ty) (r : List Int) (m : Int), Good 64 g → (g.length + d + 67 : Nat) ≤ m → (mkFormula d g r).1.least m = true := by
  have hnat : Ty.nat.ok = true ∧ Ty.nat.size ≤ 64 := ⟨Ty.nat_ok, by simp⟩
  have eqn : ∀ (g : List Ty) (r : List Int) (m : Int), Good 64 g → (g.length + 67 : Nat) ≤ m → (Fm.eq (mkTerm 1 g .nat r).1 (mkTerm 1 g .nat (mkTerm 1 g .nat r).2).1).least m = true := fun g r m hg hm =>
    Fm.eq_least (mkTerm_least 1 g .nat r m hg hnat (by omega)) (mkTerm_least 1 g .nat _ m hg hnat (by omega))
  have up3 : ∀ {t : Ty}, t.ok = true ∧ t.size ≤ 3 → t.ok = true ∧ t.size ≤ 64 := fun h => ⟨h.1, by have := h.2; omega⟩
  have up1 : ∀ {t : Ty}, t.ok = true ∧ t.size ≤ 1 → t.ok = true ∧ t.size ≤ 64 := fun h => ⟨h.1, by have := h.2; omega⟩
  induction d with
  | zero => exact fun g r m hg hm => eqn g r m hg (by omega)
  | succ d ih =>
    intro g r m hg hm
    have two : ∀ k, (Fm.two k (mkFormula d g (next 9 r).2).1 (mkFormula d g (mkFormula d g (next 9 r).2).2).1).least m = true := fun k => Fm.two_least (ih _ _ _ hg (by omega)) (ih _ _ _ hg (by omega))
    have q : ∀ k s r', s.ok = true ∧ s.size ≤ 64 → (Fm.q k s (mkFormula d (g ++ [s]) r').1).least m = true := fun k s r' hs => Fm.q_least (ih _ _ _ (hg.app (Good.one hs)) (by simp; omega))
    unfold mkFormula
    simp only
    split
    · exact two 2
    · split
      · exact two 3
      · split
        · exact q _ _ _ (up3 (mkType1 _))
        · split
          · exact q _ _ _ (up3 (mkType1 _))
          · split
            · exact q _ _ _ (up1 (mkType0 _))
            · exact eqn _ _ _ hg (by omega)
end Go.Proofs.YtcgmhnlmgomlgaaGreatDoor.V

namespace Go.Proofs.YtcgmhnlmgomlgaaGreatDoor.V
open Go
theorem next_suf (n : Int) (r : List Int) : (next n r).2 <:+ r := by
  cases r with
  | nil => exact List.suffix_refl _
  | cons x r =>
    simp only [next]
    split
    · exact List.suffix_refl _
    · exact List.suffix_cons x r
theorem mkType_suf (d : Nat) : ∀ r, (mkType d r).2 <:+ r := by
  induction d with
  | zero =>
    intro r
    unfold mkType
    simp only
    repeat' split
    all_goals exact next_suf 7 r
  | succ d ih =>
    intro r
    unfold mkType
    simp only
    repeat' split
    all_goals first
      | exact next_suf 7 r
      | exact ((ih _).trans (ih _)).trans (next_suf 7 r)
theorem mkTypes_suf (d k : Nat) : ∀ r, (mkTypes d k r).2 <:+ r := by
  induction k with
  | zero => exact fun r => List.suffix_refl _
  | succ k ih => exact fun r => (ih _).trans (mkType_suf d r)
theorem mkContext_suf (r : List Int) : (mkContext r).2 <:+ r := (mkTypes_suf _ _ _).trans (next_suf 4 r)
theorem pickVar_suf {l r r' : List Int} {o : Option Int} (h : pickVar l r = (o, r')) : r' <:+ r := by
  unfold pickVar at h
  split at h
  · cases h; exact List.suffix_refl _
  · simp only at h
    split at h
    · cases h; exact (next_suf _ _).trans (next_suf _ _)
    · cases h; exact next_suf _ _
theorem mkTerm0_suf (t : Ty) : ∀ (g : List Ty) (r : List Int), (mkTerm0 g t r).2 <:+ r := by
  induction t using Ty.ind with
  | _ k l ih =>
  intro g r
  unfold mkTerm0
  rcases hv : pickVar (vars g (.mk k l)) r with ⟨_ | i, r'⟩ <;> simp only
  rotate_left
  · exact pickVar_suf hv
  · refine List.IsSuffix.trans ?_ (pickVar_suf hv)
    repeat' split
    · exact next_suf _ _
    · exact List.suffix_refl _
    · exact (ih _ (by simp) _ _).trans (ih _ (by simp) _ _)
    · exact ih _ (by simp) _ _
    · exact List.suffix_refl _
    · exact List.suffix_refl _
theorem mkPlain_suf {F : List Ty → Ty → List Int → Tm × List Int} (hF : ∀ g t r, (F g t r).2 <:+ r) (g : List Ty) (t : Ty) (r : List Int) : (mkPlain F g t r).2 <:+ r := by
  obtain ⟨k, l⟩ := t
  unfold mkPlain
  simp only
  repeat' split
  all_goals first
    | exact List.suffix_refl _
    | exact next_suf _ _
    | exact (hF _ _ _).trans (next_suf _ _)
    | exact ((hF _ _ _).trans (hF _ _ _)).trans (next_suf _ _)
    | exact (next_suf _ _).trans (next_suf _ _)
    | exact (hF _ _ _).trans (hF _ _ _)
    | exact hF _ _ _
theorem mkTerm_suf (d : Nat) : ∀ (g : List Ty) (t : Ty) (r : List Int), (mkTerm d g t r).2 <:+ r := by
  induction d with
  | zero => exact fun g t r => mkTerm0_suf t g r
  | succ d ih =>
    intro g t r
    unfold mkTerm
    split
    · rename_i i r' hv; exact pickVar_suf hv
    · rename_i r' hv
      refine List.IsSuffix.trans ?_ (pickVar_suf hv)
      have plain := mkPlain_suf (fun g t r => ih g t r) g t (next 8 r').2
      simp only
      repeat' split
      · exact (((ih _ _ _).trans (ih _ _ _)).trans (mkType_suf _ _)).trans (next_suf _ _)
      · exact (((ih _ _ _).trans (ih _ _ _)).trans (mkType_suf _ _)).trans (next_suf _ _)
      · exact (((next_suf _ _).trans (ih _ _ _)).trans (ih _ _ _)).trans (next_suf _ _)
      · exact (((ih _ _ _).trans (ih _ _ _)).trans (ih _ _ _)).trans (next_suf _ _)
      · exact (((ih _ _ _).trans (ih _ _ _)).trans (mkType_suf _ _)).trans (next_suf _ _)
      · exact (ih _ _ _).trans (next_suf _ _)
      · exact plain.trans (next_suf _ _)
      · exact plain.trans (next_suf _ _)
theorem mkFormula_suf (d : Nat) : ∀ (g : List Ty) (r : List Int), (mkFormula d g r).2 <:+ r := by
  induction d with
  | zero => exact fun g r => (mkTerm_suf _ _ _ _).trans (mkTerm_suf _ _ _ _)
  | succ d ih =>
    intro g r
    unfold mkFormula
    simp only
    repeat' split
    · exact ((ih _ _).trans (ih _ _)).trans (next_suf _ _)
    · exact ((ih _ _).trans (ih _ _)).trans (next_suf _ _)
    · exact ((ih _ _).trans (mkType_suf _ _)).trans (next_suf _ _)
    · exact ((ih _ _).trans (mkType_suf _ _)).trans (next_suf _ _)
    · exact (((ih _ _).trans (next_suf _ _)).trans (mkType_suf _ _)).trans (next_suf _ _)
    · exact ((mkTerm_suf _ _ _ _).trans (mkTerm_suf _ _ _ _)).trans (next_suf _ _)
end Go.Proofs.YtcgmhnlmgomlgaaGreatDoor.V

namespace Go.Proofs.YtcgmhnlmgomlgaaGreatDoor.V
open Go
structure Pl where
  d : Nat
  t : Nat
  v : Nat
def Pl.ptr (p : Pl) : PV := .one (.box p.d p.t p.v 0)
def cellsAt (σ : List Frm) (p : Pl) : Option (List Cell) := (σ[p.d]?).bind fun f => (f p.t)[p.v]?
def setLoc (loc : Frm) (p : Pl) (cs : List Cell) : Frm := upd loc p.t ((loc p.t).set p.v cs)
def setC (σ : List Frm) (p : Pl) (cs : List Cell) : List Frm := σ.modify p.d fun f => setLoc f p cs
def Has (σ : List Frm) (p : Pl) : Prop := ∃ cs, cellsAt σ p = some cs
theorem cellsAt_lt {σ : List Frm} {p : Pl} {cs : List Cell} (h : cellsAt σ p = some cs) : p.d < σ.length := by
  unfold cellsAt at h
  cases hd : σ[p.d]? with
  | none => rw [hd] at h; cases h
  | some f => exact (List.getElem?_eq_some_iff.1 hd).1
theorem Has.lt {σ : List Frm} {p : Pl} (h : Has σ p) : p.d < σ.length := by obtain ⟨c, h⟩ := h; exact cellsAt_lt h
@[simp] theorem setC_length (σ : List Frm) (p : Pl) (cs : List Cell) : (setC σ p cs).length = σ.length := by simp [setC]
theorem setLoc_setLoc (f : Frm) (p : Pl) (a b : List Cell) : setLoc (setLoc f p a) p b = setLoc f p b := by
  funext j
  simp only [setLoc, upd]
  split
  · simp
  · rfl
@[simp] theorem setC_setC (σ : List Frm) (p : Pl) (a b : List Cell) : setC (setC σ p a) p b = setC σ p b := by
  simp only [setC, List.modify_modify_eq]
  congr 1
  funext f
  exact setLoc_setLoc f p a b
theorem setLoc_get {f : Frm} {p : Pl} {cs a : List Cell} (h : (f p.t)[p.v]? = some cs) : (setLoc f p a p.t)[p.v]? = some a := by
  have := (List.getElem?_eq_some_iff.1 h).1
  simp [setLoc, this]
theorem cellsAt_setC {σ : List Frm} {p : Pl} {cs a : List Cell} (h : cellsAt σ p = some cs) : cellsAt (setC σ p a) p = some a := by
  unfold cellsAt at h ⊢
  cases hd : σ[p.d]? with
  | none => rw [hd] at h; cases h
  | some f =>
    rw [hd] at h
    simp only [setC, List.getElem?_modify, hd, if_true, Option.map_some, Option.bind_some]
    exact setLoc_get h
theorem setLoc_self {f : Frm} {p : Pl} {cs : List Cell} (h : (f p.t)[p.v]? = some cs) : setLoc f p cs = f := by
  funext j
  simp only [setLoc, upd]
  split
  · rename_i e; subst e
    obtain ⟨hlt, he⟩ := List.getElem?_eq_some_iff.1 h
    rw [← he]
    exact List.set_getElem_self hlt
  · rfl
theorem setC_append {σ : List Frm} {p : Pl} (hp : p.d < σ.length) (τ : List Frm) (cs : List Cell) : setC (σ ++ τ) p cs = setC σ p cs ++ τ := by
  refine List.ext_getElem? fun j => ?_
  simp only [setC, List.getElem?_modify]
  by_cases hj : j < σ.length
  · rw [List.getElem?_append_left hj, List.getElem?_append_left (by simpa using hj), List.getElem?_modify]
  · have e : ¬ p.d = j := by omega
    rw [List.getElem?_append_right (by omega), List.getElem?_append_right (by simpa using by omega)]
    simp [e]
theorem setC_own (σ : List Frm) (loc : Frm) (t v : Nat) (cs : List Cell) : setC (σ ++ [loc]) ⟨σ.length, t, v⟩ cs = σ ++ [setLoc loc ⟨σ.length, t, v⟩ cs] := by
  refine List.ext_getElem? fun j => ?_
  simp only [setC, List.getElem?_modify]
  by_cases hj : j < σ.length
  · have e : ¬ σ.length = j := by omega
    rw [List.getElem?_append_left hj, List.getElem?_append_left hj]
    simp [e]
  · by_cases e : σ.length = j
    · subst e; simp
    · rw [List.getElem?_eq_none (by simp; omega), List.getElem?_eq_none (by simp; omega)]
      simp
theorem cellsAt_append {σ : List Frm} {p : Pl} (hp : p.d < σ.length) (τ : List Frm) : cellsAt (σ ++ τ) p = cellsAt σ p := by
  unfold cellsAt
  rw [List.getElem?_append_left hp]
theorem Has.app {σ : List Frm} {p : Pl} (h : Has σ p) (τ : List Frm) : Has (σ ++ τ) p := by
  obtain ⟨cs, h⟩ := h
  exact ⟨cs, by rw [cellsAt_append (cellsAt_lt h)]; exact h⟩
theorem Has.set {σ : List Frm} {p : Pl} (h : Has σ p) (cs : List Cell) : Has (setC σ p cs) p := by
  obtain ⟨c, h⟩ := h
  exact ⟨cs, cellsAt_setC h⟩
theorem Has.own {σ : List Frm} {loc : Frm} {t v : Nat} (h : v < (loc t).length) : Has (σ ++ [loc]) ⟨σ.length, t, v⟩ := by
  refine ⟨(loc t)[v], ?_⟩
  unfold cellsAt
  simp [h]
theorem readBox_setC {env : Nat → PV} {loc : Frm} {σ : List Frm} {live : Live} {p : Pl} {cs : List Cell} (h : Has σ p) : readBox ⟨env, loc, setC σ p cs, live⟩ p.d p.t p.v = some cs := by
  have hlt := h.lt
  obtain ⟨c, h⟩ := h
  have e : ¬ p.d = σ.length := by omega
  have := cellsAt_setC (a := cs) h
  simp only [readBox, setC_length, if_neg e]
  exact this
theorem modify_set {α : Type} (l : List α) (v : Nat) (a : α) (g : α → α) : (l.set v a).modify v g = l.set v (g a) := by
  refine List.ext_getElem? fun j => ?_
  rw [List.getElem?_modify]
  by_cases e : v = j
  · subst e
    by_cases hv : v < l.length
    · simp [hv]
    · rw [List.getElem?_eq_none (by simpa using hv), List.getElem?_eq_none (by simpa using hv)]; simp
  · rw [List.getElem?_set_ne e, List.getElem?_set_ne e]
    simp [e]
theorem setC_modify (σ : List Frm) (p : Pl) (cs : List Cell) (g : List Cell → List Cell) : ((setC σ p cs).modify p.d fun f => upd f p.t ((f p.t).modify p.v g)) = setC σ p (g cs) := by
  simp only [setC, List.modify_modify_eq]
  congr 1
  funext f
  funext j
  simp only [Function.comp, setLoc, upd, if_true]
  split
  · exact modify_set _ _ _ _
  · rfl
theorem writeBox_setC {env : Nat → PV} {loc : Frm} {σ : List Frm} {live : Live} {p : Pl} {cs : List Cell} {off : Nat} {ns : List Cell} (h : Has σ p) : writeBox ⟨env, loc, setC σ p cs, live⟩ p.d p.t p.v off ns = ⟨env, loc, setC σ p (splice cs off (ns.map erC)), live⟩ := by
  have e : ¬ p.d = σ.length := by have := h.lt; omega
  simp only [writeBox, setC_length, if_neg e, setC_modify]
section
variable {C : Cfg} {K k : St → Prop} {st : St} {dst : Option Nat} {ty : TypeId}
@[simp] theorem opP_nilCheck {x : Operand} : opP C dst (.nilCheck x) ty k st = ((∃ q, addrP (oper C st.env x) 0 = some q) ∧ k (put st dst (oper C st.env x))) := by
  have e : opP C dst (.nilCheck x) ty k st = opV C ⟨dst, .nilCheck x, ty, "", #[], none⟩ k st := rfl
  rw [e]
  simp only [opV, opR, eq_iff_iff]
  constructor
  · rintro ⟨r, ⟨h1, rfl⟩, h2⟩; exact ⟨h1, h2⟩
  · rintro ⟨h1, h2⟩; exact ⟨_, ⟨h1, rfl⟩, h2⟩
@[simp] theorem intC_rem {k : IntKind} {a b : Int} : intC .rem k a b = if b = 0 then none else some (.int k (a.tmod b)) := rfl
@[simp] theorem intC_quo {k : IntKind} {a b : Int} : intC .quo k a b = if b = 0 then none else some (.int k (k.wrap (a.tdiv b))) := rfl
theorem opV_at {f : Nat} {xs : Array Operand} {ts : Array TypeId} {p : String} {af : Array Edge} {g : Option (Nat × Bool)} {v : PV} {ps : List PV} {env : Nat → PV} {loc : Frm} {σ : List Frm} {live : Live} {q : Pl} {cs cs' : List Cell}
    (h : ∀ σ, Has σ q → CallsV C f ps (setC σ q cs) (.val v) (setC σ q cs')) (hH : Has σ q) (ha : argsT C env ts.toList xs.toList = ps) (hk : K (put ⟨env, loc, setC σ q cs', live⟩ dst v)) :
    opV C ⟨dst, .call ⟨.value (.func f), xs, ts⟩, ty, p, af, g⟩ K ⟨env, loc, setC σ q cs, live⟩ := by
  simp only [opV, CallV]
  have := h (σ ++ [loc]) (hH.app _)
  rw [setC_append hH.lt, setC_append hH.lt] at this
  refine ⟨f, [], .val v, _, setC σ q cs', loc, rfl, ?_, rfl, by simp, hk⟩
  rw [ha]
  simpa using this
theorem opV_own1 {f : Nat} {xs : Array Operand} {ts : Array TypeId} {p : String} {af : Array Edge} {g : Option (Nat × Bool)} {v : PV} {ps : List PV} {env : Nat → PV} {loc : Frm} {σ : List Frm} {live : Live} {t w : Nat} {cs cs' : List Cell}
    (h : ∀ σ' : List Frm, Has σ' ⟨σ.length, t, w⟩ → CallsV C f ps (setC σ' ⟨σ.length, t, w⟩ cs) (.val v) (setC σ' ⟨σ.length, t, w⟩ cs')) (hH : (loc t)[w]? = some cs) (ha : argsT C env ts.toList xs.toList = ps) (hk : K (put ⟨env, setLoc loc ⟨σ.length, t, w⟩ cs', σ, live⟩ dst v)) :
    opV C ⟨dst, .call ⟨.value (.func f), xs, ts⟩, ty, p, af, g⟩ K ⟨env, loc, σ, live⟩ := by
  simp only [opV, CallV]
  have := h (σ ++ [loc]) (Has.own (List.getElem?_eq_some_iff.1 hH).1)
  have e : setLoc loc ⟨σ.length, t, w⟩ cs = loc := setLoc_self hH
  rw [setC_own, setC_own, e] at this
  refine ⟨f, [], .val v, _, σ, setLoc loc ⟨σ.length, t, w⟩ cs', rfl, ?_, rfl, rfl, hk⟩
  rw [ha]
  simpa using this
theorem readBox_other {env : Nat → PV} {loc : Frm} {σ : List Frm} {live : Live} {q : Pl} {cs cs' : List Cell} {env' : Nat → PV} {d t v : Nat} (hq : q.d < σ.length) (h : ¬ (d = q.d ∧ t = q.t ∧ v = q.v)) : readBox ⟨env, loc, setC σ q cs, live⟩ d t v = readBox ⟨env', loc, setC σ q cs', live⟩ d t v := by
  simp only [readBox, setC_length]
  split
  · rfl
  · simp only [setC, List.getElem?_modify]
    by_cases e : q.d = d
    · subst e
      simp only [if_true, Option.map_eq_map]
      cases σ[q.d]? with
      | none => rfl
      | some f =>
        simp only [Option.map_some, Option.bind_some, setLoc, upd]
        split
        · rename_i e; subst e
          have : ¬ v = q.v := fun e => h ⟨rfl, rfl, e⟩
          rw [List.getElem?_set_ne (fun e => this e.symm), List.getElem?_set_ne (fun e => this e.symm)]
        · rfl
    · simp [e]
def atPl (q : Pl) : Nat → Nat → Nat → Bool := fun d t v => decide (d = q.d ∧ t = q.t ∧ v = q.v)
theorem stepD_at {vs : Nat → Nat} {fr : Bool} {f : Nat} {xs : Array Operand} {ts : Array TypeId} {p : String} {af : Array Edge} {g : Option (Nat × Bool)} {v : PV} {ps : List PV} {env : Nat → PV} {loc : Frm} {σ : List Frm} {live : Live} {q : Pl} {cs cs' : List Cell}
    (h : ∀ σ, Has σ q → CallsV C f ps (setC σ q cs) (.val v) (setC σ q cs')) (hH : Has σ q) (ha : argsT C env ts.toList xs.toList = ps) (hk : K (put ⟨env, loc, setC σ q cs', live⟩ dst v)) :
    stepD C (atPl q) vs fr ⟨dst, .call ⟨.value (.func f), xs, ts⟩, ty, p, af, g⟩ K ⟨env, loc, setC σ q cs, live⟩ := by
  simp only [stepD]
  refine opV_at h hH ha ⟨fun _ => ⟨by cases dst <;> simp [put], fun d t w hw => ?_⟩, hk⟩
  have := readBox_other (env := (put ⟨env, loc, setC σ q cs', live⟩ dst v).env) (loc := loc) (live := live) (cs := cs') (cs' := cs) (env' := env) (d := d) (t := t) (v := w) hH.lt (by simpa [atPl] using hw)
  cases dst <;> exact this
end
@[simp] theorem atPl_lt {q : Pl} {d t v : Nat} (h : d ≠ q.d) : atPl q d t v = false := by simp [atPl, h]
@[simp] theorem readBox_locC {env : Nat → PV} {loc : Frm} {σ : List Frm} {live : Live} {p : Pl} {cs : List Cell} {tt v : Nat} : readBox ⟨env, loc, setC σ p cs, live⟩ σ.length tt v = (loc tt)[v]? := by
  rw [← setC_length σ p cs]; exact readBox_loc
@[simp] theorem writeBox_locC {env : Nat → PV} {loc : Frm} {σ : List Frm} {live : Live} {p : Pl} {cs : List Cell} {tt v off : Nat} {ns : List Cell} : writeBox ⟨env, loc, setC σ p cs, live⟩ σ.length tt v off ns = ⟨env, upd loc tt ((loc tt).modify v fun cs => splice cs off ns), setC σ p cs, live⟩ := by
  rw [← setC_length σ p cs]; exact writeBox_loc
@[simp] theorem setLoc_eq {f : Frm} {d t v : Nat} {cs : List Cell} {j : Nat} : setLoc f ⟨d, t, v⟩ cs j = if j = t then (f t).set v cs else f j := by
  simp only [setLoc, upd]
theorem opV_new {C : Cfg} {K : St → Prop} {ty : TypeId} {f : Nat} {xs : Array Operand} {ts : Array TypeId} {p : String} {af : Array Edge} {g : Option (Nat × Bool)} {ps : List PV} {env : Nat → PV} {loc : Frm} {σ : List Frm} {live : Live} {d : Nat} {cs : List Cell}
    (h : CallsV C f ps (σ ++ [loc]) (.new cs) (σ ++ [loc])) (ha : argsT C env ts.toList xs.toList = ps) (hk : K ⟨upd env d (.one (.box σ.length d (loc d).length 0)), upd loc d (loc d ++ [cs]), σ, live⟩) :
    opV C ⟨some d, .call ⟨.value (.func f), xs, ts⟩, ty, p, af, g⟩ K ⟨env, loc, σ, live⟩ := by
  simp only [opV, CallV]
  refine ⟨f, [], .new cs, _, σ, loc, rfl, ?_, rfl, rfl, d, rfl, hk⟩
  rw [ha]
  simpa using h
theorem stepD_own {C : Cfg} {K : St → Prop} {ty : TypeId} {dst : Option Nat} {vs : Nat → Nat} {fr : Bool} {f : Nat} {xs : Array Operand} {ts : Array TypeId} {p : String} {af : Array Edge} {g : Option (Nat × Bool)} {v : PV} {ps : List PV} {env : Nat → PV} {loc : Frm} {σ : List Frm} {live : Live} {t w : Nat} {cs cs' : List Cell}
    (h : ∀ σ' : List Frm, Has σ' ⟨σ.length, t, w⟩ → CallsV C f ps (setC σ' ⟨σ.length, t, w⟩ cs) (.val v) (setC σ' ⟨σ.length, t, w⟩ cs')) (hH : (loc t)[w]? = some cs) (ha : argsT C env ts.toList xs.toList = ps) (hk : K (put ⟨env, setLoc loc ⟨σ.length, t, w⟩ cs', σ, live⟩ dst v)) :
    stepD C (atPl ⟨σ.length, t, w⟩) vs fr ⟨dst, .call ⟨.value (.func f), xs, ts⟩, ty, p, af, g⟩ K ⟨env, loc, σ, live⟩ := by
  simp only [stepD]
  refine opV_own1 h hH ha ⟨fun _ => ⟨by cases dst <;> simp [put], fun d t' w' hw => ?_⟩, hk⟩
  have key : readBox ⟨env, setLoc loc ⟨σ.length, t, w⟩ cs', σ, live⟩ d t' w' = readBox ⟨env, loc, σ, live⟩ d t' w' := by
    simp only [readBox]
    split
    · rename_i e
      simp only [setLoc, upd]
      split
      · rename_i e2
        subst e e2
        have : ¬ w' = w := fun e => by simp [atPl, e] at hw
        rw [List.getElem?_set_ne (fun e => this e.symm)]
      · rfl
    · rfl
  cases dst <;> exact key
end Go.Proofs.YtcgmhnlmgomlgaaGreatDoor.V
