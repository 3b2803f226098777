/-
Parts of the proof of one law, put together by program: part 3.
-/
import Derived.Test.YtnpgbkldpdogjaaGreatDoorKA2
set_option linter.unusedSimpArgs false
set_option linter.unusedVariables false
set_option maxRecDepth 100000
namespace Go.Proofs.YtnpgbkldpdogjaaGreatDoor.V
open Go Go.Proofs
noncomputable section
def a134 : List Ann := [⟨[1, 2], [], []⟩,
 ⟨[1, 2, 16], [], []⟩,
 ⟨[2, 3, 4], [], []⟩,
 ⟨[1, 2, 5, 6, 7], [], []⟩,
 ⟨[1, 2, 5, 6, 7, 32], [], []⟩,
 ⟨[2, 3, 4], [], []⟩,
 ⟨[1, 2, 5, 6, 36], [], []⟩,
 ⟨[1, 2, 5, 6, 36, 37], [], []⟩,
 ⟨[2, 5, 6, 8, 9, 10], [], []⟩,
 ⟨[2, 5, 6, 8, 10, 53], [], []⟩,
 ⟨[2, 3, 4], [], []⟩,
 ⟨[2, 5, 8, 58], [], []⟩,
 ⟨[2, 3, 4], [], []⟩,
 ⟨[2, 3, 4], [], []⟩,
 ⟨[1, 2, 5, 6, 66], [], []⟩,
 ⟨[1, 2, 5, 69], [], []⟩,
 ⟨[2, 3, 4], [], []⟩,
 ⟨[2, 3, 4], [], []⟩,
 ⟨[1, 2, 5, 80], [], []⟩,
 ⟨[2, 3, 4], [], []⟩,
 ⟨[1, 2, 5, 83], [], []⟩,
 ⟨[1, 2, 5, 83, 84], [], []⟩,
 ⟨[2, 5, 11, 12, 13], [], []⟩,
 ⟨[2, 5, 11, 13, 100], [], []⟩,
 ⟨[2, 3, 4], [], []⟩,
 ⟨[2, 3, 4], [], []⟩,
 ⟨[1, 2, 5, 109], [], []⟩,
 ⟨[2, 3, 4], [], []⟩,
 ⟨[2, 3, 4], [], []⟩]
def s134 : SC := .seq (.ops [So 1 (.box 34 (.tmp 0)) 0,
 So 2 (.alloc 30) 0,
 So 3 (.assign (.const (.bool false))) 4,
 So 4 (.assign (.const (.int .i64 0))) 36] [1, 2])
 (.seq (.seq (.ops [So 14 (.fieldAddr 34 (.tmp 1) 0) 0,
 So 15 (.load 3 (.tmp 14)) 3,
 So 16 (.binOp .eql 3 (.tmp 15) (.const (.int .i64 1)) 3) 4] [1, 2, 16])
 (.cond (.tmp 16)
 (.seq (.ops [So 17 (.build 30 #[]) 30,
 Sn (.store 30 (.tmp 2) (.tmp 17)) 0,
 So 3 (.assign (.const (.bool false))) 4,
 So 4 (.assign (.const (.int .i64 0))) 36] [2, 3, 4])
 (.ret))
 (.skip)))
 (.seq (.ops [So 19 (.fieldAddr 34 (.tmp 1) 3) 0,
 So 20 (.load 32 (.tmp 19)) 32,
 So 21 (.fieldAddr 34 (.tmp 1) 3) 0,
 So 22 (.load 32 (.tmp 21)) 32,
 So 23 (.call ⟨.builtin .len, #[.tmp 22], #[32]⟩) 3,
 So 24 (.binOp .sub 3 (.tmp 23) (.const (.int .i64 1)) 3) 3,
 So 25 (.indexAddr 32 (.tmp 20) (.tmp 24)) 0,
 So 26 (.load 34 (.tmp 25)) 34,
 So 27 (.call ⟨.value (.func 134), #[.tmp 26], #[34]⟩) 132,
 So 18 (.move (.tmp 27)) 132,
 So 28 (.extract (.tmp 18) 0) 30,
 So 29 (.extract (.tmp 18) 1) 4,
 So 30 (.extract (.tmp 18) 2) 36,
 So 5 (.alloc 30) 0,
 Sn (.store 30 (.tmp 5) (.tmp 28)) 0,
 So 6 (.assign (.tmp 29)) 4,
 So 7 (.assign (.tmp 30)) 36] [1, 2, 5, 6, 7])
 (.seq (.seq (.ops [So 31 (.move (.tmp 7)) 36,
 So 32 (.binOp .neq 36 (.tmp 31) (.const (.int .i64 0)) 36) 4] [1, 2, 5, 6, 7, 32])
 (.cond (.tmp 32)
 (.seq (.ops [So 33 (.build 30 #[]) 30,
 So 34 (.move (.tmp 7)) 36,
 Sn (.store 30 (.tmp 2) (.tmp 33)) 0,
 So 3 (.assign (.const (.bool false))) 4,
 So 4 (.assign (.tmp 34)) 36] [2, 3, 4])
 (.ret))
 (.skip)))
 (.seq (.seq (.ops [So 35 (.fieldAddr 34 (.tmp 1) 0) 0,
 So 36 (.load 3 (.tmp 35)) 3] [1, 2, 5, 6, 36])
 (.block 0
 (.seq (.ops [So 38 (.binOp .eql 3 (.tmp 36) (.const (.int .i64 2)) 3) 4,
 So 37 (.assign (.tmp 38)) 4] [1, 2, 5, 6, 36, 37])
 (.cond (.tmp 37)
 (.seq (.ops [So 40 (.fieldAddr 34 (.tmp 1) 3) 0,
 So 41 (.load 32 (.tmp 40)) 32,
 So 42 (.indexAddr 32 (.tmp 41) (.const (.int .i64 0))) 0,
 So 43 (.load 34 (.tmp 42)) 34,
 So 44 (.call ⟨.value (.func 134), #[.tmp 43], #[34]⟩) 132,
 So 39 (.move (.tmp 44)) 132,
 So 45 (.extract (.tmp 39) 0) 30,
 So 46 (.extract (.tmp 39) 1) 4,
 So 47 (.extract (.tmp 39) 2) 36,
 So 8 (.alloc 30) 0,
 Sn (.store 30 (.tmp 8) (.tmp 45)) 0,
 So 9 (.assign (.tmp 46)) 4,
 So 10 (.assign (.tmp 47)) 36] [2, 5, 6, 8, 9, 10])
 (.seq (.seq (.ops [So 48 (.move (.tmp 10)) 36,
 So 49 (.binOp .neq 36 (.tmp 48) (.const (.int .i64 0)) 36) 4,
 So 50 (.move (.tmp 49)) 4,
 Sg 51 (.move (.tmp 9)) 4 50 false,
 Sg 52 (.unOp .not 4 (.tmp 51)) 4 50 false,
 So 53 (.pick (.tmp 50) (.const (.bool true)) (.tmp 52)) 4] [2, 5, 6, 8, 10, 53])
 (.cond (.tmp 53)
 (.seq (.ops [So 54 (.load 30 (.tmp 5)) 30,
 So 55 (.move (.tmp 6)) 4,
 So 56 (.move (.tmp 10)) 36,
 Sn (.store 30 (.tmp 2) (.tmp 54)) 0,
 So 3 (.assign (.tmp 55)) 4,
 So 4 (.assign (.tmp 56)) 36] [2, 3, 4])
 (.ret))
 (.skip)))
 (.seq (.seq (.ops [So 57 (.move (.tmp 6)) 4,
 So 58 (.unOp .not 4 (.tmp 57)) 4] [2, 5, 8, 58])
 (.cond (.tmp 58)
 (.seq (.ops [So 59 (.load 30 (.tmp 8)) 30,
 Sn (.store 30 (.tmp 2) (.tmp 59)) 0,
 So 3 (.assign (.const (.bool true))) 4,
 So 4 (.assign (.const (.int .i64 0))) 36] [2, 3, 4])
 (.ret))
 (.skip)))
 (.seq (.ops [So 60 (.load 30 (.tmp 8)) 30,
 So 61 (.load 30 (.tmp 5)) 30,
 So 62 (.call ⟨.value (.func 154), #[.const (.int .i64 3), .tmp 60, .tmp 61], #[3, 30, 30]⟩) 132,
 So 63 (.extract (.tmp 62) 0) 30,
 So 64 (.extract (.tmp 62) 1) 4,
 So 65 (.extract (.tmp 62) 2) 36,
 Sn (.store 30 (.tmp 2) (.tmp 63)) 0,
 So 3 (.assign (.tmp 64)) 4,
 So 4 (.assign (.tmp 65)) 36] [2, 3, 4])
 (.ret)))))
 (.seq (.ops [So 67 (.binOp .eql 3 (.tmp 36) (.const (.int .i64 5)) 3) 4,
 So 66 (.assign (.tmp 67)) 4] [1, 2, 5, 6, 66])
 (.cond (.tmp 66)
 (.seq (.seq (.ops [So 68 (.move (.tmp 6)) 4,
 So 69 (.unOp .not 4 (.tmp 68)) 4] [1, 2, 5, 69])
 (.cond (.tmp 69)
 (.seq (.ops [So 70 (.fieldAddr 34 (.tmp 1) 1) 0,
 So 71 (.load 30 (.tmp 70)) 30,
 Sn (.store 30 (.tmp 2) (.tmp 71)) 0,
 So 3 (.assign (.const (.bool true))) 4,
 So 4 (.assign (.const (.int .i64 0))) 36] [2, 3, 4])
 (.ret))
 (.skip)))
 (.seq (.ops [So 72 (.fieldAddr 34 (.tmp 1) 1) 0,
 So 73 (.load 30 (.tmp 72)) 30,
 So 74 (.load 30 (.tmp 5)) 30,
 So 75 (.call ⟨.value (.func 154), #[.const (.int .i64 3), .tmp 73, .tmp 74], #[3, 30, 30]⟩) 132,
 So 76 (.extract (.tmp 75) 0) 30,
 So 77 (.extract (.tmp 75) 1) 4,
 So 78 (.extract (.tmp 75) 2) 36,
 Sn (.store 30 (.tmp 2) (.tmp 76)) 0,
 So 3 (.assign (.tmp 77)) 4,
 So 4 (.assign (.tmp 78)) 36] [2, 3, 4])
 (.ret)))
 (.skip)))))))
 (.seq (.seq (.ops [So 79 (.move (.tmp 6)) 4,
 So 80 (.unOp .not 4 (.tmp 79)) 4] [1, 2, 5, 80])
 (.cond (.tmp 80)
 (.seq (.ops [So 81 (.build 30 #[]) 30,
 Sn (.store 30 (.tmp 2) (.tmp 81)) 0,
 So 3 (.assign (.const (.bool false))) 4,
 So 4 (.assign (.const (.int .i64 0))) 36] [2, 3, 4])
 (.ret))
 (.skip)))
 (.seq (.seq (.ops [So 82 (.fieldAddr 34 (.tmp 1) 0) 0,
 So 83 (.load 3 (.tmp 82)) 3] [1, 2, 5, 83])
 (.block 1
 (.seq (.ops [So 85 (.binOp .eql 3 (.tmp 83) (.const (.int .i64 3)) 3) 4,
 So 84 (.assign (.tmp 85)) 4] [1, 2, 5, 83, 84])
 (.cond (.tmp 84)
 (.seq (.ops [So 87 (.fieldAddr 34 (.tmp 1) 3) 0,
 So 88 (.load 32 (.tmp 87)) 32,
 So 89 (.indexAddr 32 (.tmp 88) (.const (.int .i64 0))) 0,
 So 90 (.load 34 (.tmp 89)) 34,
 So 91 (.call ⟨.value (.func 134), #[.tmp 90], #[34]⟩) 132,
 So 86 (.move (.tmp 91)) 132,
 So 92 (.extract (.tmp 86) 0) 30,
 So 93 (.extract (.tmp 86) 1) 4,
 So 94 (.extract (.tmp 86) 2) 36,
 So 11 (.alloc 30) 0,
 Sn (.store 30 (.tmp 11) (.tmp 92)) 0,
 So 12 (.assign (.tmp 93)) 4,
 So 13 (.assign (.tmp 94)) 36] [2, 5, 11, 12, 13])
 (.seq (.seq (.ops [So 95 (.move (.tmp 13)) 36,
 So 96 (.binOp .neq 36 (.tmp 95) (.const (.int .i64 0)) 36) 4,
 So 97 (.move (.tmp 96)) 4,
 Sg 98 (.move (.tmp 12)) 4 97 false,
 Sg 99 (.unOp .not 4 (.tmp 98)) 4 97 false,
 So 100 (.pick (.tmp 97) (.const (.bool true)) (.tmp 99)) 4] [2, 5, 11, 13, 100])
 (.cond (.tmp 100)
 (.seq (.ops [So 101 (.load 30 (.tmp 5)) 30,
 So 102 (.move (.tmp 13)) 36,
 Sn (.store 30 (.tmp 2) (.tmp 101)) 0,
 So 3 (.assign (.const (.bool true))) 4,
 So 4 (.assign (.tmp 102)) 36] [2, 3, 4])
 (.ret))
 (.skip)))
 (.seq (.ops [So 103 (.load 30 (.tmp 11)) 30,
 So 104 (.load 30 (.tmp 5)) 30,
 So 105 (.call ⟨.value (.func 154), #[.const (.int .i64 4), .tmp 103, .tmp 104], #[3, 30, 30]⟩) 132,
 So 106 (.extract (.tmp 105) 0) 30,
 So 107 (.extract (.tmp 105) 1) 4,
 So 108 (.extract (.tmp 105) 2) 36,
 Sn (.store 30 (.tmp 2) (.tmp 106)) 0,
 So 3 (.assign (.tmp 107)) 4,
 So 4 (.assign (.tmp 108)) 36] [2, 3, 4])
 (.ret))))
 (.seq (.ops [So 110 (.binOp .eql 3 (.tmp 83) (.const (.int .i64 4)) 3) 4,
 So 109 (.assign (.tmp 110)) 4] [1, 2, 5, 109])
 (.cond (.tmp 109)
 (.seq (.ops [So 111 (.fieldAddr 34 (.tmp 1) 1) 0,
 So 112 (.load 30 (.tmp 111)) 30,
 So 113 (.load 30 (.tmp 5)) 30,
 So 114 (.call ⟨.value (.func 154), #[.const (.int .i64 4), .tmp 112, .tmp 113], #[3, 30, 30]⟩) 132,
 So 115 (.extract (.tmp 114) 0) 30,
 So 116 (.extract (.tmp 114) 1) 4,
 So 117 (.extract (.tmp 114) 2) 36,
 Sn (.store 30 (.tmp 2) (.tmp 115)) 0,
 So 3 (.assign (.tmp 116)) 4,
 So 4 (.assign (.tmp 117)) 36] [2, 3, 4])
 (.ret))
 (.skip)))))))
 (.seq (.ops [So 118 (.load 30 (.tmp 5)) 30,
 Sn (.store 30 (.tmp 2) (.tmp 118)) 0,
 So 3 (.assign (.const (.bool true))) 4,
 So 4 (.assign (.const (.int .i64 0))) 36] [2, 3, 4])
 (.ret))))))))
theorem w134 : CW 134 s134 [.cell 2 30, .tmp 3, .tmp 4] := fun hr h => callsV_of_p follows cfgT a134 (fn := Tryz.f134) (c := Tryz.f134.body.getD .skip) (by kernel_rfl) (by kernel_rfl) (by kernel_rfl) (by kernel_rfl) (by kernel_rfl) (sc := s134) (by kernel_rfl) [.cell 2 30, .tmp 3, .tmp 4] (by kernel_rfl) hr h
def a123 : List Ann := [⟨[1, 2], [], []⟩,
 ⟨[1, 2, 4], [], []⟩,
 ⟨[1, 2, 4, 11], [], []⟩,
 ⟨[2, 3], [], []⟩,
 ⟨[2, 5, 6, 7], [], []⟩,
 ⟨[2, 5, 6, 7, 21], [], []⟩,
 ⟨[2, 3], [], []⟩,
 ⟨[2, 5, 25], [], []⟩,
 ⟨[2, 5], [], []⟩,
 ⟨[2, 3], [], []⟩]
def s123 : SC := .seq (.ops [So 1 (.box 34 (.tmp 0)) 0,
 So 2 (.alloc 30) 0,
 So 3 (.assign (.const (.int .i64 0))) 36] [1, 2])
 (.seq (.seq (.ops [So 8 (.load 34 (.tmp 1)) 34,
 So 9 (.call ⟨.value (.func 36), #[.tmp 8], #[34]⟩) 36,
 So 4 (.assign (.tmp 9)) 36] [1, 2, 4])
 (.seq (.ops [So 10 (.move (.tmp 4)) 36,
 So 11 (.binOp .neq 36 (.tmp 10) (.const (.int .i64 0)) 36) 4] [1, 2, 4, 11])
 (.cond (.tmp 11)
 (.seq (.ops [So 12 (.build 30 #[]) 30,
 So 13 (.move (.tmp 4)) 36,
 Sn (.store 30 (.tmp 2) (.tmp 12)) 0,
 So 3 (.assign (.tmp 13)) 36] [2, 3])
 (.ret))
 (.skip))))
 (.seq (.ops [So 15 (.load 34 (.tmp 1)) 34,
 So 16 (.call ⟨.value (.func 134), #[.tmp 15], #[34]⟩) 132,
 So 14 (.move (.tmp 16)) 132,
 So 17 (.extract (.tmp 14) 0) 30,
 So 18 (.extract (.tmp 14) 1) 4,
 So 19 (.extract (.tmp 14) 2) 36,
 So 5 (.alloc 30) 0,
 Sn (.store 30 (.tmp 5) (.tmp 17)) 0,
 So 6 (.assign (.tmp 18)) 4,
 So 7 (.assign (.tmp 19)) 36] [2, 5, 6, 7])
 (.seq (.seq (.ops [So 20 (.move (.tmp 7)) 36,
 So 21 (.binOp .neq 36 (.tmp 20) (.const (.int .i64 0)) 36) 4] [2, 5, 6, 7, 21])
 (.cond (.tmp 21)
 (.seq (.ops [So 22 (.build 30 #[]) 30,
 So 23 (.move (.tmp 7)) 36,
 Sn (.store 30 (.tmp 2) (.tmp 22)) 0,
 So 3 (.assign (.tmp 23)) 36] [2, 3])
 (.ret))
 (.skip)))
 (.seq (.seq (.ops [So 24 (.move (.tmp 6)) 4,
 So 25 (.unOp .not 4 (.tmp 24)) 4] [2, 5, 25])
 (.cond (.tmp 25)
 (.ops [So 26 (.build 30 #[(0, .const (.int .i64 5))]) 30,
 Sn (.store 30 (.tmp 5) (.tmp 26)) 0] [2, 5])
 (.skip)))
 (.seq (.ops [So 27 (.load 30 (.tmp 5)) 30,
 Sn (.store 30 (.tmp 2) (.tmp 27)) 0,
 So 3 (.assign (.const (.int .i64 0))) 36] [2, 3])
 (.ret))))))
theorem w123 : CW 123 s123 [.cell 2 30, .tmp 3] := fun hr h => callsV_of_p follows cfgT a123 (fn := Tryz.f123) (c := Tryz.f123.body.getD .skip) (by kernel_rfl) (by kernel_rfl) (by kernel_rfl) (by kernel_rfl) (by kernel_rfl) (sc := s123) (by kernel_rfl) [.cell 2 30, .tmp 3] (by kernel_rfl) hr h
def a147 : List Ann := [⟨[1, 2, 3, 5], [], []⟩,
 ⟨[5], [], []⟩]
def s147 : SC := .seq (.ops [So 3 (.box 42 (.tmp 0)) 0,
 So 5 (.alloc 42) 0] [1, 2, 3, 5])
 (.seq (.ops [So 6 (.load 42 (.tmp 3)) 42,
 So 7 (.move (.tmp 1)) 3,
 So 8 (.load 3 (.tmp 2)) 3,
 So 9 (.call ⟨.value (.func 94), #[.tmp 6, .tmp 7, .tmp 8], #[42, 3, 3]⟩) 42,
 Sn (.store 42 (.tmp 5) (.tmp 9)) 0] [5])
 (.ret))
theorem w147 : CW 147 s147 [.cell 5 42] := fun hr h => callsV_of_p follows cfgT a147 (fn := Tryz.f147) (c := Tryz.f147.body.getD .skip) (by kernel_rfl) (by kernel_rfl) (by kernel_rfl) (by kernel_rfl) (by kernel_rfl) (sc := s147) (by kernel_rfl) [.cell 5 42] (by kernel_rfl) hr h
def a124 : List Ann := [⟨[2, 3, 4], [], []⟩,
 ⟨[4], [], []⟩]
def s124 : SC := .seq (.ops [So 2 (.box 34 (.tmp 0)) 0,
 So 3 (.box 3 (.tmp 1)) 0,
 So 4 (.alloc 34) 0] [2, 3, 4])
 (.seq (.ops [So 5 (.load 34 (.tmp 2)) 34,
 So 6 (.makeFunc (.func 147) #[] #[.tmp 3]) 106,
 So 7 (.call ⟨.value (.func 87), #[.tmp 5, .const (.int .i64 0), .tmp 6], #[34, 3, 106]⟩) 34,
 Sn (.store 34 (.tmp 4) (.tmp 7)) 0] [4])
 (.ret))
theorem w124 : CW 124 s124 [.cell 4 34] := fun hr h => callsV_of_p follows cfgT a124 (fn := Tryz.f124) (c := Tryz.f124.body.getD .skip) (by kernel_rfl) (by kernel_rfl) (by kernel_rfl) (by kernel_rfl) (by kernel_rfl) (sc := s124) (by kernel_rfl) [.cell 4 34] (by kernel_rfl) hr h
def a93 : List Ann := [⟨[2, 3, 4], [], []⟩,
 ⟨[2, 3, 4, 15], [], []⟩,
 ⟨[4, 5], [0, 1, 3, 7, 0, 0, 32, 96, 224, 0, 1023, 2047, 2047, 8191, 16383], [false, false, false, false, false, false, false, false, false, false, false, false, false, false, false]⟩,
 ⟨[2, 3, 4, 6, 7], [], []⟩,
 ⟨[2, 3, 4, 6, 7, 38], [], []⟩,
 ⟨[4, 5], [], []⟩,
 ⟨[2, 3, 4, 6, 8], [], []⟩,
 ⟨[2, 3, 4, 6, 8, 47], [], []⟩,
 ⟨[2, 4, 6, 8], [], []⟩,
 ⟨[4, 6, 7, 9], [0, 1, 3, 7, 15, 31, 0, 64, 192, 448, 1023, 0, 4095, 8191, 16383, 16383, 0, 98303, 262143], [false, false, false, false, true, true, false, true, false, true, true, true, true, false, false, false, true, false, false]⟩,
 ⟨[4, 6, 7, 9, 67], [], []⟩,
 ⟨[4, 5], [], []⟩,
 ⟨[4, 5], [], []⟩]
def s93 : SC := .seq (.ops [So 2 (.box 34 (.tmp 0)) 0,
 So 3 (.box 42 (.tmp 1)) 0,
 So 4 (.alloc 34) 0,
 So 5 (.assign (.const (.int .i64 0))) 36] [2, 3, 4])
 (.seq (.seq (.ops [So 10 (.fieldAddr 34 (.tmp 2) 3) 0,
 So 11 (.load 32 (.tmp 10)) 32,
 So 12 (.indexAddr 32 (.tmp 11) (.const (.int .i64 0))) 0,
 So 13 (.load 34 (.tmp 12)) 34,
 So 14 (.call ⟨.value (.func 40), #[.tmp 13], #[34]⟩) 4,
 So 15 (.unOp .not 4 (.tmp 14)) 4] [2, 3, 4, 15])
 (.cond (.tmp 15)
 (.seq (.draw [So 16 (.fieldAddr 34 (.tmp 2) 3) 0,
 So 17 (.load 32 (.tmp 16)) 32,
 So 18 (.indexAddr 32 (.tmp 17) (.const (.int .i64 0))) 0,
 So 19 (.load 34 (.tmp 18)) 34,
 So 20 (.load 42 (.tmp 3)) 42,
 So 21 (.fieldAddr 34 (.tmp 2) 3) 0,
 So 22 (.load 32 (.tmp 21)) 32,
 So 23 (.indexAddr 32 (.tmp 22) (.const (.int .i64 1))) 0,
 So 24 (.load 34 (.tmp 23)) 34,
 So 25 (.load 42 (.tmp 3)) 42,
 So 26 (.call ⟨.value (.func 92), #[.const (.int .i64 3), .tmp 19, .tmp 20, .tmp 24, .tmp 25], #[3, 34, 42, 34, 42]⟩) 39,
 So 27 (.extract (.tmp 26) 0) 34,
 So 28 (.extract (.tmp 26) 1) 36,
 Sn (.store 34 (.tmp 4) (.tmp 27)) 0,
 So 5 (.assign (.tmp 28)) 36] [false, false, false, false, false, false, false, false, false, false, false, false, false, false, false] [4, 5])
 (.ret))
 (.skip)))
 (.seq (.ops [So 30 (.fieldAddr 34 (.tmp 2) 3) 0,
 So 31 (.load 32 (.tmp 30)) 32,
 So 32 (.indexAddr 32 (.tmp 31) (.const (.int .i64 0))) 0,
 So 33 (.load 34 (.tmp 32)) 34,
 So 34 (.call ⟨.value (.func 123), #[.tmp 33], #[34]⟩) 37,
 So 29 (.move (.tmp 34)) 37,
 So 35 (.extract (.tmp 29) 0) 30,
 So 36 (.extract (.tmp 29) 1) 36,
 So 6 (.alloc 30) 0,
 Sn (.store 30 (.tmp 6) (.tmp 35)) 0,
 So 7 (.assign (.tmp 36)) 36] [2, 3, 4, 6, 7])
 (.seq (.seq (.ops [So 37 (.move (.tmp 7)) 36,
 So 38 (.binOp .neq 36 (.tmp 37) (.const (.int .i64 0)) 36) 4] [2, 3, 4, 6, 7, 38])
 (.cond (.tmp 38)
 (.seq (.ops [So 39 (.build 34 #[]) 34,
 So 40 (.move (.tmp 7)) 36,
 Sn (.store 34 (.tmp 4) (.tmp 39)) 0,
 So 5 (.assign (.tmp 40)) 36] [4, 5])
 (.ret))
 (.skip)))
 (.seq (.ops [So 41 (.load 42 (.tmp 3)) 42,
 So 42 (.call ⟨.value (.func 94), #[.tmp 41, .const (.int .i64 0), .const (.int .i64 1)], #[42, 3, 3]⟩) 42,
 So 8 (.alloc 42) 0,
 Sn (.store 42 (.tmp 8) (.tmp 42)) 0] [2, 3, 4, 6, 8])
 (.seq (.seq (.ops [So 43 (.fieldAddr 34 (.tmp 2) 3) 0,
 So 44 (.load 32 (.tmp 43)) 32,
 So 45 (.indexAddr 32 (.tmp 44) (.const (.int .i64 1))) 0,
 So 46 (.load 34 (.tmp 45)) 34,
 So 47 (.call ⟨.value (.func 40), #[.tmp 46], #[34]⟩) 4] [2, 3, 4, 6, 8, 47])
 (.cond (.tmp 47)
 (.ops [So 48 (.load 42 (.tmp 3)) 42,
 So 49 (.call ⟨.value (.func 95), #[.tmp 48], #[42]⟩) 42,
 Sn (.store 42 (.tmp 8) (.tmp 49)) 0] [2, 4, 6, 8])
 (.skip)))
 (.seq (.draw [So 51 (.fieldAddr 34 (.tmp 2) 3) 0,
 So 52 (.load 32 (.tmp 51)) 32,
 So 53 (.indexAddr 32 (.tmp 52) (.const (.int .i64 0))) 0,
 So 54 (.load 34 (.tmp 53)) 34,
 So 55 (.call ⟨.value (.func 124), #[.tmp 54, .const (.int .i64 1)], #[34, 3]⟩) 34,
 So 56 (.call ⟨.value (.func 71), #[.const (.int .i64 0)], #[3]⟩) 42,
 So 57 (.fieldAddr 34 (.tmp 2) 3) 0,
 So 58 (.load 32 (.tmp 57)) 32,
 So 59 (.indexAddr 32 (.tmp 58) (.const (.int .i64 1))) 0,
 So 60 (.load 34 (.tmp 59)) 34,
 So 61 (.call ⟨.value (.func 124), #[.tmp 60, .const (.int .i64 1)], #[34, 3]⟩) 34,
 So 62 (.load 42 (.tmp 8)) 42,
 So 63 (.call ⟨.value (.func 92), #[.const (.int .i64 3), .tmp 55, .tmp 56, .tmp 61, .tmp 62], #[3, 34, 42, 34, 42]⟩) 39,
 So 50 (.move (.tmp 63)) 39,
 So 64 (.extract (.tmp 50) 0) 34,
 So 65 (.extract (.tmp 50) 1) 36,
 So 9 (.alloc 34) 0,
 Sn (.store 34 (.tmp 9) (.tmp 64)) 0,
 So 7 (.assign (.tmp 65)) 36] [false, false, false, false, true, true, false, true, false, true, true, true, true, false, false, false, true, false, false] [4, 6, 7, 9])
 (.seq (.seq (.ops [So 66 (.move (.tmp 7)) 36,
 So 67 (.binOp .neq 36 (.tmp 66) (.const (.int .i64 0)) 36) 4] [4, 6, 7, 9, 67])
 (.cond (.tmp 67)
 (.seq (.ops [So 68 (.build 34 #[]) 34,
 So 69 (.move (.tmp 7)) 36,
 Sn (.store 34 (.tmp 4) (.tmp 68)) 0,
 So 5 (.assign (.tmp 69)) 36] [4, 5])
 (.ret))
 (.skip)))
 (.seq (.ops [So 70 (.load 30 (.tmp 6)) 30,
 So 71 (.load 34 (.tmp 9)) 34,
 So 72 (.buildSlice 32 1 #[(0, .tmp 71)]) 32,
 So 73 (.call ⟨.value (.func 96), #[.const (.int .i64 4), .tmp 70, .tmp 72], #[3, 30, 32]⟩) 39,
 So 74 (.extract (.tmp 73) 0) 34,
 So 75 (.extract (.tmp 73) 1) 36,
 Sn (.store 34 (.tmp 4) (.tmp 74)) 0,
 So 5 (.assign (.tmp 75)) 36] [4, 5])
 (.ret)))))))))
theorem w93 : CW 93 s93 [.cell 4 34, .tmp 5] := fun hr h => callsV_of_p follows cfgT a93 (fn := Tryz.f93) (c := Tryz.f93.body.getD .skip) (by kernel_rfl) (by kernel_rfl) (by kernel_rfl) (by kernel_rfl) (by kernel_rfl) (sc := s93) (by kernel_rfl) [.cell 4 34, .tmp 5] (by kernel_rfl) hr h
def a149 : List Ann := [⟨[1, 2], [], []⟩,
 ⟨[1, 2, 16], [], []⟩,
 ⟨[4], [], []⟩,
 ⟨[1, 2, 19], [], []⟩,
 ⟨[1, 2], [], []⟩,
 ⟨[1, 2, 5], [], []⟩,
 ⟨[1, 5, 23, 24, 25], [], []⟩,
 ⟨[1, 5, 23, 24, 25, 26], [], []⟩,
 ⟨[1, 5, 7, 23, 24, 25], [], []⟩,
 ⟨[1, 5, 23, 24, 25], [], []⟩,
 ⟨[1, 5, 23, 24, 25], [], []⟩,
 ⟨[4], [], []⟩]
def s149 : SC := .seq (.ops [So 2 (.box 42 (.tmp 0)) 0,
 So 4 (.assign (.const (.int .i64 0))) 3] [1, 2])
 (.seq (.seq (.ops [So 8 (.fieldAddr 42 (.tmp 2) 0) 0,
 So 9 (.load 3 (.tmp 8)) 3,
 So 10 (.binOp .eql 3 (.tmp 9) (.const (.int .i64 1)) 3) 4,
 So 11 (.move (.tmp 10)) 4,
 Sg 12 (.fieldAddr 42 (.tmp 2) 1) 0 11 true,
 Sg 13 (.load 3 (.tmp 12)) 3 11 true,
 Sg 14 (.move (.tmp 1)) 3 11 true,
 Sg 15 (.binOp .eql 3 (.tmp 13) (.tmp 14) 3) 4 11 true,
 So 16 (.pick (.tmp 11) (.tmp 15) (.const (.bool false))) 4] [1, 2, 16])
 (.cond (.tmp 16)
 (.seq (.ops [So 4 (.assign (.const (.int .i64 1))) 3] [4])
 (.ret))
 (.skip)))
 (.seq (.seq (.ops [So 17 (.fieldAddr 42 (.tmp 2) 0) 0,
 So 18 (.load 3 (.tmp 17)) 3,
 So 19 (.binOp .eql 3 (.tmp 18) (.const (.int .i64 2)) 3) 4] [1, 2, 19])
 (.cond (.tmp 19)
 (.ops [So 20 (.move (.tmp 1)) 3,
 So 21 (.binOp .add 3 (.tmp 20) (.const (.int .i64 1)) 3) 3,
 So 1 (.assign (.tmp 21)) 3] [1, 2])
 (.skip)))
 (.seq (.ops [So 5 (.assign (.const (.int .i64 0))) 3] [1, 2, 5])
 (.seq (.seq (.ops [So 22 (.fieldAddr 42 (.tmp 2) 3) 0,
 So 23 (.load 31 (.tmp 22)) 31,
 So 24 (.call ⟨.builtin .len, #[.tmp 23], #[31]⟩) 3,
 So 25 (.move (.const (.int .i64 0))) 3] [1, 5, 23, 24, 25])
 (.block 0
 (.loop
 (.seq (.ops [So 26 (.binOp .lss 3 (.tmp 25) (.tmp 24) 3) 0] [1, 5, 23, 24, 25, 26])
 (.seq (.cond (.tmp 26)
 (.skip)
 (.exit 0))
 (.seq (.block 1
 (.seq (.ops [So 27 (.indexAddr 31 (.tmp 23) (.tmp 25)) 0,
 So 28 (.load 42 (.tmp 27)) 42,
 So 7 (.alloc 42) 0,
 Sn (.store 42 (.tmp 7) (.tmp 28)) 0] [1, 5, 7, 23, 24, 25])
 (.ops [So 29 (.move (.tmp 5)) 3,
 So 30 (.load 42 (.tmp 7)) 42,
 So 31 (.move (.tmp 1)) 3,
 So 32 (.call ⟨.value (.func 149), #[.tmp 30, .tmp 31], #[42, 3]⟩) 3,
 So 33 (.binOp .add 3 (.tmp 29) (.tmp 32) 3) 3,
 So 5 (.assign (.tmp 33)) 3] [1, 5, 23, 24, 25])))
 (.ops [So 34 (.binOp .add 3 (.tmp 25) (.const (.int .i64 1)) 3) 3,
 So 25 (.move (.tmp 34)) 3] [1, 5, 23, 24, 25])))))))
 (.seq (.ops [So 35 (.move (.tmp 5)) 3,
 So 4 (.assign (.tmp 35)) 3] [4])
 (.ret))))))
theorem w149 : CW 149 s149 [.tmp 4] := fun hr h => callsV_of_p follows cfgT a149 (fn := Tryz.f149) (c := Tryz.f149.body.getD .skip) (by kernel_rfl) (by kernel_rfl) (by kernel_rfl) (by kernel_rfl) (by kernel_rfl) (sc := s149) (by kernel_rfl) [.tmp 4] (by kernel_rfl) hr h
def a148 : List Ann := [⟨[1, 2, 3, 4, 6], [], []⟩,
 ⟨[4, 6], [0, 0, 0, 0, 12, 30, 63, 127], [true, true, false, false, true, false, false, false]⟩,
 ⟨[6], [], []⟩]
def s148 : SC := .seq (.ops [So 4 (.box 42 (.tmp 0)) 0,
 So 6 (.alloc 42) 0] [1, 2, 3, 4, 6])
 (.seq (.draw [So 7 (.load 3 (.tmp 2)) 3,
 So 8 (.load 3 (.tmp 3)) 3,
 So 9 (.load 42 (.tmp 4)) 42,
 So 10 (.move (.tmp 1)) 3,
 So 11 (.call ⟨.value (.func 149), #[.tmp 9, .tmp 10], #[42, 3]⟩) 3,
 So 12 (.binOp .mul 3 (.tmp 8) (.tmp 11) 3) 3,
 So 13 (.binOp .add 3 (.tmp 7) (.tmp 12) 3) 3,
 Sn (.store 3 (.tmp 2) (.tmp 13)) 0] [true, true, false, false, true, false, false, false] [4, 6])
 (.seq (.ops [So 14 (.load 42 (.tmp 4)) 42,
 Sn (.store 42 (.tmp 6) (.tmp 14)) 0] [6])
 (.ret)))
theorem w148 : CW 148 s148 [.cell 6 42] := fun hr h => callsV_of_p follows cfgT a148 (fn := Tryz.f148) (c := Tryz.f148.body.getD .skip) (by kernel_rfl) (by kernel_rfl) (by kernel_rfl) (by kernel_rfl) (by kernel_rfl) (sc := s148) (by kernel_rfl) [.cell 6 42] (by kernel_rfl) hr h
def a126 : List Ann := [⟨[2, 3], [], []⟩,
 ⟨[2, 5, 6], [0, 1, 0, 7, 15, 0, 0, 111, 255], [false, true, true, true, false, true, true, false, false]⟩,
 ⟨[5], [], []⟩,
 ⟨[4], [], []⟩]
def s126 : SC := .seq (.ops [So 2 (.box 34 (.tmp 0)) 0,
 So 3 (.box 42 (.tmp 1)) 0,
 So 4 (.assign (.const (.int .i64 0))) 3] [2, 3])
 (.seq (.draw [So 7 (.load 34 (.tmp 2)) 34,
 So 8 (.call ⟨.value (.func 125), #[.tmp 7], #[34]⟩) 3,
 So 9 (.load 42 (.tmp 3)) 42,
 So 10 (.call ⟨.value (.func 90), #[.tmp 9], #[42]⟩) 3,
 So 11 (.binOp .sub 3 (.tmp 10) (.const (.int .i64 1)) 3) 3,
 So 5 (.alloc 3) 0,
 So 6 (.alloc 3) 0,
 Sn (.store 3 (.tmp 5) (.tmp 8)) 0,
 Sn (.store 3 (.tmp 6) (.tmp 11)) 0] [false, true, true, true, false, true, true, false, false] [2, 5, 6])
 (.seq (.ops [So 12 (.load 34 (.tmp 2)) 34,
 So 13 (.makeFunc (.func 148) #[] #[.tmp 5, .tmp 6]) 106,
 So 14 (.call ⟨.value (.func 87), #[.tmp 12, .const (.int .i64 0), .tmp 13], #[34, 3, 106]⟩) 34] [5])
 (.seq (.ops [So 15 (.load 3 (.tmp 5)) 3,
 So 4 (.assign (.tmp 15)) 3] [4])
 (.ret))))
theorem w126 : CW 126 s126 [.tmp 4] := fun hr h => callsV_of_p follows cfgT a126 (fn := Tryz.f126) (c := Tryz.f126.body.getD .skip) (by kernel_rfl) (by kernel_rfl) (by kernel_rfl) (by kernel_rfl) (by kernel_rfl) (sc := s126) (by kernel_rfl) [.tmp 4] (by kernel_rfl) hr h
def a151 : List Ann := [⟨[1, 2, 4, 7, 8], [], []⟩,
 ⟨[1, 2, 4, 7, 8, 14], [], []⟩,
 ⟨[1, 2, 4, 7, 8, 15], [], []⟩,
 ⟨[8], [], []⟩,
 ⟨[4, 8, 27], [], []⟩,
 ⟨[4, 8], [], []⟩,
 ⟨[8], [], []⟩,
 ⟨[1, 2, 4, 7, 8, 41], [], []⟩,
 ⟨[1, 2, 4, 7, 8], [], []⟩,
 ⟨[1, 2, 4, 7, 8, 9], [], []⟩,
 ⟨[1, 2, 4, 7, 8, 9], [], []⟩,
 ⟨[1, 2, 7, 8, 9, 47, 48, 49], [], []⟩,
 ⟨[1, 2, 7, 8, 9, 47, 48, 49, 50], [], []⟩,
 ⟨[1, 2, 7, 8, 9, 11, 47, 48, 49], [], []⟩,
 ⟨[1, 2, 7, 8, 9, 47, 48, 49], [0, 1, 0, 0, 0, 0, 60, 124, 255, 511, 1023], [false, true, false, false, false, false, true, false, false, false, false]⟩,
 ⟨[1, 2, 7, 8, 9, 47, 48, 49], [], []⟩,
 ⟨[8], [], []⟩]
def s151 : SC := .seq (.ops [So 4 (.box 42 (.tmp 0)) 0,
 So 7 (.box 42 (.tmp 3)) 0,
 So 8 (.alloc 42) 0] [1, 2, 4, 7, 8])
 (.seq (.seq (.ops [So 12 (.fieldAddr 42 (.tmp 4) 0) 0,
 So 13 (.load 3 (.tmp 12)) 3,
 So 14 (.binOp .eql 3 (.tmp 13) (.const (.int .i64 1)) 3) 4] [1, 2, 4, 7, 8, 14])
 (.cond (.tmp 14)
 (.seq (.block 0
 (.seq (.ops [So 16 (.fieldAddr 42 (.tmp 4) 1) 0,
 So 17 (.load 3 (.tmp 16)) 3,
 So 18 (.move (.tmp 1)) 3,
 So 19 (.move (.tmp 2)) 3,
 So 20 (.binOp .add 3 (.tmp 18) (.tmp 19) 3) 3,
 So 21 (.binOp .eql 3 (.tmp 17) (.tmp 20) 3) 4,
 So 15 (.assign (.tmp 21)) 4] [1, 2, 4, 7, 8, 15])
 (.cond (.tmp 15)
 (.seq (.ops [So 22 (.load 42 (.tmp 7)) 42,
 So 23 (.move (.tmp 1)) 3,
 So 24 (.move (.tmp 2)) 3,
 So 25 (.binOp .add 3 (.tmp 23) (.tmp 24) 3) 3,
 So 26 (.call ⟨.value (.func 94), #[.tmp 22, .const (.int .i64 0), .tmp 25], #[42, 3, 3]⟩) 42,
 Sn (.store 42 (.tmp 8) (.tmp 26)) 0] [8])
 (.ret))
 (.seq (.ops [So 28 (.fieldAddr 42 (.tmp 4) 1) 0,
 So 29 (.load 3 (.tmp 28)) 3,
 So 30 (.move (.tmp 1)) 3,
 So 31 (.move (.tmp 2)) 3,
 So 32 (.binOp .add 3 (.tmp 30) (.tmp 31) 3) 3,
 So 33 (.binOp .gtr 3 (.tmp 29) (.tmp 32) 3) 4,
 So 27 (.assign (.tmp 33)) 4] [4, 8, 27])
 (.cond (.tmp 27)
 (.ops [So 34 (.fieldAddr 42 (.tmp 4) 1) 0,
 So 35 (.load 3 (.tmp 34)) 3,
 So 36 (.binOp .sub 3 (.tmp 35) (.const (.int .i64 1)) 3) 3,
 So 37 (.fieldAddr 42 (.tmp 4) 1) 0,
 Sn (.store 3 (.tmp 37) (.tmp 36)) 0] [4, 8])
 (.skip))))))
 (.seq (.ops [So 38 (.load 42 (.tmp 4)) 42,
 Sn (.store 42 (.tmp 8) (.tmp 38)) 0] [8])
 (.ret)))
 (.skip)))
 (.seq (.seq (.ops [So 39 (.fieldAddr 42 (.tmp 4) 0) 0,
 So 40 (.load 3 (.tmp 39)) 3,
 So 41 (.binOp .eql 3 (.tmp 40) (.const (.int .i64 2)) 3) 4] [1, 2, 4, 7, 8, 41])
 (.cond (.tmp 41)
 (.ops [So 42 (.move (.tmp 2)) 3,
 So 43 (.binOp .add 3 (.tmp 42) (.const (.int .i64 1)) 3) 3,
 So 2 (.assign (.tmp 43)) 3] [1, 2, 4, 7, 8])
 (.skip)))
 (.seq (.ops [So 44 (.load 42 (.tmp 4)) 42,
 So 9 (.alloc 42) 0,
 Sn (.store 42 (.tmp 9) (.tmp 44)) 0] [1, 2, 4, 7, 8, 9])
 (.seq (.ops [So 45 (.fieldAddr 42 (.tmp 9) 3) 0,
 Sn (.store 31 (.tmp 45) (.const (.slice none 0 0))) 0] [1, 2, 4, 7, 8, 9])
 (.seq (.seq (.ops [So 46 (.fieldAddr 42 (.tmp 4) 3) 0,
 So 47 (.load 31 (.tmp 46)) 31,
 So 48 (.call ⟨.builtin .len, #[.tmp 47], #[31]⟩) 3,
 So 49 (.move (.const (.int .i64 0))) 3] [1, 2, 7, 8, 9, 47, 48, 49])
 (.block 1
 (.loop
 (.seq (.ops [So 50 (.binOp .lss 3 (.tmp 49) (.tmp 48) 3) 0] [1, 2, 7, 8, 9, 47, 48, 49, 50])
 (.seq (.cond (.tmp 50)
 (.skip)
 (.exit 1))
 (.seq (.block 2
 (.seq (.ops [So 51 (.indexAddr 31 (.tmp 47) (.tmp 49)) 0,
 So 52 (.load 42 (.tmp 51)) 42,
 So 11 (.alloc 42) 0,
 Sn (.store 42 (.tmp 11) (.tmp 52)) 0] [1, 2, 7, 8, 9, 11, 47, 48, 49])
 (.draw [So 53 (.fieldAddr 42 (.tmp 9) 3) 0,
 So 54 (.load 31 (.tmp 53)) 31,
 So 55 (.load 42 (.tmp 11)) 42,
 So 56 (.move (.tmp 1)) 3,
 So 57 (.move (.tmp 2)) 3,
 So 58 (.load 42 (.tmp 7)) 42,
 So 59 (.call ⟨.value (.func 151), #[.tmp 55, .tmp 56, .tmp 57, .tmp 58], #[42, 3, 3, 42]⟩) 42,
 So 60 (.buildSlice 31 1 #[(0, .tmp 59)]) 31,
 So 61 (.call ⟨.builtin .append, #[.tmp 54, .tmp 60], #[31, 31]⟩) 31,
 So 62 (.fieldAddr 42 (.tmp 9) 3) 0,
 Sn (.store 31 (.tmp 62) (.tmp 61)) 0] [false, true, false, false, false, false, true, false, false, false, false] [1, 2, 7, 8, 9, 47, 48, 49])))
 (.ops [So 63 (.binOp .add 3 (.tmp 49) (.const (.int .i64 1)) 3) 3,
 So 49 (.move (.tmp 63)) 3] [1, 2, 7, 8, 9, 47, 48, 49])))))))
 (.seq (.ops [So 64 (.load 42 (.tmp 9)) 42,
 Sn (.store 42 (.tmp 8) (.tmp 64)) 0] [8])
 (.ret)))))))
theorem w151 : CW 151 s151 [.cell 8 42] := fun hr h => callsV_of_p follows cfgT a151 (fn := Tryz.f151) (c := Tryz.f151.body.getD .skip) (by kernel_rfl) (by kernel_rfl) (by kernel_rfl) (by kernel_rfl) (by kernel_rfl) (sc := s151) (by kernel_rfl) [.cell 8 42] (by kernel_rfl) hr h
def a150 : List Ann := [⟨[1, 2, 3, 5], [], []⟩,
 ⟨[5], [], []⟩]
def s150 : SC := .seq (.ops [So 3 (.box 42 (.tmp 0)) 0,
 So 5 (.alloc 42) 0] [1, 2, 3, 5])
 (.seq (.ops [So 6 (.load 42 (.tmp 3)) 42,
 So 7 (.move (.tmp 1)) 3,
 So 8 (.load 42 (.tmp 2)) 42,
 So 9 (.call ⟨.value (.func 151), #[.tmp 6, .const (.int .i64 0), .tmp 7, .tmp 8], #[42, 3, 3, 42]⟩) 42,
 Sn (.store 42 (.tmp 5) (.tmp 9)) 0] [5])
 (.ret))
theorem w150 : CW 150 s150 [.cell 5 42] := fun hr h => callsV_of_p follows cfgT a150 (fn := Tryz.f150) (c := Tryz.f150.body.getD .skip) (by kernel_rfl) (by kernel_rfl) (by kernel_rfl) (by kernel_rfl) (by kernel_rfl) (sc := s150) (by kernel_rfl) [.cell 5 42] (by kernel_rfl) hr h
def a127 : List Ann := [⟨[2, 3, 4], [], []⟩,
 ⟨[4], [], []⟩]
def s127 : SC := .seq (.ops [So 2 (.box 34 (.tmp 0)) 0,
 So 3 (.box 42 (.tmp 1)) 0,
 So 4 (.alloc 34) 0] [2, 3, 4])
 (.seq (.ops [So 5 (.load 34 (.tmp 2)) 34,
 So 6 (.makeFunc (.func 150) #[] #[.tmp 3]) 106,
 So 7 (.call ⟨.value (.func 87), #[.tmp 5, .const (.int .i64 0), .tmp 6], #[34, 3, 106]⟩) 34,
 Sn (.store 34 (.tmp 4) (.tmp 7)) 0] [4])
 (.ret))
theorem w127 : CW 127 s127 [.cell 4 34] := fun hr h => callsV_of_p follows cfgT a127 (fn := Tryz.f127) (c := Tryz.f127.body.getD .skip) (by kernel_rfl) (by kernel_rfl) (by kernel_rfl) (by kernel_rfl) (by kernel_rfl) (sc := s127) (by kernel_rfl) [.cell 4 34] (by kernel_rfl) hr h
def a97 : List Ann := [⟨[2, 3, 4], [], []⟩,
 ⟨[3, 4, 6, 7, 8], [0, 1, 3, 7, 0, 0, 0, 0, 0, 463, 991, 2047], [false, false, false, false, true, true, false, false, false, true, true, false]⟩,
 ⟨[3, 4, 6, 7, 8, 16], [], []⟩,
 ⟨[4, 6, 7, 8], [0, 1, 0, 7, 15, 31], [false, true, true, false, false, false]⟩,
 ⟨[4, 6, 7, 8, 29], [], []⟩,
 ⟨[4, 5], [], []⟩,
 ⟨[4, 5], [0, 0, 3, 0, 15, 31, 31, 127, 255], [false, false, true, true, false, false, false, false, false]⟩]
def s97 : SC := .seq (.ops [So 2 (.box 34 (.tmp 0)) 0,
 So 3 (.box 42 (.tmp 1)) 0,
 So 4 (.alloc 34) 0,
 So 5 (.assign (.const (.int .i64 0))) 36] [2, 3, 4])
 (.seq (.draw [So 9 (.fieldAddr 34 (.tmp 2) 3) 0,
 So 10 (.load 32 (.tmp 9)) 32,
 So 11 (.indexAddr 32 (.tmp 10) (.const (.int .i64 0))) 0,
 So 12 (.load 34 (.tmp 11)) 34,
 So 13 (.load 42 (.tmp 3)) 42,
 So 14 (.load 42 (.tmp 3)) 42,
 So 6 (.alloc 34) 0,
 So 7 (.alloc 42) 0,
 So 8 (.alloc 42) 0,
 Sn (.store 34 (.tmp 6) (.tmp 12)) 0,
 Sn (.store 42 (.tmp 7) (.tmp 13)) 0,
 Sn (.store 42 (.tmp 8) (.tmp 14)) 0] [false, false, false, false, true, true, false, false, false, true, true, false] [3, 4, 6, 7, 8])
 (.seq (.seq (.ops [So 15 (.load 34 (.tmp 6)) 34,
 So 16 (.call ⟨.value (.func 40), #[.tmp 15], #[34]⟩) 4] [3, 4, 6, 7, 8, 16])
 (.cond (.tmp 16)
 (.draw [So 17 (.load 42 (.tmp 3)) 42,
 So 18 (.call ⟨.value (.func 91), #[.const (.int .i64 11), .tmp 17], #[3, 42]⟩) 42,
 So 19 (.load 42 (.tmp 3)) 42,
 So 20 (.call ⟨.value (.func 91), #[.const (.int .i64 12), .tmp 19], #[3, 42]⟩) 42,
 Sn (.store 42 (.tmp 7) (.tmp 18)) 0,
 Sn (.store 42 (.tmp 8) (.tmp 20)) 0] [false, true, true, false, false, false] [4, 6, 7, 8])
 (.skip)))
 (.seq (.seq (.ops [So 21 (.load 42 (.tmp 7)) 42,
 So 22 (.call ⟨.value (.func 90), #[.tmp 21], #[42]⟩) 3,
 So 23 (.binOp .gtr 3 (.tmp 22) (.const (.int .i64 4096)) 3) 4,
 So 24 (.move (.tmp 23)) 4,
 Sg 25 (.load 34 (.tmp 6)) 34 24 false,
 Sg 26 (.load 42 (.tmp 7)) 42 24 false,
 Sg 27 (.call ⟨.value (.func 126), #[.tmp 25, .tmp 26], #[34, 42]⟩) 3 24 false,
 Sg 28 (.binOp .gtr 3 (.tmp 27) (.const (.int .i64 4096)) 3) 4 24 false,
 So 29 (.pick (.tmp 24) (.const (.bool true)) (.tmp 28)) 4] [4, 6, 7, 8, 29])
 (.cond (.tmp 29)
 (.seq (.ops [So 30 (.build 34 #[]) 34,
 Sn (.store 34 (.tmp 4) (.tmp 30)) 0,
 So 5 (.assign (.const (.int .i64 4))) 36] [4, 5])
 (.ret))
 (.skip)))
 (.seq (.draw [So 31 (.load 34 (.tmp 6)) 34,
 So 32 (.load 42 (.tmp 7)) 42,
 So 33 (.call ⟨.value (.func 127), #[.tmp 31, .tmp 32], #[34, 42]⟩) 34,
 So 34 (.load 42 (.tmp 8)) 42,
 So 35 (.call ⟨.value (.func 42), #[.tmp 33, .tmp 34], #[34, 42]⟩) 39,
 So 36 (.extract (.tmp 35) 0) 34,
 So 37 (.extract (.tmp 35) 1) 36,
 Sn (.store 34 (.tmp 4) (.tmp 36)) 0,
 So 5 (.assign (.tmp 37)) 36] [false, false, true, true, false, false, false, false, false] [4, 5])
 (.ret)))))
theorem w97 : CW 97 s97 [.cell 4 34, .tmp 5] := fun hr h => callsV_of_p follows cfgT a97 (fn := Tryz.f97) (c := Tryz.f97.body.getD .skip) (by kernel_rfl) (by kernel_rfl) (by kernel_rfl) (by kernel_rfl) (by kernel_rfl) (sc := s97) (by kernel_rfl) [.cell 4 34, .tmp 5] (by kernel_rfl) hr h
def a42 : List Ann := [⟨[2, 3, 4], [], []⟩,
 ⟨[2, 3, 4, 14], [], []⟩,
 ⟨[4, 5], [], []⟩,
 ⟨[2, 3, 4, 17], [], []⟩,
 ⟨[2, 3, 4, 17, 18], [], []⟩,
 ⟨[2, 3, 4, 6, 7], [0, 0, 0, 0, 13, 31], [false, true, false, false, true, false]⟩,
 ⟨[2, 3, 4, 6, 7, 33], [], []⟩,
 ⟨[2, 4, 6, 7], [0, 1, 0, 7, 15, 31], [false, true, true, false, false, false]⟩,
 ⟨[4, 5], [0, 1, 0, 4, 12, 28, 0, 0, 128, 384, 896, 0, 4095, 8191, 8191, 32767, 65535], [false, false, false, false, false, false, false, false, false, false, false, false, false, false, false, false, false]⟩,
 ⟨[2, 3, 4, 17, 53], [], []⟩,
 ⟨[4, 5], [], []⟩,
 ⟨[2, 3, 4, 17, 60], [], []⟩,
 ⟨[2, 3, 4, 17, 60], [], []⟩,
 ⟨[2, 3, 4, 17, 60], [], []⟩,
 ⟨[2, 3, 4, 8], [], []⟩,
 ⟨[2, 3, 4, 8, 75], [], []⟩,
 ⟨[2, 4, 8], [], []⟩,
 ⟨[2, 4, 9, 10], [0, 1, 3, 7, 0, 31, 63, 127, 127, 0, 767, 2047], [false, false, false, false, false, true, false, false, false, true, false, false]⟩,
 ⟨[2, 4, 9, 10, 88], [], []⟩,
 ⟨[4, 5], [], []⟩,
 ⟨[2, 4, 9, 11], [], []⟩,
 ⟨[2, 4, 9, 11, 94], [], []⟩,
 ⟨[2, 4, 9, 11], [], []⟩,
 ⟨[4, 5], [], []⟩,
 ⟨[2, 3, 4, 103], [], []⟩,
 ⟨[4, 5], [], []⟩,
 ⟨[4, 5], [], []⟩]
def s42 : SC := .seq (.ops [So 2 (.box 34 (.tmp 0)) 0,
 So 3 (.box 42 (.tmp 1)) 0,
 So 4 (.alloc 34) 0,
 So 5 (.assign (.const (.int .i64 0))) 36] [2, 3, 4])
 (.seq (.seq (.ops [So 12 (.load 42 (.tmp 3)) 42,
 So 13 (.call ⟨.value (.func 90), #[.tmp 12], #[42]⟩) 3,
 So 14 (.binOp .gtr 3 (.tmp 13) (.const (.int .i64 4096)) 3) 4] [2, 3, 4, 14])
 (.cond (.tmp 14)
 (.seq (.ops [So 15 (.build 34 #[]) 34,
 Sn (.store 34 (.tmp 4) (.tmp 15)) 0,
 So 5 (.assign (.const (.int .i64 4))) 36] [4, 5])
 (.ret))
 (.skip)))
 (.seq (.seq (.ops [So 16 (.fieldAddr 34 (.tmp 2) 0) 0,
 So 17 (.load 3 (.tmp 16)) 3] [2, 3, 4, 17])
 (.block 0
 (.seq (.ops [So 19 (.binOp .eql 3 (.tmp 17) (.const (.int .i64 2)) 3) 4,
 So 18 (.assign (.tmp 19)) 4] [2, 3, 4, 17, 18])
 (.cond (.tmp 18)
 (.seq (.draw [So 20 (.load 42 (.tmp 3)) 42,
 So 21 (.load 42 (.tmp 3)) 42,
 So 6 (.alloc 42) 0,
 So 7 (.alloc 42) 0,
 Sn (.store 42 (.tmp 6) (.tmp 20)) 0,
 Sn (.store 42 (.tmp 7) (.tmp 21)) 0] [false, true, false, false, true, false] [2, 3, 4, 6, 7])
 (.seq (.seq (.ops [So 22 (.fieldAddr 34 (.tmp 2) 3) 0,
 So 23 (.load 32 (.tmp 22)) 32,
 So 24 (.indexAddr 32 (.tmp 23) (.const (.int .i64 0))) 0,
 So 25 (.load 34 (.tmp 24)) 34,
 So 26 (.call ⟨.value (.func 40), #[.tmp 25], #[34]⟩) 4,
 So 27 (.move (.tmp 26)) 4,
 Sg 28 (.fieldAddr 34 (.tmp 2) 3) 0 27 true,
 Sg 29 (.load 32 (.tmp 28)) 32 27 true,
 Sg 30 (.indexAddr 32 (.tmp 29) (.const (.int .i64 1))) 0 27 true,
 Sg 31 (.load 34 (.tmp 30)) 34 27 true,
 Sg 32 (.call ⟨.value (.func 40), #[.tmp 31], #[34]⟩) 4 27 true,
 So 33 (.pick (.tmp 27) (.tmp 32) (.const (.bool false))) 4] [2, 3, 4, 6, 7, 33])
 (.cond (.tmp 33)
 (.draw [So 34 (.load 42 (.tmp 3)) 42,
 So 35 (.call ⟨.value (.func 91), #[.const (.int .i64 11), .tmp 34], #[3, 42]⟩) 42,
 So 36 (.load 42 (.tmp 3)) 42,
 So 37 (.call ⟨.value (.func 91), #[.const (.int .i64 12), .tmp 36], #[3, 42]⟩) 42,
 Sn (.store 42 (.tmp 6) (.tmp 35)) 0,
 Sn (.store 42 (.tmp 7) (.tmp 37)) 0] [false, true, true, false, false, false] [2, 4, 6, 7])
 (.skip)))
 (.seq (.draw [So 38 (.fieldAddr 34 (.tmp 2) 0) 0,
 So 39 (.load 3 (.tmp 38)) 3,
 So 40 (.fieldAddr 34 (.tmp 2) 3) 0,
 So 41 (.load 32 (.tmp 40)) 32,
 So 42 (.indexAddr 32 (.tmp 41) (.const (.int .i64 0))) 0,
 So 43 (.load 34 (.tmp 42)) 34,
 So 44 (.load 42 (.tmp 6)) 42,
 So 45 (.fieldAddr 34 (.tmp 2) 3) 0,
 So 46 (.load 32 (.tmp 45)) 32,
 So 47 (.indexAddr 32 (.tmp 46) (.const (.int .i64 1))) 0,
 So 48 (.load 34 (.tmp 47)) 34,
 So 49 (.load 42 (.tmp 7)) 42,
 So 50 (.call ⟨.value (.func 92), #[.tmp 39, .tmp 43, .tmp 44, .tmp 48, .tmp 49], #[3, 34, 42, 34, 42]⟩) 39,
 So 51 (.extract (.tmp 50) 0) 34,
 So 52 (.extract (.tmp 50) 1) 36,
 Sn (.store 34 (.tmp 4) (.tmp 51)) 0,
 So 5 (.assign (.tmp 52)) 36] [false, false, false, false, false, false, false, false, false, false, false, false, false, false, false, false, false] [4, 5])
 (.ret))))
 (.seq (.ops [So 54 (.binOp .eql 3 (.tmp 17) (.const (.int .i64 3)) 3) 4,
 So 53 (.assign (.tmp 54)) 4] [2, 3, 4, 17, 53])
 (.cond (.tmp 53)
 (.seq (.ops [So 55 (.load 34 (.tmp 2)) 34,
 So 56 (.load 42 (.tmp 3)) 42,
 So 57 (.call ⟨.value (.func 93), #[.tmp 55, .tmp 56], #[34, 42]⟩) 39,
 So 58 (.extract (.tmp 57) 0) 34,
 So 59 (.extract (.tmp 57) 1) 36,
 Sn (.store 34 (.tmp 4) (.tmp 58)) 0,
 So 5 (.assign (.tmp 59)) 36] [4, 5])
 (.ret))
 (.seq (.seq (.ops [So 61 (.binOp .eql 3 (.tmp 17) (.const (.int .i64 4)) 3) 4,
 So 60 (.assign (.tmp 61)) 4] [2, 3, 4, 17, 60])
 (.cond (.tmp 60)
 (.skip)
 (.seq (.ops [So 62 (.binOp .eql 3 (.tmp 17) (.const (.int .i64 6)) 3) 4,
 So 60 (.assign (.tmp 62)) 4] [2, 3, 4, 17, 60])
 (.cond (.tmp 60)
 (.skip)
 (.ops [So 63 (.binOp .eql 3 (.tmp 17) (.const (.int .i64 7)) 3) 4,
 So 60 (.assign (.tmp 63)) 4] [2, 3, 4, 17, 60])))))
 (.cond (.tmp 60)
 (.seq (.ops [So 64 (.load 42 (.tmp 3)) 42,
 So 65 (.call ⟨.value (.func 94), #[.tmp 64, .const (.int .i64 0), .const (.int .i64 1)], #[42, 3, 3]⟩) 42,
 So 8 (.alloc 42) 0,
 Sn (.store 42 (.tmp 8) (.tmp 65)) 0] [2, 3, 4, 8])
 (.seq (.seq (.ops [So 66 (.fieldAddr 34 (.tmp 2) 0) 0,
 So 67 (.load 3 (.tmp 66)) 3,
 So 68 (.binOp .eql 3 (.tmp 67) (.const (.int .i64 4)) 3) 4,
 So 69 (.move (.tmp 68)) 4,
 Sg 70 (.fieldAddr 34 (.tmp 2) 3) 0 69 true,
 Sg 71 (.load 32 (.tmp 70)) 32 69 true,
 Sg 72 (.indexAddr 32 (.tmp 71) (.const (.int .i64 0))) 0 69 true,
 Sg 73 (.load 34 (.tmp 72)) 34 69 true,
 Sg 74 (.call ⟨.value (.func 40), #[.tmp 73], #[34]⟩) 4 69 true,
 So 75 (.pick (.tmp 69) (.tmp 74) (.const (.bool false))) 4] [2, 3, 4, 8, 75])
 (.cond (.tmp 75)
 (.ops [So 76 (.load 42 (.tmp 3)) 42,
 So 77 (.call ⟨.value (.func 95), #[.tmp 76], #[42]⟩) 42,
 Sn (.store 42 (.tmp 8) (.tmp 77)) 0] [2, 4, 8])
 (.skip)))
 (.seq (.draw [So 79 (.fieldAddr 34 (.tmp 2) 3) 0,
 So 80 (.load 32 (.tmp 79)) 32,
 So 81 (.indexAddr 32 (.tmp 80) (.const (.int .i64 0))) 0,
 So 82 (.load 34 (.tmp 81)) 34,
 So 83 (.load 42 (.tmp 8)) 42,
 So 84 (.call ⟨.value (.func 42), #[.tmp 82, .tmp 83], #[34, 42]⟩) 39,
 So 78 (.move (.tmp 84)) 39,
 So 85 (.extract (.tmp 78) 0) 34,
 So 86 (.extract (.tmp 78) 1) 36,
 So 9 (.alloc 34) 0,
 Sn (.store 34 (.tmp 9) (.tmp 85)) 0,
 So 10 (.assign (.tmp 86)) 36] [false, false, false, false, false, true, false, false, false, true, false, false] [2, 4, 9, 10])
 (.seq (.seq (.ops [So 87 (.move (.tmp 10)) 36,
 So 88 (.binOp .neq 36 (.tmp 87) (.const (.int .i64 0)) 36) 4] [2, 4, 9, 10, 88])
 (.cond (.tmp 88)
 (.seq (.ops [So 89 (.build 34 #[]) 34,
 So 90 (.move (.tmp 10)) 36,
 Sn (.store 34 (.tmp 4) (.tmp 89)) 0,
 So 5 (.assign (.tmp 90)) 36] [4, 5])
 (.ret))
 (.skip)))
 (.seq (.ops [So 91 (.fieldAddr 34 (.tmp 2) 0) 0,
 So 92 (.load 3 (.tmp 91)) 3,
 So 11 (.assign (.tmp 92)) 3] [2, 4, 9, 11])
 (.seq (.seq (.ops [So 93 (.move (.tmp 11)) 3,
 So 94 (.binOp .eql 3 (.tmp 93) (.const (.int .i64 6)) 3) 4] [2, 4, 9, 11, 94])
 (.cond (.tmp 94)
 (.ops [So 11 (.assign (.const (.int .i64 4))) 3] [2, 4, 9, 11])
 (.skip)))
 (.seq (.ops [So 95 (.move (.tmp 11)) 3,
 So 96 (.fieldAddr 34 (.tmp 2) 1) 0,
 So 97 (.load 30 (.tmp 96)) 30,
 So 98 (.load 34 (.tmp 9)) 34,
 So 99 (.buildSlice 32 1 #[(0, .tmp 98)]) 32,
 So 100 (.call ⟨.value (.func 96), #[.tmp 95, .tmp 97, .tmp 99], #[3, 30, 32]⟩) 39,
 So 101 (.extract (.tmp 100) 0) 34,
 So 102 (.extract (.tmp 100) 1) 36,
 Sn (.store 34 (.tmp 4) (.tmp 101)) 0,
 So 5 (.assign (.tmp 102)) 36] [4, 5])
 (.ret))))))))
 (.seq (.ops [So 104 (.binOp .eql 3 (.tmp 17) (.const (.int .i64 5)) 3) 4,
 So 103 (.assign (.tmp 104)) 4] [2, 3, 4, 103])
 (.cond (.tmp 103)
 (.seq (.ops [So 105 (.load 34 (.tmp 2)) 34,
 So 106 (.load 42 (.tmp 3)) 42,
 So 107 (.call ⟨.value (.func 97), #[.tmp 105, .tmp 106], #[34, 42]⟩) 39,
 So 108 (.extract (.tmp 107) 0) 34,
 So 109 (.extract (.tmp 107) 1) 36,
 Sn (.store 34 (.tmp 4) (.tmp 108)) 0,
 So 5 (.assign (.tmp 109)) 36] [4, 5])
 (.ret))
 (.skip)))))))))))
 (.seq (.ops [So 110 (.load 34 (.tmp 2)) 34,
 Sn (.store 34 (.tmp 4) (.tmp 110)) 0,
 So 5 (.assign (.const (.int .i64 0))) 36] [4, 5])
 (.ret))))
theorem w42 : CW 42 s42 [.cell 4 34, .tmp 5] := fun hr h => callsV_of_p follows cfgT a42 (fn := Tryz.f42) (c := Tryz.f42.body.getD .skip) (by kernel_rfl) (by kernel_rfl) (by kernel_rfl) (by kernel_rfl) (by kernel_rfl) (sc := s42) (by kernel_rfl) [.cell 4 34, .tmp 5] (by kernel_rfl) hr h
def a14 : List Ann := [⟨[2, 3, 4], [], []⟩,
 ⟨[2, 3, 4, 6], [], []⟩,
 ⟨[2, 3, 4, 6, 11], [], []⟩,
 ⟨[4, 5], [], []⟩,
 ⟨[2, 3, 4, 7], [], []⟩,
 ⟨[2, 3, 4, 7, 17], [], []⟩,
 ⟨[4, 5], [], []⟩,
 ⟨[2, 3, 4, 25], [], []⟩,
 ⟨[4, 5], [], []⟩,
 ⟨[2, 3, 4, 29], [], []⟩,
 ⟨[2, 3, 4], [], []⟩,
 ⟨[4, 5], [], []⟩]
def s14 : SC := .seq (.ops [So 2 (.box 34 (.tmp 0)) 0,
 So 3 (.box 42 (.tmp 1)) 0,
 So 4 (.alloc 34) 0,
 So 5 (.assign (.const (.int .i64 0))) 36] [2, 3, 4])
 (.seq (.seq (.ops [So 8 (.load 34 (.tmp 2)) 34,
 So 9 (.call ⟨.value (.func 36), #[.tmp 8], #[34]⟩) 36,
 So 6 (.assign (.tmp 9)) 36] [2, 3, 4, 6])
 (.seq (.ops [So 10 (.move (.tmp 6)) 36,
 So 11 (.binOp .neq 36 (.tmp 10) (.const (.int .i64 0)) 36) 4] [2, 3, 4, 6, 11])
 (.cond (.tmp 11)
 (.seq (.ops [So 12 (.build 34 #[]) 34,
 So 13 (.move (.tmp 6)) 36,
 Sn (.store 34 (.tmp 4) (.tmp 12)) 0,
 So 5 (.assign (.tmp 13)) 36] [4, 5])
 (.ret))
 (.skip))))
 (.seq (.seq (.ops [So 14 (.load 42 (.tmp 3)) 42,
 So 15 (.call ⟨.value (.func 37), #[.tmp 14], #[42]⟩) 36,
 So 7 (.assign (.tmp 15)) 36] [2, 3, 4, 7])
 (.seq (.ops [So 16 (.move (.tmp 7)) 36,
 So 17 (.binOp .neq 36 (.tmp 16) (.const (.int .i64 0)) 36) 4] [2, 3, 4, 7, 17])
 (.cond (.tmp 17)
 (.seq (.ops [So 18 (.build 34 #[]) 34,
 So 19 (.move (.tmp 7)) 36,
 Sn (.store 34 (.tmp 4) (.tmp 18)) 0,
 So 5 (.assign (.tmp 19)) 36] [4, 5])
 (.ret))
 (.skip))))
 (.seq (.seq (.ops [So 20 (.load 34 (.tmp 2)) 34,
 So 21 (.call ⟨.value (.func 38), #[.tmp 20], #[34]⟩) 4,
 So 22 (.move (.tmp 21)) 4,
 Sg 23 (.load 42 (.tmp 3)) 42 22 false,
 Sg 24 (.call ⟨.value (.func 39), #[.tmp 23], #[42]⟩) 4 22 false,
 So 25 (.pick (.tmp 22) (.const (.bool true)) (.tmp 24)) 4] [2, 3, 4, 25])
 (.cond (.tmp 25)
 (.seq (.ops [So 26 (.build 34 #[]) 34,
 Sn (.store 34 (.tmp 4) (.tmp 26)) 0,
 So 5 (.assign (.const (.int .i64 1))) 36] [4, 5])
 (.ret))
 (.skip)))
 (.seq (.seq (.ops [So 27 (.load 34 (.tmp 2)) 34,
 So 28 (.call ⟨.value (.func 40), #[.tmp 27], #[34]⟩) 4,
 So 29 (.unOp .not 4 (.tmp 28)) 4] [2, 3, 4, 29])
 (.cond (.tmp 29)
 (.ops [So 30 (.call ⟨.value (.func 41), #[], #[]⟩) 42,
 Sn (.store 42 (.tmp 3) (.tmp 30)) 0] [2, 3, 4])
 (.skip)))
 (.seq (.ops [So 31 (.load 34 (.tmp 2)) 34,
 So 32 (.load 42 (.tmp 3)) 42,
 So 33 (.call ⟨.value (.func 42), #[.tmp 31, .tmp 32], #[34, 42]⟩) 39,
 So 34 (.extract (.tmp 33) 0) 34,
 So 35 (.extract (.tmp 33) 1) 36,
 Sn (.store 34 (.tmp 4) (.tmp 34)) 0,
 So 5 (.assign (.tmp 35)) 36] [4, 5])
 (.ret))))))
theorem w14 : CW 14 s14 [.cell 4 34, .tmp 5] := fun hr h => callsV_of_p follows cfgT a14 (fn := Tryz.f14) (c := Tryz.f14.body.getD .skip) (by kernel_rfl) (by kernel_rfl) (by kernel_rfl) (by kernel_rfl) (by kernel_rfl) (sc := s14) (by kernel_rfl) [.cell 4 34, .tmp 5] (by kernel_rfl) hr h
def a133 : List Ann := [⟨[0], [], []⟩,
 ⟨[0, 8], [], []⟩,
 ⟨[2], [], []⟩,
 ⟨[9, 10, 11], [], []⟩,
 ⟨[9, 10, 11, 12], [], []⟩,
 ⟨[4, 9, 10, 11], [], []⟩,
 ⟨[5, 9, 10, 11], [], []⟩,
 ⟨[5, 9, 10, 11, 18], [], []⟩,
 ⟨[2], [], []⟩,
 ⟨[9, 10, 11], [], []⟩,
 ⟨[2], [], []⟩]
def s133 : SC := .seq (.ops [So 2 (.assign (.const (.int .i64 0))) 36] [0])
 (.seq (.seq (.ops [So 6 (.move (.tmp 0)) 27,
 So 7 (.call ⟨.builtin .len, #[.tmp 6], #[27]⟩) 3,
 So 8 (.binOp .gtr 3 (.tmp 7) (.const (.int .i64 16)) 3) 4] [0, 8])
 (.cond (.tmp 8)
 (.seq (.ops [So 2 (.assign (.const (.int .i64 3))) 36] [2])
 (.ret))
 (.skip)))
 (.seq (.seq (.ops [So 9 (.move (.tmp 0)) 27,
 So 10 (.call ⟨.builtin .len, #[.tmp 9], #[27]⟩) 3,
 So 11 (.move (.const (.int .i64 0))) 3] [9, 10, 11])
 (.block 0
 (.loop
 (.seq (.ops [So 12 (.binOp .lss 3 (.tmp 11) (.tmp 10) 3) 0] [9, 10, 11, 12])
 (.seq (.cond (.tmp 12)
 (.skip)
 (.exit 0))
 (.seq (.block 1
 (.seq (.ops [So 13 (.indexAddr 27 (.tmp 9) (.tmp 11)) 0,
 So 14 (.load 30 (.tmp 13)) 30,
 So 4 (.alloc 30) 0,
 Sn (.store 30 (.tmp 4) (.tmp 14)) 0] [4, 9, 10, 11])
 (.seq (.ops [So 15 (.load 30 (.tmp 4)) 30,
 So 16 (.call ⟨.value (.func 153), #[.tmp 15], #[30]⟩) 36,
 So 5 (.assign (.tmp 16)) 36] [5, 9, 10, 11])
 (.seq (.ops [So 17 (.move (.tmp 5)) 36,
 So 18 (.binOp .neq 36 (.tmp 17) (.const (.int .i64 0)) 36) 4] [5, 9, 10, 11, 18])
 (.cond (.tmp 18)
 (.seq (.ops [So 19 (.move (.tmp 5)) 36,
 So 2 (.assign (.tmp 19)) 36] [2])
 (.ret))
 (.skip))))))
 (.ops [So 20 (.binOp .add 3 (.tmp 11) (.const (.int .i64 1)) 3) 3,
 So 11 (.move (.tmp 20)) 3] [9, 10, 11])))))))
 (.seq (.ops [So 2 (.assign (.const (.int .i64 0))) 36] [2])
 (.ret))))
theorem w133 : CW 133 s133 [.tmp 2] := fun hr h => callsV_of_p follows cfgT a133 (fn := Tryz.f133) (c := Tryz.f133.body.getD .skip) (by kernel_rfl) (by kernel_rfl) (by kernel_rfl) (by kernel_rfl) (by kernel_rfl) (sc := s133) (by kernel_rfl) [.tmp 2] (by kernel_rfl) hr h
def a109 : List Ann := [⟨[1, 2, 3], [], []⟩,
 ⟨[1, 2, 3, 4], [], []⟩,
 ⟨[1, 2, 3, 4, 14], [], []⟩,
 ⟨[2, 3, 4], [], []⟩,
 ⟨[1, 2, 3, 19], [], []⟩,
 ⟨[2, 3, 4], [], []⟩,
 ⟨[1, 2, 3], [], []⟩,
 ⟨[2, 3, 25, 26, 27], [], []⟩,
 ⟨[2, 3, 25, 26, 27, 28], [], []⟩,
 ⟨[2, 3, 6, 25, 26, 27], [], []⟩,
 ⟨[2, 3, 4, 6, 25, 26, 27], [], []⟩,
 ⟨[2, 3, 4, 6, 25, 26, 27, 34], [], []⟩,
 ⟨[2, 3, 4], [], []⟩,
 ⟨[2, 3, 7, 8, 9, 25, 26, 27], [], []⟩,
 ⟨[2, 3, 25, 26, 27], [], []⟩,
 ⟨[2, 3, 7, 8, 9, 25, 26, 27, 45], [], []⟩,
 ⟨[2, 3, 4], [], []⟩,
 ⟨[2, 3, 7, 25, 26, 27, 49], [], []⟩,
 ⟨[2, 3, 7, 25, 26, 27], [], []⟩,
 ⟨[2, 3, 25, 26, 27], [], []⟩,
 ⟨[2, 3, 25, 26, 27], [], []⟩,
 ⟨[2, 3, 4], [], []⟩]
def s109 : SC := .seq (.ops [So 1 (.box 53 (.tmp 0)) 0,
 So 2 (.assign (.const (.slice none 0 0))) 27,
 So 3 (.assign (.const (.slice none 0 0))) 22,
 So 4 (.assign (.const (.int .i64 0))) 36] [1, 2, 3])
 (.seq (.seq (.ops [So 10 (.fieldAddr 53 (.tmp 1) 0) 0,
 So 11 (.load 27 (.tmp 10)) 27,
 So 12 (.call ⟨.value (.func 133), #[.tmp 11], #[27]⟩) 36,
 So 4 (.assign (.tmp 12)) 36] [1, 2, 3, 4])
 (.seq (.ops [So 13 (.move (.tmp 4)) 36,
 So 14 (.binOp .neq 36 (.tmp 13) (.const (.int .i64 0)) 36) 4] [1, 2, 3, 4, 14])
 (.cond (.tmp 14)
 (.seq (.ops [So 15 (.move (.tmp 4)) 36,
 So 2 (.assign (.const (.slice none 0 0))) 27,
 So 3 (.assign (.const (.slice none 0 0))) 22,
 So 4 (.assign (.tmp 15)) 36] [2, 3, 4])
 (.ret))
 (.skip))))
 (.seq (.seq (.ops [So 16 (.fieldAddr 53 (.tmp 1) 1) 0,
 So 17 (.load 32 (.tmp 16)) 32,
 So 18 (.call ⟨.builtin .len, #[.tmp 17], #[32]⟩) 3,
 So 19 (.binOp .gtr 3 (.tmp 18) (.const (.int .i64 16)) 3) 4] [1, 2, 3, 19])
 (.cond (.tmp 19)
 (.seq (.ops [So 2 (.assign (.const (.slice none 0 0))) 27,
 So 3 (.assign (.const (.slice none 0 0))) 22,
 So 4 (.assign (.const (.int .i64 3))) 36] [2, 3, 4])
 (.ret))
 (.skip)))
 (.seq (.ops [So 20 (.move (.tmp 2)) 27,
 So 21 (.fieldAddr 53 (.tmp 1) 0) 0,
 So 22 (.load 27 (.tmp 21)) 27,
 So 23 (.call ⟨.builtin .append, #[.tmp 20, .tmp 22], #[27, 27]⟩) 27,
 So 2 (.assign (.tmp 23)) 27] [1, 2, 3])
 (.seq (.seq (.ops [So 24 (.fieldAddr 53 (.tmp 1) 1) 0,
 So 25 (.load 32 (.tmp 24)) 32,
 So 26 (.call ⟨.builtin .len, #[.tmp 25], #[32]⟩) 3,
 So 27 (.move (.const (.int .i64 0))) 3] [2, 3, 25, 26, 27])
 (.block 0
 (.loop
 (.seq (.ops [So 28 (.binOp .lss 3 (.tmp 27) (.tmp 26) 3) 0] [2, 3, 25, 26, 27, 28])
 (.seq (.cond (.tmp 28)
 (.skip)
 (.exit 0))
 (.seq (.block 1
 (.seq (.ops [So 29 (.indexAddr 32 (.tmp 25) (.tmp 27)) 0,
 So 30 (.load 34 (.tmp 29)) 34,
 So 6 (.alloc 34) 0,
 Sn (.store 34 (.tmp 6) (.tmp 30)) 0] [2, 3, 6, 25, 26, 27])
 (.seq (.seq (.ops [So 31 (.load 34 (.tmp 6)) 34,
 So 32 (.call ⟨.value (.func 36), #[.tmp 31], #[34]⟩) 36,
 So 4 (.assign (.tmp 32)) 36] [2, 3, 4, 6, 25, 26, 27])
 (.seq (.ops [So 33 (.move (.tmp 4)) 36,
 So 34 (.binOp .neq 36 (.tmp 33) (.const (.int .i64 0)) 36) 4] [2, 3, 4, 6, 25, 26, 27, 34])
 (.cond (.tmp 34)
 (.seq (.ops [So 35 (.move (.tmp 4)) 36,
 So 2 (.assign (.const (.slice none 0 0))) 27,
 So 3 (.assign (.const (.slice none 0 0))) 22,
 So 4 (.assign (.tmp 35)) 36] [2, 3, 4])
 (.ret))
 (.skip))))
 (.seq (.ops [So 37 (.load 34 (.tmp 6)) 34,
 So 38 (.call ⟨.value (.func 134), #[.tmp 37], #[34]⟩) 132,
 So 36 (.move (.tmp 38)) 132,
 So 39 (.extract (.tmp 36) 0) 30,
 So 40 (.extract (.tmp 36) 1) 4,
 So 41 (.extract (.tmp 36) 2) 36,
 So 7 (.alloc 30) 0,
 Sn (.store 30 (.tmp 7) (.tmp 39)) 0,
 So 8 (.assign (.tmp 40)) 4,
 So 9 (.assign (.tmp 41)) 36] [2, 3, 7, 8, 9, 25, 26, 27])
 (.block 2
 (.seq (.ops [So 46 (.move (.tmp 9)) 36,
 So 47 (.binOp .neq 36 (.tmp 46) (.const (.int .i64 0)) 36) 4,
 So 45 (.assign (.tmp 47)) 4] [2, 3, 7, 8, 9, 25, 26, 27, 45])
 (.cond (.tmp 45)
 (.seq (.ops [So 48 (.move (.tmp 9)) 36,
 So 2 (.assign (.const (.slice none 0 0))) 27,
 So 3 (.assign (.const (.slice none 0 0))) 22,
 So 4 (.assign (.tmp 48)) 36] [2, 3, 4])
 (.ret))
 (.seq (.ops [So 50 (.move (.tmp 8)) 4,
 So 49 (.assign (.tmp 50)) 4] [2, 3, 7, 25, 26, 27, 49])
 (.cond (.tmp 49)
 (.seq (.ops [So 51 (.move (.tmp 3)) 22,
 So 52 (.move (.tmp 2)) 27,
 So 53 (.call ⟨.builtin .len, #[.tmp 52], #[27]⟩) 3,
 So 54 (.buildSlice 22 1 #[(0, .tmp 53)]) 22,
 So 55 (.call ⟨.builtin .append, #[.tmp 51, .tmp 54], #[22, 22]⟩) 22,
 So 3 (.assign (.tmp 55)) 22] [2, 3, 7, 25, 26, 27])
 (.ops [So 56 (.move (.tmp 2)) 27,
 So 57 (.load 30 (.tmp 7)) 30,
 So 58 (.buildSlice 27 1 #[(0, .tmp 57)]) 27,
 So 59 (.call ⟨.builtin .append, #[.tmp 56, .tmp 58], #[27, 27]⟩) 27,
 So 2 (.assign (.tmp 59)) 27] [2, 3, 25, 26, 27]))
 (.ops [So 42 (.move (.tmp 3)) 22,
 So 43 (.buildSlice 22 1 #[(0, .const (.int .i64 (-1)))]) 22,
 So 44 (.call ⟨.builtin .append, #[.tmp 42, .tmp 43], #[22, 22]⟩) 22,
 So 3 (.assign (.tmp 44)) 22] [2, 3, 25, 26, 27]))))))))))
 (.ops [So 60 (.binOp .add 3 (.tmp 27) (.const (.int .i64 1)) 3) 3,
 So 27 (.move (.tmp 60)) 3] [2, 3, 25, 26, 27])))))))
 (.seq (.ops [So 61 (.move (.tmp 2)) 27,
 So 62 (.move (.tmp 3)) 22,
 So 2 (.assign (.tmp 61)) 27,
 So 3 (.assign (.tmp 62)) 22,
 So 4 (.assign (.const (.int .i64 0))) 36] [2, 3, 4])
 (.ret))))))
theorem w109 : CW 109 s109 [.tmp 2, .tmp 3, .tmp 4] := fun hr h => callsV_of_p follows cfgT a109 (fn := Tryz.f109) (c := Tryz.f109.body.getD .skip) (by kernel_rfl) (by kernel_rfl) (by kernel_rfl) (by kernel_rfl) (by kernel_rfl) (sc := s109) (by kernel_rfl) [.tmp 2, .tmp 3, .tmp 4] (by kernel_rfl) hr h
def a69 : List Ann := [⟨[1], [], []⟩,
 ⟨[4, 6], [], []⟩,
 ⟨[2, 3], [], []⟩]
def s69 : SC := .seq (.ops [So 1 (.box 53 (.tmp 0)) 0,
 So 2 (.assign (.const (.slice none 0 0))) 27,
 So 3 (.assign (.const (.int .i64 0))) 36] [1])
 (.seq (.ops [So 8 (.load 53 (.tmp 1)) 53,
 So 9 (.call ⟨.value (.func 109), #[.tmp 8], #[53]⟩) 115,
 So 7 (.move (.tmp 9)) 115,
 So 10 (.extract (.tmp 7) 0) 27,
 So 11 (.extract (.tmp 7) 1) 22,
 So 12 (.extract (.tmp 7) 2) 36,
 So 4 (.assign (.tmp 10)) 27,
 So 5 (.assign (.tmp 11)) 22,
 So 6 (.assign (.tmp 12)) 36] [4, 6])
 (.seq (.ops [So 13 (.move (.tmp 4)) 27,
 So 14 (.move (.tmp 6)) 36,
 So 2 (.assign (.tmp 13)) 27,
 So 3 (.assign (.tmp 14)) 36] [2, 3])
 (.ret)))
theorem w69 : CW 69 s69 [.tmp 2, .tmp 3] := fun hr h => callsV_of_p follows cfgT a69 (fn := Tryz.f69) (c := Tryz.f69.body.getD .skip) (by kernel_rfl) (by kernel_rfl) (by kernel_rfl) (by kernel_rfl) (by kernel_rfl) (sc := s69) (by kernel_rfl) [.tmp 2, .tmp 3] (by kernel_rfl) hr h
def a70 : List Ann := [⟨[1], [], []⟩,
 ⟨[5, 6], [], []⟩,
 ⟨[2, 3], [], []⟩]
def s70 : SC := .seq (.ops [So 1 (.box 53 (.tmp 0)) 0,
 So 2 (.assign (.const (.slice none 0 0))) 22,
 So 3 (.assign (.const (.int .i64 0))) 36] [1])
 (.seq (.ops [So 8 (.load 53 (.tmp 1)) 53,
 So 9 (.call ⟨.value (.func 109), #[.tmp 8], #[53]⟩) 115,
 So 7 (.move (.tmp 9)) 115,
 So 10 (.extract (.tmp 7) 0) 27,
 So 11 (.extract (.tmp 7) 1) 22,
 So 12 (.extract (.tmp 7) 2) 36,
 So 4 (.assign (.tmp 10)) 27,
 So 5 (.assign (.tmp 11)) 22,
 So 6 (.assign (.tmp 12)) 36] [5, 6])
 (.seq (.ops [So 13 (.move (.tmp 5)) 22,
 So 14 (.move (.tmp 6)) 36,
 So 2 (.assign (.tmp 13)) 22,
 So 3 (.assign (.tmp 14)) 36] [2, 3])
 (.ret)))
theorem w70 : CW 70 s70 [.tmp 2, .tmp 3] := fun hr h => callsV_of_p follows cfgT a70 (fn := Tryz.f70) (c := Tryz.f70.body.getD .skip) (by kernel_rfl) (by kernel_rfl) (by kernel_rfl) (by kernel_rfl) (by kernel_rfl) (sc := s70) (by kernel_rfl) [.tmp 2, .tmp 3] (by kernel_rfl) hr h
def a110 : List Ann := [⟨[0], [], []⟩,
 ⟨[2], [], []⟩]
def s110 : SC := .seq (.ops [So 2 (.assign (.const (.bool false))) 4] [0])
 (.seq (.ops [So 3 (.move (.tmp 0)) 3,
 So 4 (.binOp .geq 3 (.tmp 3) (.const (.int .i64 0)) 3) 4,
 So 5 (.move (.tmp 4)) 4,
 Sg 6 (.move (.tmp 0)) 3 5 true,
 Sg 7 (.binOp .leq 3 (.tmp 6) (.const (.int .i64 4096)) 3) 4 5 true,
 So 8 (.pick (.tmp 5) (.tmp 7) (.const (.bool false))) 4,
 So 2 (.assign (.tmp 8)) 4] [2])
 (.ret))
theorem w110 : CW 110 s110 [.tmp 2] := fun hr h => callsV_of_p follows cfgT a110 (fn := Tryz.f110) (c := Tryz.f110.body.getD .skip) (by kernel_rfl) (by kernel_rfl) (by kernel_rfl) (by kernel_rfl) (by kernel_rfl) (sc := s110) (by kernel_rfl) [.tmp 2] (by kernel_rfl) hr h
def a155 : List Ann := [⟨[0], [], []⟩,
 ⟨[2], [], []⟩]
def s155 : SC := .seq (.ops [So 2 (.assign (.const (.bool false))) 4] [0])
 (.seq (.ops [So 3 (.move (.tmp 0)) 3,
 So 4 (.binOp .geq 3 (.tmp 3) (.const (.int .i64 4)) 3) 4,
 So 5 (.move (.tmp 4)) 4,
 Sg 6 (.move (.tmp 0)) 3 5 true,
 Sg 7 (.binOp .leq 3 (.tmp 6) (.const (.int .i64 7)) 3) 4 5 true,
 So 8 (.pick (.tmp 5) (.tmp 7) (.const (.bool false))) 4,
 So 2 (.assign (.tmp 8)) 4] [2])
 (.ret))
theorem w155 : CW 155 s155 [.tmp 2] := fun hr h => callsV_of_p follows cfgT a155 (fn := Tryz.f155) (c := Tryz.f155.body.getD .skip) (by kernel_rfl) (by kernel_rfl) (by kernel_rfl) (by kernel_rfl) (by kernel_rfl) (sc := s155) (by kernel_rfl) [.tmp 2] (by kernel_rfl) hr h
def a135 : List Ann := [⟨[1, 2, 3], [], []⟩,
 ⟨[1, 2, 3, 11, 12, 13], [], []⟩,
 ⟨[1, 2, 3, 11, 12, 13, 14], [], []⟩,
 ⟨[1, 2, 3, 7, 11, 12, 13], [], []⟩,
 ⟨[1, 2, 3, 11, 12, 13], [], []⟩,
 ⟨[1, 2, 3, 11, 12, 13], [], []⟩,
 ⟨[1, 2, 3, 24], [], []⟩,
 ⟨[1, 2, 3], [], []⟩,
 ⟨[1, 2, 28, 29, 30], [], []⟩,
 ⟨[1, 2, 28, 29, 30, 31], [], []⟩,
 ⟨[1, 2, 9, 28, 29, 30], [], []⟩,
 ⟨[1, 2, 28, 29, 30], [], []⟩,
 ⟨[1, 2, 28, 29, 30], [], []⟩]
def s135 : SC := .seq (.ops [So 3 (.box 34 (.tmp 0)) 0] [1, 2, 3])
 (.seq (.seq (.ops [So 10 (.fieldAddr 34 (.tmp 3) 2) 0,
 So 11 (.load 31 (.tmp 10)) 31,
 So 12 (.call ⟨.builtin .len, #[.tmp 11], #[31]⟩) 3,
 So 13 (.move (.const (.int .i64 0))) 3] [1, 2, 3, 11, 12, 13])
 (.block 0
 (.loop
 (.seq (.ops [So 14 (.binOp .lss 3 (.tmp 13) (.tmp 12) 3) 0] [1, 2, 3, 11, 12, 13, 14])
 (.seq (.cond (.tmp 14)
 (.skip)
 (.exit 0))
 (.seq (.block 1
 (.seq (.ops [So 15 (.indexAddr 31 (.tmp 11) (.tmp 13)) 0,
 So 16 (.load 42 (.tmp 15)) 42,
 So 7 (.alloc 42) 0,
 Sn (.store 42 (.tmp 7) (.tmp 16)) 0] [1, 2, 3, 7, 11, 12, 13])
 (.ops [So 17 (.move (.tmp 2)) 135,
 So 18 (.load 42 (.tmp 7)) 42,
 So 19 (.move (.tmp 1)) 3,
 So 20 (.call ⟨.value (.tmp 17), #[.tmp 18, .tmp 19], #[42, 3]⟩) 0] [1, 2, 3, 11, 12, 13])))
 (.ops [So 21 (.binOp .add 3 (.tmp 13) (.const (.int .i64 1)) 3) 3,
 So 13 (.move (.tmp 21)) 3] [1, 2, 3, 11, 12, 13])))))))
 (.seq (.seq (.ops [So 22 (.fieldAddr 34 (.tmp 3) 0) 0,
 So 23 (.load 3 (.tmp 22)) 3,
 So 24 (.call ⟨.value (.func 155), #[.tmp 23], #[3]⟩) 4] [1, 2, 3, 24])
 (.cond (.tmp 24)
 (.ops [So 25 (.move (.tmp 1)) 3,
 So 26 (.binOp .add 3 (.tmp 25) (.const (.int .i64 1)) 3) 3,
 So 1 (.assign (.tmp 26)) 3] [1, 2, 3])
 (.skip)))
 (.seq (.ops [So 27 (.fieldAddr 34 (.tmp 3) 3) 0,
 So 28 (.load 32 (.tmp 27)) 32,
 So 29 (.call ⟨.builtin .len, #[.tmp 28], #[32]⟩) 3,
 So 30 (.move (.const (.int .i64 0))) 3] [1, 2, 28, 29, 30])
 (.block 2
 (.loop
 (.seq (.ops [So 31 (.binOp .lss 3 (.tmp 30) (.tmp 29) 3) 0] [1, 2, 28, 29, 30, 31])
 (.seq (.cond (.tmp 31)
 (.skip)
 (.exit 2))
 (.seq (.block 3
 (.seq (.ops [So 32 (.indexAddr 32 (.tmp 28) (.tmp 30)) 0,
 So 33 (.load 34 (.tmp 32)) 34,
 So 9 (.alloc 34) 0,
 Sn (.store 34 (.tmp 9) (.tmp 33)) 0] [1, 2, 9, 28, 29, 30])
 (.ops [So 34 (.load 34 (.tmp 9)) 34,
 So 35 (.move (.tmp 1)) 3,
 So 36 (.move (.tmp 2)) 135,
 So 37 (.call ⟨.value (.func 135), #[.tmp 34, .tmp 35, .tmp 36], #[34, 3, 135]⟩) 0] [1, 2, 28, 29, 30])))
 (.ops [So 38 (.binOp .add 3 (.tmp 30) (.const (.int .i64 1)) 3) 3,
 So 30 (.move (.tmp 38)) 3] [1, 2, 28, 29, 30])))))))))
theorem w135 : CW 135 s135 [] := fun hr h => callsV_of_p follows cfgT a135 (fn := Tryz.f135) (c := Tryz.f135.body.getD .skip) (by kernel_rfl) (by kernel_rfl) (by kernel_rfl) (by kernel_rfl) (by kernel_rfl) (sc := s135) (by kernel_rfl) [] (by kernel_rfl) hr h
def a157 : List Ann := [⟨[], [], []⟩]
def s157 : SC := .ops [So 5 (.load 4 (.tmp 2)) 4,
 So 6 (.move (.tmp 5)) 4,
 Sg 7 (.move (.tmp 0)) 3 6 true,
 Sg 8 (.binOp .leq 3 (.tmp 7) (.const (.int .i64 536870912)) 3) 4 6 true,
 So 9 (.pick (.tmp 6) (.tmp 8) (.const (.bool false))) 4,
 Sn (.store 4 (.tmp 2) (.tmp 9)) 0] []
theorem w157 : CW 157 s157 [] := fun hr h => callsV_of_p follows cfgT a157 (fn := Tryz.f157) (c := Tryz.f157.body.getD .skip) (by kernel_rfl) (by kernel_rfl) (by kernel_rfl) (by kernel_rfl) (by kernel_rfl) (sc := s157) (by kernel_rfl) [] (by kernel_rfl) hr h
def a137 : List Ann := [⟨[1], [], []⟩,
 ⟨[1, 3], [], []⟩,
 ⟨[3], [], []⟩,
 ⟨[2], [], []⟩]
def s137 : SC := .seq (.ops [So 1 (.box 42 (.tmp 0)) 0,
 So 2 (.assign (.const (.bool false))) 4] [1])
 (.seq (.ops [So 3 (.alloc 4) 0,
 Sn (.store 4 (.tmp 3) (.const (.bool true))) 0] [1, 3])
 (.seq (.ops [So 4 (.load 42 (.tmp 1)) 42,
 So 5 (.makeFunc (.func 157) #[] #[.tmp 3]) 140,
 So 6 (.call ⟨.value (.func 156), #[.tmp 4, .tmp 5], #[42, 140]⟩) 0] [3])
 (.seq (.ops [So 7 (.load 4 (.tmp 3)) 4,
 So 2 (.assign (.tmp 7)) 4] [2])
 (.ret))))
theorem w137 : CW 137 s137 [.tmp 2] := fun hr h => callsV_of_p follows cfgT a137 (fn := Tryz.f137) (c := Tryz.f137.body.getD .skip) (by kernel_rfl) (by kernel_rfl) (by kernel_rfl) (by kernel_rfl) (by kernel_rfl) (sc := s137) (by kernel_rfl) [.tmp 2] (by kernel_rfl) hr h
def a136 : List Ann := [⟨[2, 3], [], []⟩,
 ⟨[], [], []⟩]
def s136 : SC := .seq (.ops [So 3 (.box 42 (.tmp 0)) 0] [2, 3])
 (.ops [So 5 (.load 4 (.tmp 2)) 4,
 So 6 (.move (.tmp 5)) 4,
 Sg 7 (.load 42 (.tmp 3)) 42 6 true,
 Sg 8 (.call ⟨.value (.func 137), #[.tmp 7], #[42]⟩) 4 6 true,
 So 9 (.pick (.tmp 6) (.tmp 8) (.const (.bool false))) 4,
 Sn (.store 4 (.tmp 2) (.tmp 9)) 0] [])
theorem w136 : CW 136 s136 [] := fun hr h => callsV_of_p follows cfgT a136 (fn := Tryz.f136) (c := Tryz.f136.body.getD .skip) (by kernel_rfl) (by kernel_rfl) (by kernel_rfl) (by kernel_rfl) (by kernel_rfl) (sc := s136) (by kernel_rfl) [] (by kernel_rfl) hr h
def a111 : List Ann := [⟨[1], [], []⟩,
 ⟨[1, 3], [], []⟩,
 ⟨[3], [], []⟩,
 ⟨[2], [], []⟩]
def s111 : SC := .seq (.ops [So 1 (.box 34 (.tmp 0)) 0,
 So 2 (.assign (.const (.bool false))) 4] [1])
 (.seq (.ops [So 3 (.alloc 4) 0,
 Sn (.store 4 (.tmp 3) (.const (.bool true))) 0] [1, 3])
 (.seq (.ops [So 4 (.load 34 (.tmp 1)) 34,
 So 5 (.makeFunc (.func 136) #[] #[.tmp 3]) 135,
 So 6 (.call ⟨.value (.func 135), #[.tmp 4, .const (.int .i64 0), .tmp 5], #[34, 3, 135]⟩) 0] [3])
 (.seq (.ops [So 7 (.load 4 (.tmp 3)) 4,
 So 2 (.assign (.tmp 7)) 4] [2])
 (.ret))))
theorem w111 : CW 111 s111 [.tmp 2] := fun hr h => callsV_of_p follows cfgT a111 (fn := Tryz.f111) (c := Tryz.f111.body.getD .skip) (by kernel_rfl) (by kernel_rfl) (by kernel_rfl) (by kernel_rfl) (by kernel_rfl) (sc := s111) (by kernel_rfl) [.tmp 2] (by kernel_rfl) hr h
def a158 : List Ann := [⟨[1, 2], [], []⟩,
 ⟨[1, 2, 3], [], []⟩,
 ⟨[2, 3, 10, 11, 12], [], []⟩,
 ⟨[2, 3, 10, 11, 12, 13], [], []⟩,
 ⟨[2, 3, 5, 10, 11, 12], [], []⟩,
 ⟨[2, 3, 10, 11, 12], [0, 1, 0, 4, 12, 31, 63, 127], [false, true, false, true, false, false, false, false]⟩,
 ⟨[2, 3, 10, 11, 12], [], []⟩,
 ⟨[2], [], []⟩]
def s158 : SC := .seq (.ops [So 1 (.box 30 (.tmp 0)) 0,
 So 2 (.alloc 30) 0] [1, 2])
 (.seq (.ops [So 6 (.fieldAddr 30 (.tmp 1) 0) 0,
 So 7 (.load 3 (.tmp 6)) 3,
 So 8 (.build 30 #[(0, .tmp 7)]) 30,
 So 3 (.alloc 30) 0,
 Sn (.store 30 (.tmp 3) (.tmp 8)) 0] [1, 2, 3])
 (.seq (.seq (.ops [So 9 (.fieldAddr 30 (.tmp 1) 1) 0,
 So 10 (.load 27 (.tmp 9)) 27,
 So 11 (.call ⟨.builtin .len, #[.tmp 10], #[27]⟩) 3,
 So 12 (.move (.const (.int .i64 0))) 3] [2, 3, 10, 11, 12])
 (.block 0
 (.loop
 (.seq (.ops [So 13 (.binOp .lss 3 (.tmp 12) (.tmp 11) 3) 0] [2, 3, 10, 11, 12, 13])
 (.seq (.cond (.tmp 13)
 (.skip)
 (.exit 0))
 (.seq (.block 1
 (.seq (.ops [So 14 (.indexAddr 27 (.tmp 10) (.tmp 12)) 0,
 So 15 (.load 30 (.tmp 14)) 30,
 So 5 (.alloc 30) 0,
 Sn (.store 30 (.tmp 5) (.tmp 15)) 0] [2, 3, 5, 10, 11, 12])
 (.draw [So 16 (.fieldAddr 30 (.tmp 3) 1) 0,
 So 17 (.load 27 (.tmp 16)) 27,
 So 18 (.load 30 (.tmp 5)) 30,
 So 19 (.call ⟨.value (.func 158), #[.tmp 18], #[30]⟩) 30,
 So 20 (.buildSlice 27 1 #[(0, .tmp 19)]) 27,
 So 21 (.call ⟨.builtin .append, #[.tmp 17, .tmp 20], #[27, 27]⟩) 27,
 So 22 (.fieldAddr 30 (.tmp 3) 1) 0,
 Sn (.store 27 (.tmp 22) (.tmp 21)) 0] [false, true, false, true, false, false, false, false] [2, 3, 10, 11, 12])))
 (.ops [So 23 (.binOp .add 3 (.tmp 12) (.const (.int .i64 1)) 3) 3,
 So 12 (.move (.tmp 23)) 3] [2, 3, 10, 11, 12])))))))
 (.seq (.ops [So 24 (.load 30 (.tmp 3)) 30,
 Sn (.store 30 (.tmp 2) (.tmp 24)) 0] [2])
 (.ret))))
theorem w158 : CW 158 s158 [.cell 2 30] := fun hr h => callsV_of_p follows cfgT a158 (fn := Tryz.f158) (c := Tryz.f158.body.getD .skip) (by kernel_rfl) (by kernel_rfl) (by kernel_rfl) (by kernel_rfl) (by kernel_rfl) (sc := s158) (by kernel_rfl) [.cell 2 30] (by kernel_rfl) hr h
def a138 : List Ann := [⟨[1, 2, 3, 6], [], []⟩,
 ⟨[1, 2, 3, 6, 7], [0, 1, 0, 4, 12, 31, 0, 127], [false, true, false, false, true, false, true, false]⟩,
 ⟨[1, 2, 3, 6, 7, 19, 20, 21], [], []⟩,
 ⟨[1, 2, 3, 6, 7, 19, 20, 21, 22], [], []⟩,
 ⟨[1, 2, 3, 6, 7, 9, 19, 20, 21], [], []⟩,
 ⟨[1, 2, 3, 6, 7, 19, 20, 21], [0, 1, 0, 0, 0, 28, 60, 127, 255, 511], [false, true, false, false, false, true, false, false, false, false]⟩,
 ⟨[1, 2, 3, 6, 7, 19, 20, 21], [], []⟩,
 ⟨[1, 2, 3, 6, 7, 37], [], []⟩,
 ⟨[1, 2, 3, 6, 7], [], []⟩,
 ⟨[1, 2, 6, 7, 41, 42, 43], [], []⟩,
 ⟨[1, 2, 6, 7, 41, 42, 43, 44], [], []⟩,
 ⟨[1, 2, 6, 7, 11, 41, 42, 43], [], []⟩,
 ⟨[1, 2, 6, 7, 41, 42, 43], [0, 1, 0, 0, 0, 28, 60, 127, 255, 511], [false, true, false, false, false, true, false, false, false, false]⟩,
 ⟨[1, 2, 6, 7, 41, 42, 43], [], []⟩,
 ⟨[6], [], []⟩]
def s138 : SC := .seq (.ops [So 3 (.box 34 (.tmp 0)) 0,
 So 6 (.alloc 34) 0] [1, 2, 3, 6])
 (.seq (.draw [So 12 (.fieldAddr 34 (.tmp 3) 0) 0,
 So 13 (.load 3 (.tmp 12)) 3,
 So 14 (.fieldAddr 34 (.tmp 3) 1) 0,
 So 15 (.load 30 (.tmp 14)) 30,
 So 16 (.call ⟨.value (.func 158), #[.tmp 15], #[30]⟩) 30,
 So 17 (.build 34 #[(0, .tmp 13), (1, .tmp 16)]) 34,
 So 7 (.alloc 34) 0,
 Sn (.store 34 (.tmp 7) (.tmp 17)) 0] [false, true, false, false, true, false, true, false] [1, 2, 3, 6, 7])
 (.seq (.seq (.ops [So 18 (.fieldAddr 34 (.tmp 3) 2) 0,
 So 19 (.load 31 (.tmp 18)) 31,
 So 20 (.call ⟨.builtin .len, #[.tmp 19], #[31]⟩) 3,
 So 21 (.move (.const (.int .i64 0))) 3] [1, 2, 3, 6, 7, 19, 20, 21])
 (.block 0
 (.loop
 (.seq (.ops [So 22 (.binOp .lss 3 (.tmp 21) (.tmp 20) 3) 0] [1, 2, 3, 6, 7, 19, 20, 21, 22])
 (.seq (.cond (.tmp 22)
 (.skip)
 (.exit 0))
 (.seq (.block 1
 (.seq (.ops [So 23 (.indexAddr 31 (.tmp 19) (.tmp 21)) 0,
 So 24 (.load 42 (.tmp 23)) 42,
 So 9 (.alloc 42) 0,
 Sn (.store 42 (.tmp 9) (.tmp 24)) 0] [1, 2, 3, 6, 7, 9, 19, 20, 21])
 (.draw [So 25 (.fieldAddr 34 (.tmp 7) 2) 0,
 So 26 (.load 31 (.tmp 25)) 31,
 So 27 (.move (.tmp 2)) 106,
 So 28 (.load 42 (.tmp 9)) 42,
 So 29 (.move (.tmp 1)) 3,
 So 30 (.call ⟨.value (.tmp 27), #[.tmp 28, .tmp 29], #[42, 3]⟩) 42,
 So 31 (.buildSlice 31 1 #[(0, .tmp 30)]) 31,
 So 32 (.call ⟨.builtin .append, #[.tmp 26, .tmp 31], #[31, 31]⟩) 31,
 So 33 (.fieldAddr 34 (.tmp 7) 2) 0,
 Sn (.store 31 (.tmp 33) (.tmp 32)) 0] [false, true, false, false, false, true, false, false, false, false] [1, 2, 3, 6, 7, 19, 20, 21])))
 (.ops [So 34 (.binOp .add 3 (.tmp 21) (.const (.int .i64 1)) 3) 3,
 So 21 (.move (.tmp 34)) 3] [1, 2, 3, 6, 7, 19, 20, 21])))))))
 (.seq (.seq (.ops [So 35 (.fieldAddr 34 (.tmp 3) 0) 0,
 So 36 (.load 3 (.tmp 35)) 3,
 So 37 (.call ⟨.value (.func 155), #[.tmp 36], #[3]⟩) 4] [1, 2, 3, 6, 7, 37])
 (.cond (.tmp 37)
 (.ops [So 38 (.move (.tmp 1)) 3,
 So 39 (.binOp .add 3 (.tmp 38) (.const (.int .i64 1)) 3) 3,
 So 1 (.assign (.tmp 39)) 3] [1, 2, 3, 6, 7])
 (.skip)))
 (.seq (.seq (.ops [So 40 (.fieldAddr 34 (.tmp 3) 3) 0,
 So 41 (.load 32 (.tmp 40)) 32,
 So 42 (.call ⟨.builtin .len, #[.tmp 41], #[32]⟩) 3,
 So 43 (.move (.const (.int .i64 0))) 3] [1, 2, 6, 7, 41, 42, 43])
 (.block 2
 (.loop
 (.seq (.ops [So 44 (.binOp .lss 3 (.tmp 43) (.tmp 42) 3) 0] [1, 2, 6, 7, 41, 42, 43, 44])
 (.seq (.cond (.tmp 44)
 (.skip)
 (.exit 2))
 (.seq (.block 3
 (.seq (.ops [So 45 (.indexAddr 32 (.tmp 41) (.tmp 43)) 0,
 So 46 (.load 34 (.tmp 45)) 34,
 So 11 (.alloc 34) 0,
 Sn (.store 34 (.tmp 11) (.tmp 46)) 0] [1, 2, 6, 7, 11, 41, 42, 43])
 (.draw [So 47 (.fieldAddr 34 (.tmp 7) 3) 0,
 So 48 (.load 32 (.tmp 47)) 32,
 So 49 (.load 34 (.tmp 11)) 34,
 So 50 (.move (.tmp 1)) 3,
 So 51 (.move (.tmp 2)) 106,
 So 52 (.call ⟨.value (.func 138), #[.tmp 49, .tmp 50, .tmp 51], #[34, 3, 106]⟩) 34,
 So 53 (.buildSlice 32 1 #[(0, .tmp 52)]) 32,
 So 54 (.call ⟨.builtin .append, #[.tmp 48, .tmp 53], #[32, 32]⟩) 32,
 So 55 (.fieldAddr 34 (.tmp 7) 3) 0,
 Sn (.store 32 (.tmp 55) (.tmp 54)) 0] [false, true, false, false, false, true, false, false, false, false] [1, 2, 6, 7, 41, 42, 43])))
 (.ops [So 56 (.binOp .add 3 (.tmp 43) (.const (.int .i64 1)) 3) 3,
 So 43 (.move (.tmp 56)) 3] [1, 2, 6, 7, 41, 42, 43])))))))
 (.seq (.ops [So 57 (.load 34 (.tmp 7)) 34,
 Sn (.store 34 (.tmp 6) (.tmp 57)) 0] [6])
 (.ret))))))
theorem w138 : CW 138 s138 [.cell 6 34] := fun hr h => callsV_of_p follows cfgT a138 (fn := Tryz.f138) (c := Tryz.f138.body.getD .skip) (by kernel_rfl) (by kernel_rfl) (by kernel_rfl) (by kernel_rfl) (by kernel_rfl) (sc := s138) (by kernel_rfl) [.cell 6 34] (by kernel_rfl) hr h
def a166 : List Ann := [⟨[1, 2, 3, 4, 6], [], []⟩,
 ⟨[1, 2, 3, 4, 6, 12], [], []⟩,
 ⟨[6], [], []⟩,
 ⟨[1, 3, 4, 6, 7], [0, 1, 0, 4, 0, 16, 48, 127, 0, 511], [false, true, false, true, false, false, true, false, true, false]⟩,
 ⟨[1, 3, 4, 6, 7, 28], [], []⟩,
 ⟨[1, 3, 4, 6, 7], [], []⟩,
 ⟨[1, 3, 6, 7, 32, 33, 34], [], []⟩,
 ⟨[1, 3, 6, 7, 32, 33, 34, 35], [], []⟩,
 ⟨[1, 3, 6, 7, 9, 32, 33, 34], [], []⟩,
 ⟨[1, 3, 6, 7, 32, 33, 34], [0, 1, 0, 0, 0, 28, 60, 127, 255, 511], [false, true, false, false, false, true, false, false, false, false]⟩,
 ⟨[1, 3, 6, 7, 32, 33, 34], [], []⟩,
 ⟨[6], [], []⟩]
def s166 : SC := .seq (.ops [So 4 (.box 42 (.tmp 0)) 0,
 So 6 (.alloc 42) 0] [1, 2, 3, 4, 6])
 (.seq (.seq (.ops [So 10 (.fieldAddr 42 (.tmp 4) 0) 0,
 So 11 (.load 3 (.tmp 10)) 3,
 So 12 (.binOp .eql 3 (.tmp 11) (.const (.int .i64 1)) 3) 4] [1, 2, 3, 4, 6, 12])
 (.cond (.tmp 12)
 (.seq (.ops [So 13 (.load 148 (.tmp 2)) 148,
 So 14 (.fieldAddr 42 (.tmp 4) 1) 0,
 So 15 (.load 3 (.tmp 14)) 3,
 So 16 (.move (.tmp 1)) 3,
 So 17 (.call ⟨.value (.tmp 13), #[.tmp 15, .tmp 16], #[3, 3]⟩) 42,
 Sn (.store 42 (.tmp 6) (.tmp 17)) 0] [6])
 (.ret))
 (.skip)))
 (.seq (.draw [So 18 (.fieldAddr 42 (.tmp 4) 0) 0,
 So 19 (.load 3 (.tmp 18)) 3,
 So 20 (.fieldAddr 42 (.tmp 4) 1) 0,
 So 21 (.load 3 (.tmp 20)) 3,
 So 22 (.fieldAddr 42 (.tmp 4) 2) 0,
 So 23 (.load 30 (.tmp 22)) 30,
 So 24 (.call ⟨.value (.func 158), #[.tmp 23], #[30]⟩) 30,
 So 25 (.build 42 #[(0, .tmp 19), (1, .tmp 21), (2, .tmp 24)]) 42,
 So 7 (.alloc 42) 0,
 Sn (.store 42 (.tmp 7) (.tmp 25)) 0] [false, true, false, true, false, false, true, false, true, false] [1, 3, 4, 6, 7])
 (.seq (.seq (.ops [So 26 (.fieldAddr 42 (.tmp 4) 0) 0,
 So 27 (.load 3 (.tmp 26)) 3,
 So 28 (.binOp .eql 3 (.tmp 27) (.const (.int .i64 2)) 3) 4] [1, 3, 4, 6, 7, 28])
 (.cond (.tmp 28)
 (.ops [So 29 (.move (.tmp 1)) 3,
 So 30 (.binOp .add 3 (.tmp 29) (.const (.int .i64 1)) 3) 3,
 So 1 (.assign (.tmp 30)) 3] [1, 3, 4, 6, 7])
 (.skip)))
 (.seq (.seq (.ops [So 31 (.fieldAddr 42 (.tmp 4) 3) 0,
 So 32 (.load 31 (.tmp 31)) 31,
 So 33 (.call ⟨.builtin .len, #[.tmp 32], #[31]⟩) 3,
 So 34 (.move (.const (.int .i64 0))) 3] [1, 3, 6, 7, 32, 33, 34])
 (.block 0
 (.loop
 (.seq (.ops [So 35 (.binOp .lss 3 (.tmp 34) (.tmp 33) 3) 0] [1, 3, 6, 7, 32, 33, 34, 35])
 (.seq (.cond (.tmp 35)
 (.skip)
 (.exit 0))
 (.seq (.block 1
 (.seq (.ops [So 36 (.indexAddr 31 (.tmp 32) (.tmp 34)) 0,
 So 37 (.load 42 (.tmp 36)) 42,
 So 9 (.alloc 42) 0,
 Sn (.store 42 (.tmp 9) (.tmp 37)) 0] [1, 3, 6, 7, 9, 32, 33, 34])
 (.draw [So 38 (.fieldAddr 42 (.tmp 7) 3) 0,
 So 39 (.load 31 (.tmp 38)) 31,
 So 40 (.load 106 (.tmp 3)) 106,
 So 41 (.load 42 (.tmp 9)) 42,
 So 42 (.move (.tmp 1)) 3,
 So 43 (.call ⟨.value (.tmp 40), #[.tmp 41, .tmp 42], #[42, 3]⟩) 42,
 So 44 (.buildSlice 31 1 #[(0, .tmp 43)]) 31,
 So 45 (.call ⟨.builtin .append, #[.tmp 39, .tmp 44], #[31, 31]⟩) 31,
 So 46 (.fieldAddr 42 (.tmp 7) 3) 0,
 Sn (.store 31 (.tmp 46) (.tmp 45)) 0] [false, true, false, false, false, true, false, false, false, false] [1, 3, 6, 7, 32, 33, 34])))
 (.ops [So 47 (.binOp .add 3 (.tmp 34) (.const (.int .i64 1)) 3) 3,
 So 34 (.move (.tmp 47)) 3] [1, 3, 6, 7, 32, 33, 34])))))))
 (.seq (.ops [So 48 (.load 42 (.tmp 7)) 42,
 Sn (.store 42 (.tmp 6) (.tmp 48)) 0] [6])
 (.ret))))))
theorem w166 : CW 166 s166 [.cell 6 42] := fun hr h => callsV_of_p follows cfgT a166 (fn := Tryz.f166) (c := Tryz.f166.body.getD .skip) (by kernel_rfl) (by kernel_rfl) (by kernel_rfl) (by kernel_rfl) (by kernel_rfl) (sc := s166) (by kernel_rfl) [.cell 6 42] (by kernel_rfl) hr h
def a159 : List Ann := [⟨[2, 3, 4], [], []⟩,
 ⟨[2, 3, 4, 5], [], []⟩,
 ⟨[2, 4, 5], [], []⟩,
 ⟨[4], [], []⟩]
def s159 : SC := .seq (.ops [So 2 (.box 42 (.tmp 0)) 0,
 So 3 (.box 148 (.tmp 1)) 0,
 So 4 (.alloc 42) 0] [2, 3, 4])
 (.seq (.ops [So 5 (.alloc 106) 0] [2, 3, 4, 5])
 (.seq (.ops [So 6 (.makeFunc (.func 166) #[] #[.tmp 3, .tmp 5]) 106,
 Sn (.store 106 (.tmp 5) (.tmp 6)) 0] [2, 4, 5])
 (.seq (.ops [So 7 (.load 106 (.tmp 5)) 106,
 So 8 (.load 42 (.tmp 2)) 42,
 So 9 (.call ⟨.value (.tmp 7), #[.tmp 8, .const (.int .i64 0)], #[42, 3]⟩) 42,
 Sn (.store 42 (.tmp 4) (.tmp 9)) 0] [4])
 (.ret))))
theorem w159 : CW 159 s159 [.cell 4 42] := fun hr h => callsV_of_p follows cfgT a159 (fn := Tryz.f159) (c := Tryz.f159.body.getD .skip) (by kernel_rfl) (by kernel_rfl) (by kernel_rfl) (by kernel_rfl) (by kernel_rfl) (sc := s159) (by kernel_rfl) [.cell 4 42] (by kernel_rfl) hr h
def a160 : List Ann := [⟨[0, 1, 2, 3, 6], [], []⟩,
 ⟨[0, 3, 6, 11], [], []⟩,
 ⟨[0, 6], [], []⟩,
 ⟨[6], [], []⟩]
def s160 : SC := .seq (.ops [So 6 (.alloc 42) 0] [0, 1, 2, 3, 6])
 (.seq (.seq (.ops [So 7 (.move (.tmp 0)) 3,
 So 8 (.move (.tmp 1)) 3,
 So 9 (.binOp .sub 3 (.tmp 7) (.tmp 8) 3) 3,
 So 10 (.load 3 (.tmp 2)) 3,
 So 11 (.binOp .geq 3 (.tmp 9) (.tmp 10) 3) 4] [0, 3, 6, 11])
 (.cond (.tmp 11)
 (.ops [So 12 (.move (.tmp 0)) 3,
 So 13 (.load 3 (.tmp 3)) 3,
 So 14 (.binOp .add 3 (.tmp 12) (.tmp 13) 3) 3,
 So 0 (.assign (.tmp 14)) 3] [0, 6])
 (.skip)))
 (.seq (.ops [So 15 (.move (.tmp 0)) 3,
 So 16 (.call ⟨.value (.func 161), #[.tmp 15], #[3]⟩) 42,
 Sn (.store 42 (.tmp 6) (.tmp 16)) 0] [6])
 (.ret)))
theorem w160 : CW 160 s160 [.cell 6 42] := fun hr h => callsV_of_p follows cfgT a160 (fn := Tryz.f160) (c := Tryz.f160.body.getD .skip) (by kernel_rfl) (by kernel_rfl) (by kernel_rfl) (by kernel_rfl) (by kernel_rfl) (sc := s160) (by kernel_rfl) [.cell 6 42] (by kernel_rfl) hr h
def a140 : List Ann := [⟨[3, 4, 5, 6], [], []⟩,
 ⟨[6], [], []⟩]
def s140 : SC := .seq (.ops [So 3 (.box 42 (.tmp 0)) 0,
 So 4 (.box 3 (.tmp 1)) 0,
 So 5 (.box 3 (.tmp 2)) 0,
 So 6 (.alloc 42) 0] [3, 4, 5, 6])
 (.seq (.ops [So 7 (.load 42 (.tmp 3)) 42,
 So 8 (.makeFunc (.func 160) #[] #[.tmp 4, .tmp 5]) 142,
 So 9 (.call ⟨.value (.func 159), #[.tmp 7, .tmp 8], #[42, 148]⟩) 42,
 Sn (.store 42 (.tmp 6) (.tmp 9)) 0] [6])
 (.ret))
theorem w140 : CW 140 s140 [.cell 6 42] := fun hr h => callsV_of_p follows cfgT a140 (fn := Tryz.f140) (c := Tryz.f140.body.getD .skip) (by kernel_rfl) (by kernel_rfl) (by kernel_rfl) (by kernel_rfl) (by kernel_rfl) (sc := s140) (by kernel_rfl) [.cell 6 42] (by kernel_rfl) hr h
def a139 : List Ann := [⟨[1, 2, 3, 4, 6], [], []⟩,
 ⟨[6], [], []⟩]
def s139 : SC := .seq (.ops [So 4 (.box 42 (.tmp 0)) 0,
 So 6 (.alloc 42) 0] [1, 2, 3, 4, 6])
 (.seq (.ops [So 7 (.load 42 (.tmp 4)) 42,
 So 8 (.load 3 (.tmp 2)) 3,
 So 9 (.move (.tmp 1)) 3,
 So 10 (.binOp .add 3 (.tmp 8) (.tmp 9) 3) 3,
 So 11 (.load 3 (.tmp 3)) 3,
 So 12 (.call ⟨.value (.func 140), #[.tmp 7, .tmp 10, .tmp 11], #[42, 3, 3]⟩) 42,
 Sn (.store 42 (.tmp 6) (.tmp 12)) 0] [6])
 (.ret))
theorem w139 : CW 139 s139 [.cell 6 42] := fun hr h => callsV_of_p follows cfgT a139 (fn := Tryz.f139) (c := Tryz.f139.body.getD .skip) (by kernel_rfl) (by kernel_rfl) (by kernel_rfl) (by kernel_rfl) (by kernel_rfl) (sc := s139) (by kernel_rfl) [.cell 6 42] (by kernel_rfl) hr h
def a112 : List Ann := [⟨[3, 4, 5, 6], [], []⟩,
 ⟨[6], [], []⟩]
def s112 : SC := .seq (.ops [So 3 (.box 34 (.tmp 0)) 0,
 So 4 (.box 3 (.tmp 1)) 0,
 So 5 (.box 3 (.tmp 2)) 0,
 So 6 (.alloc 34) 0] [3, 4, 5, 6])
 (.seq (.ops [So 7 (.load 34 (.tmp 3)) 34,
 So 8 (.makeFunc (.func 139) #[] #[.tmp 4, .tmp 5]) 106,
 So 9 (.call ⟨.value (.func 138), #[.tmp 7, .const (.int .i64 0), .tmp 8], #[34, 3, 106]⟩) 34,
 Sn (.store 34 (.tmp 6) (.tmp 9)) 0] [6])
 (.ret))
theorem w112 : CW 112 s112 [.cell 6 34] := fun hr h => callsV_of_p follows cfgT a112 (fn := Tryz.f112) (c := Tryz.f112.body.getD .skip) (by kernel_rfl) (by kernel_rfl) (by kernel_rfl) (by kernel_rfl) (by kernel_rfl) (sc := s112) (by kernel_rfl) [.cell 6 34] (by kernel_rfl) hr h
def a72 : List Ann := [⟨[1, 2, 3, 6], [], []⟩,
 ⟨[1, 2, 3, 6, 8], [], []⟩,
 ⟨[1, 2, 3, 6, 8, 12], [], []⟩,
 ⟨[6, 7], [], []⟩,
 ⟨[1, 2, 3, 6, 27], [], []⟩,
 ⟨[6, 7], [], []⟩,
 ⟨[6, 7], [], []⟩]
def s72 : SC := .seq (.ops [So 3 (.box 34 (.tmp 0)) 0,
 So 6 (.alloc 34) 0,
 So 7 (.assign (.const (.int .i64 0))) 36] [1, 2, 3, 6])
 (.seq (.seq (.ops [So 9 (.load 34 (.tmp 3)) 34,
 So 10 (.call ⟨.value (.func 36), #[.tmp 9], #[34]⟩) 36,
 So 8 (.assign (.tmp 10)) 36] [1, 2, 3, 6, 8])
 (.seq (.ops [So 11 (.move (.tmp 8)) 36,
 So 12 (.binOp .neq 36 (.tmp 11) (.const (.int .i64 0)) 36) 4] [1, 2, 3, 6, 8, 12])
 (.cond (.tmp 12)
 (.seq (.ops [So 13 (.build 34 #[]) 34,
 So 14 (.move (.tmp 8)) 36,
 Sn (.store 34 (.tmp 6) (.tmp 13)) 0,
 So 7 (.assign (.tmp 14)) 36] [6, 7])
 (.ret))
 (.skip))))
 (.seq (.seq (.ops [So 15 (.move (.tmp 1)) 3,
 So 16 (.call ⟨.value (.func 110), #[.tmp 15], #[3]⟩) 4,
 So 17 (.unOp .not 4 (.tmp 16)) 4,
 So 18 (.move (.tmp 17)) 4,
 Sg 19 (.move (.tmp 2)) 3 18 false,
 Sg 20 (.call ⟨.value (.func 110), #[.tmp 19], #[3]⟩) 4 18 false,
 Sg 21 (.unOp .not 4 (.tmp 20)) 4 18 false,
 So 22 (.pick (.tmp 18) (.const (.bool true)) (.tmp 21)) 4,
 So 23 (.move (.tmp 22)) 4,
 Sg 24 (.load 34 (.tmp 3)) 34 23 false,
 Sg 25 (.call ⟨.value (.func 111), #[.tmp 24], #[34]⟩) 4 23 false,
 Sg 26 (.unOp .not 4 (.tmp 25)) 4 23 false,
 So 27 (.pick (.tmp 23) (.const (.bool true)) (.tmp 26)) 4] [1, 2, 3, 6, 27])
 (.cond (.tmp 27)
 (.seq (.ops [So 28 (.build 34 #[]) 34,
 Sn (.store 34 (.tmp 6) (.tmp 28)) 0,
 So 7 (.assign (.const (.int .i64 1))) 36] [6, 7])
 (.ret))
 (.skip)))
 (.seq (.ops [So 29 (.load 34 (.tmp 3)) 34,
 So 30 (.move (.tmp 1)) 3,
 So 31 (.move (.tmp 2)) 3,
 So 32 (.call ⟨.value (.func 112), #[.tmp 29, .tmp 30, .tmp 31], #[34, 3, 3]⟩) 34,
 Sn (.store 34 (.tmp 6) (.tmp 32)) 0,
 So 7 (.assign (.const (.int .i64 0))) 36] [6, 7])
 (.ret))))
theorem w72 : CW 72 s72 [.cell 6 34, .tmp 7] := fun hr h => callsV_of_p follows cfgT a72 (fn := Tryz.f72) (c := Tryz.f72.body.getD .skip) (by kernel_rfl) (by kernel_rfl) (by kernel_rfl) (by kernel_rfl) (by kernel_rfl) (sc := s72) (by kernel_rfl) [.cell 6 34, .tmp 7] (by kernel_rfl) hr h
def a23 : List Ann := [⟨[1, 2], [], []⟩,
 ⟨[1, 2, 4, 5], [], []⟩,
 ⟨[1, 2, 4, 5, 22], [], []⟩,
 ⟨[2, 3], [], []⟩,
 ⟨[1, 2, 4, 6], [], []⟩,
 ⟨[1, 2, 4, 6, 8], [], []⟩,
 ⟨[1, 2, 4, 6, 8, 9], [], []⟩,
 ⟨[2, 4, 6, 8, 9, 39, 40, 41], [], []⟩,
 ⟨[2, 4, 6, 8, 9, 39, 40, 41, 42], [], []⟩,
 ⟨[2, 4, 6, 8, 9, 10, 11, 39, 40, 41], [], []⟩,
 ⟨[2, 4, 6, 8, 9, 10, 11, 39, 40, 41, 47], [], []⟩,
 ⟨[2, 3], [], []⟩,
 ⟨[2, 4, 6, 8, 9, 10, 11, 12, 39, 40, 41], [], []⟩,
 ⟨[2, 4, 6, 8, 9, 10, 11, 12, 39, 40, 41, 54], [], []⟩,
 ⟨[2, 4, 6, 8, 9, 11, 12, 39, 40, 41], [], []⟩,
 ⟨[2, 4, 6, 8, 9, 12, 13, 14, 39, 40, 41], [], []⟩,
 ⟨[2, 4, 6, 8, 9, 12, 13, 14, 39, 40, 41, 71], [], []⟩,
 ⟨[2, 3], [], []⟩,
 ⟨[2, 4, 6, 8, 9, 14, 15, 39, 40, 41], [], []⟩,
 ⟨[2, 4, 6, 8, 9, 14, 15, 39, 40, 41, 81], [], []⟩,
 ⟨[2, 3], [], []⟩,
 ⟨[2, 4, 6, 8, 9, 39, 40, 41], [], []⟩,
 ⟨[2, 4, 6, 8, 9, 39, 40, 41], [], []⟩,
 ⟨[2, 8, 93], [], []⟩,
 ⟨[2, 3], [], []⟩,
 ⟨[2, 3], [], []⟩]
def s23 : SC := .seq (.ops [So 1 (.box 53 (.tmp 0)) 0,
 So 2 (.alloc 53) 0,
 So 3 (.assign (.const (.int .i64 0))) 36] [1, 2])
 (.seq (.ops [So 17 (.load 53 (.tmp 1)) 53,
 So 18 (.call ⟨.value (.func 69), #[.tmp 17], #[53]⟩) 91,
 So 16 (.move (.tmp 18)) 91,
 So 19 (.extract (.tmp 16) 0) 27,
 So 20 (.extract (.tmp 16) 1) 36,
 So 4 (.assign (.tmp 19)) 27,
 So 5 (.assign (.tmp 20)) 36] [1, 2, 4, 5])
 (.seq (.seq (.ops [So 21 (.move (.tmp 5)) 36,
 So 22 (.binOp .neq 36 (.tmp 21) (.const (.int .i64 0)) 36) 4] [1, 2, 4, 5, 22])
 (.cond (.tmp 22)
 (.seq (.ops [So 23 (.build 53 #[]) 53,
 So 24 (.move (.tmp 5)) 36,
 Sn (.store 53 (.tmp 2) (.tmp 23)) 0,
 So 3 (.assign (.tmp 24)) 36] [2, 3])
 (.ret))
 (.skip)))
 (.seq (.ops [So 26 (.load 53 (.tmp 1)) 53,
 So 27 (.call ⟨.value (.func 70), #[.tmp 26], #[53]⟩) 93,
 So 25 (.move (.tmp 27)) 93,
 So 28 (.extract (.tmp 25) 0) 22,
 So 29 (.extract (.tmp 25) 1) 36,
 So 6 (.assign (.tmp 28)) 22,
 So 7 (.assign (.tmp 29)) 36] [1, 2, 4, 6])
 (.seq (.ops [So 30 (.move (.tmp 4)) 27,
 So 31 (.build 53 #[(0, .tmp 30)]) 53,
 So 8 (.alloc 53) 0,
 Sn (.store 53 (.tmp 8) (.tmp 31)) 0] [1, 2, 4, 6, 8])
 (.seq (.ops [So 32 (.move (.tmp 4)) 27,
 So 33 (.call ⟨.builtin .len, #[.tmp 32], #[27]⟩) 3,
 So 34 (.fieldAddr 53 (.tmp 1) 0) 0,
 So 35 (.load 27 (.tmp 34)) 27,
 So 36 (.call ⟨.builtin .len, #[.tmp 35], #[27]⟩) 3,
 So 37 (.binOp .sub 3 (.tmp 33) (.tmp 36) 3) 3,
 So 9 (.assign (.tmp 37)) 3] [1, 2, 4, 6, 8, 9])
 (.seq (.seq (.ops [So 38 (.fieldAddr 53 (.tmp 1) 1) 0,
 So 39 (.load 32 (.tmp 38)) 32,
 So 40 (.call ⟨.builtin .len, #[.tmp 39], #[32]⟩) 3,
 So 41 (.move (.const (.int .i64 0))) 3] [2, 4, 6, 8, 9, 39, 40, 41])
 (.block 0
 (.loop
 (.seq (.ops [So 42 (.binOp .lss 3 (.tmp 41) (.tmp 40) 3) 0] [2, 4, 6, 8, 9, 39, 40, 41, 42])
 (.seq (.cond (.tmp 42)
 (.skip)
 (.exit 0))
 (.seq (.block 1
 (.seq (.ops [So 43 (.move (.tmp 41)) 3,
 So 44 (.indexAddr 32 (.tmp 39) (.tmp 41)) 0,
 So 45 (.load 34 (.tmp 44)) 34,
 So 11 (.alloc 34) 0,
 So 10 (.assign (.tmp 43)) 3,
 Sn (.store 34 (.tmp 11) (.tmp 45)) 0] [2, 4, 6, 8, 9, 10, 11, 39, 40, 41])
 (.seq (.seq (.ops [So 46 (.load 34 (.tmp 11)) 34,
 So 47 (.call ⟨.value (.func 38), #[.tmp 46], #[34]⟩) 4] [2, 4, 6, 8, 9, 10, 11, 39, 40, 41, 47])
 (.cond (.tmp 47)
 (.seq (.ops [So 48 (.build 53 #[]) 53,
 Sn (.store 53 (.tmp 2) (.tmp 48)) 0,
 So 3 (.assign (.const (.int .i64 1))) 36] [2, 3])
 (.ret))
 (.skip)))
 (.seq (.ops [So 49 (.call ⟨.value (.func 41), #[], #[]⟩) 42,
 So 12 (.alloc 42) 0,
 Sn (.store 42 (.tmp 12) (.tmp 49)) 0] [2, 4, 6, 8, 9, 10, 11, 12, 39, 40, 41])
 (.seq (.seq (.ops [So 50 (.move (.tmp 6)) 22,
 So 51 (.move (.tmp 10)) 3,
 So 52 (.indexAddr 22 (.tmp 50) (.tmp 51)) 0,
 So 53 (.load 3 (.tmp 52)) 3,
 So 54 (.binOp .geq 3 (.tmp 53) (.const (.int .i64 0)) 3) 4] [2, 4, 6, 8, 9, 10, 11, 12, 39, 40, 41, 54])
 (.cond (.tmp 54)
 (.ops [So 55 (.move (.tmp 4)) 27,
 So 56 (.call ⟨.builtin .len, #[.tmp 55], #[27]⟩) 3,
 So 57 (.binOp .sub 3 (.tmp 56) (.const (.int .i64 1)) 3) 3,
 So 58 (.move (.tmp 6)) 22,
 So 59 (.move (.tmp 10)) 3,
 So 60 (.indexAddr 22 (.tmp 58) (.tmp 59)) 0,
 So 61 (.load 3 (.tmp 60)) 3,
 So 62 (.binOp .sub 3 (.tmp 57) (.tmp 61) 3) 3,
 So 63 (.call ⟨.value (.func 71), #[.tmp 62], #[3]⟩) 42,
 Sn (.store 42 (.tmp 12) (.tmp 63)) 0] [2, 4, 6, 8, 9, 11, 12, 39, 40, 41])
 (.skip)))
 (.seq (.ops [So 65 (.load 34 (.tmp 11)) 34,
 So 66 (.move (.tmp 9)) 3,
 So 67 (.call ⟨.value (.func 72), #[.tmp 65, .const (.int .i64 0), .tmp 66], #[34, 3, 3]⟩) 39,
 So 64 (.move (.tmp 67)) 39,
 So 68 (.extract (.tmp 64) 0) 34,
 So 69 (.extract (.tmp 64) 1) 36,
 So 13 (.alloc 34) 0,
 Sn (.store 34 (.tmp 13) (.tmp 68)) 0,
 So 14 (.assign (.tmp 69)) 36] [2, 4, 6, 8, 9, 12, 13, 14, 39, 40, 41])
 (.seq (.seq (.ops [So 70 (.move (.tmp 14)) 36,
 So 71 (.binOp .neq 36 (.tmp 70) (.const (.int .i64 0)) 36) 4] [2, 4, 6, 8, 9, 12, 13, 14, 39, 40, 41, 71])
 (.cond (.tmp 71)
 (.seq (.ops [So 72 (.build 53 #[]) 53,
 So 73 (.move (.tmp 14)) 36,
 Sn (.store 53 (.tmp 2) (.tmp 72)) 0,
 So 3 (.assign (.tmp 73)) 36] [2, 3])
 (.ret))
 (.skip)))
 (.seq (.ops [So 75 (.load 34 (.tmp 13)) 34,
 So 76 (.load 42 (.tmp 12)) 42,
 So 77 (.call ⟨.value (.func 14), #[.tmp 75, .tmp 76], #[34, 42]⟩) 39,
 So 74 (.move (.tmp 77)) 39,
 So 78 (.extract (.tmp 74) 0) 34,
 So 79 (.extract (.tmp 74) 1) 36,
 So 15 (.alloc 34) 0,
 Sn (.store 34 (.tmp 15) (.tmp 78)) 0,
 So 14 (.assign (.tmp 79)) 36] [2, 4, 6, 8, 9, 14, 15, 39, 40, 41])
 (.seq (.seq (.ops [So 80 (.move (.tmp 14)) 36,
 So 81 (.binOp .neq 36 (.tmp 80) (.const (.int .i64 0)) 36) 4] [2, 4, 6, 8, 9, 14, 15, 39, 40, 41, 81])
 (.cond (.tmp 81)
 (.seq (.ops [So 82 (.build 53 #[]) 53,
 So 83 (.move (.tmp 14)) 36,
 Sn (.store 53 (.tmp 2) (.tmp 82)) 0,
 So 3 (.assign (.tmp 83)) 36] [2, 3])
 (.ret))
 (.skip)))
 (.ops [So 84 (.fieldAddr 53 (.tmp 8) 1) 0,
 So 85 (.load 32 (.tmp 84)) 32,
 So 86 (.load 34 (.tmp 15)) 34,
 So 87 (.buildSlice 32 1 #[(0, .tmp 86)]) 32,
 So 88 (.call ⟨.builtin .append, #[.tmp 85, .tmp 87], #[32, 32]⟩) 32,
 So 89 (.fieldAddr 53 (.tmp 8) 1) 0,
 Sn (.store 32 (.tmp 89) (.tmp 88)) 0] [2, 4, 6, 8, 9, 39, 40, 41]))))))))))
 (.ops [So 90 (.binOp .add 3 (.tmp 41) (.const (.int .i64 1)) 3) 3,
 So 41 (.move (.tmp 90)) 3] [2, 4, 6, 8, 9, 39, 40, 41])))))))
 (.seq (.seq (.ops [So 91 (.move (.tmp 4)) 27,
 So 92 (.call ⟨.builtin .len, #[.tmp 91], #[27]⟩) 3,
 So 93 (.binOp .gtr 3 (.tmp 92) (.const (.int .i64 16)) 3) 4] [2, 8, 93])
 (.cond (.tmp 93)
 (.seq (.ops [So 94 (.build 53 #[]) 53,
 Sn (.store 53 (.tmp 2) (.tmp 94)) 0,
 So 3 (.assign (.const (.int .i64 3))) 36] [2, 3])
 (.ret))
 (.skip)))
 (.seq (.ops [So 95 (.load 53 (.tmp 8)) 53,
 Sn (.store 53 (.tmp 2) (.tmp 95)) 0,
 So 3 (.assign (.const (.int .i64 0))) 36] [2, 3])
 (.ret)))))))))
theorem w23 : CW 23 s23 [.cell 2 53, .tmp 3] := fun hr h => callsV_of_p follows cfgT a23 (fn := Tryz.f23) (c := Tryz.f23.body.getD .skip) (by kernel_rfl) (by kernel_rfl) (by kernel_rfl) (by kernel_rfl) (by kernel_rfl) (sc := s23) (by kernel_rfl) [.cell 2 53, .tmp 3] (by kernel_rfl) hr h
def a8 : List Ann := [⟨[], [], []⟩,
 ⟨[1], [], []⟩,
 ⟨[1, 2], [], []⟩,
 ⟨[3], [], []⟩,
 ⟨[3, 4, 5], [], []⟩,
 ⟨[4, 5, 6, 7], [], []⟩,
 ⟨[0], [], []⟩]
def s8 : SC := .seq (.ops [So 0 (.assign (.const (.bool false))) 4] [])
 (.seq (.ops [So 8 (.build 30 #[(0, .const (.int .i64 1))]) 30,
 So 1 (.alloc 30) 0,
 Sn (.store 30 (.tmp 1) (.tmp 8)) 0] [1])
 (.seq (.ops [So 9 (.build 42 #[(0, .const (.int .i64 1))]) 42,
 So 10 (.build 42 #[(0, .const (.int .i64 1)), (1, .const (.int .i64 1))]) 42,
 So 11 (.buildSlice 31 1 #[(0, .tmp 10)]) 31,
 So 12 (.build 42 #[(0, .const (.int .i64 5)), (3, .tmp 11)]) 42,
 So 13 (.buildSlice 31 2 #[(0, .tmp 9), (1, .tmp 12)]) 31,
 So 14 (.build 34 #[(0, .const (.int .i64 1)), (2, .tmp 13)]) 34,
 So 2 (.alloc 34) 0,
 Sn (.store 34 (.tmp 2) (.tmp 14)) 0] [1, 2])
 (.seq (.ops [So 15 (.load 30 (.tmp 1)) 30,
 So 16 (.load 30 (.tmp 1)) 30,
 So 17 (.load 34 (.tmp 2)) 34,
 So 18 (.buildSlice 32 1 #[(0, .tmp 17)]) 32,
 So 19 (.build 34 #[(0, .const (.int .i64 5)), (1, .tmp 16), (3, .tmp 18)]) 34,
 So 20 (.buildSlice 32 1 #[(0, .tmp 19)]) 32,
 So 21 (.build 34 #[(0, .const (.int .i64 4)), (1, .tmp 15), (3, .tmp 20)]) 34,
 So 3 (.alloc 34) 0,
 Sn (.store 34 (.tmp 3) (.tmp 21)) 0] [3])
 (.seq (.ops [So 23 (.load 34 (.tmp 3)) 34,
 So 24 (.build 42 #[(0, .const (.int .i64 1)), (1, .const (.int .i64 3))]) 42,
 So 25 (.call ⟨.value (.func 14), #[.tmp 23, .tmp 24], #[34, 42]⟩) 39,
 So 22 (.move (.tmp 25)) 39,
 So 26 (.extract (.tmp 22) 0) 34,
 So 27 (.extract (.tmp 22) 1) 36,
 So 4 (.alloc 34) 0,
 Sn (.store 34 (.tmp 4) (.tmp 26)) 0,
 So 5 (.assign (.tmp 27)) 36] [3, 4, 5])
 (.seq (.ops [So 29 (.load 34 (.tmp 3)) 34,
 So 30 (.buildSlice 32 1 #[(0, .tmp 29)]) 32,
 So 31 (.build 53 #[(1, .tmp 30)]) 53,
 So 32 (.call ⟨.value (.func 23), #[.tmp 31], #[53]⟩) 55,
 So 28 (.move (.tmp 32)) 55,
 So 33 (.extract (.tmp 28) 0) 53,
 So 34 (.extract (.tmp 28) 1) 36,
 So 6 (.alloc 53) 0,
 Sn (.store 53 (.tmp 6) (.tmp 33)) 0,
 So 7 (.assign (.tmp 34)) 36] [4, 5, 6, 7])
 (.seq (.ops [So 35 (.move (.tmp 5)) 36,
 So 36 (.binOp .eql 36 (.tmp 35) (.const (.int .i64 0)) 36) 4,
 So 37 (.move (.tmp 36)) 4,
 Sg 38 (.move (.tmp 7)) 36 37 true,
 Sg 39 (.binOp .eql 36 (.tmp 38) (.const (.int .i64 0)) 36) 4 37 true,
 So 40 (.pick (.tmp 37) (.tmp 39) (.const (.bool false))) 4,
 So 41 (.move (.tmp 40)) 4,
 Sg 42 (.fieldAddr 34 (.tmp 4) 0) 0 41 true,
 Sg 43 (.load 3 (.tmp 42)) 3 41 true,
 Sg 44 (.binOp .eql 3 (.tmp 43) (.const (.int .i64 4)) 3) 4 41 true,
 So 45 (.pick (.tmp 41) (.tmp 44) (.const (.bool false))) 4,
 So 46 (.move (.tmp 45)) 4,
 Sg 47 (.fieldAddr 34 (.tmp 4) 3) 0 46 true,
 Sg 48 (.load 32 (.tmp 47)) 32 46 true,
 Sg 49 (.call ⟨.builtin .len, #[.tmp 48], #[32]⟩) 3 46 true,
 Sg 50 (.binOp .eql 3 (.tmp 49) (.const (.int .i64 1)) 3) 4 46 true,
 So 51 (.pick (.tmp 46) (.tmp 50) (.const (.bool false))) 4,
 So 52 (.move (.tmp 51)) 4,
 Sg 53 (.fieldAddr 34 (.tmp 4) 3) 0 52 true,
 Sg 54 (.load 32 (.tmp 53)) 32 52 true,
 Sg 55 (.indexAddr 32 (.tmp 54) (.const (.int .i64 0))) 0 52 true,
 Sg 56 (.fieldAddr 34 (.tmp 55) 0) 0 52 true,
 Sg 57 (.load 3 (.tmp 56)) 3 52 true,
 Sg 58 (.binOp .eql 3 (.tmp 57) (.const (.int .i64 1)) 3) 4 52 true,
 So 59 (.pick (.tmp 52) (.tmp 58) (.const (.bool false))) 4,
 So 60 (.move (.tmp 59)) 4,
 Sg 61 (.fieldAddr 34 (.tmp 4) 3) 0 60 true,
 Sg 62 (.load 32 (.tmp 61)) 32 60 true,
 Sg 63 (.indexAddr 32 (.tmp 62) (.const (.int .i64 0))) 0 60 true,
 Sg 64 (.fieldAddr 34 (.tmp 63) 2) 0 60 true,
 Sg 65 (.load 31 (.tmp 64)) 31 60 true,
 Sg 66 (.indexAddr 31 (.tmp 65) (.const (.int .i64 0))) 0 60 true,
 Sg 67 (.fieldAddr 42 (.tmp 66) 0) 0 60 true,
 Sg 68 (.load 3 (.tmp 67)) 3 60 true,
 Sg 69 (.binOp .eql 3 (.tmp 68) (.const (.int .i64 3)) 3) 4 60 true,
 So 70 (.pick (.tmp 60) (.tmp 69) (.const (.bool false))) 4,
 So 71 (.move (.tmp 70)) 4,
 Sg 72 (.fieldAddr 53 (.tmp 6) 0) 0 71 true,
 Sg 73 (.load 27 (.tmp 72)) 27 71 true,
 Sg 74 (.call ⟨.builtin .len, #[.tmp 73], #[27]⟩) 3 71 true,
 Sg 75 (.binOp .eql 3 (.tmp 74) (.const (.int .i64 1)) 3) 4 71 true,
 So 76 (.pick (.tmp 71) (.tmp 75) (.const (.bool false))) 4,
 So 77 (.move (.tmp 76)) 4,
 Sg 78 (.fieldAddr 53 (.tmp 6) 1) 0 77 true,
 Sg 79 (.load 32 (.tmp 78)) 32 77 true,
 Sg 80 (.call ⟨.builtin .len, #[.tmp 79], #[32]⟩) 3 77 true,
 Sg 81 (.binOp .eql 3 (.tmp 80) (.const (.int .i64 1)) 3) 4 77 true,
 So 82 (.pick (.tmp 77) (.tmp 81) (.const (.bool false))) 4,
 So 0 (.assign (.tmp 82)) 4] [0])
 (.ret)))))))
theorem w8 : CW 8 s8 [.tmp 0] := fun hr h => callsV_of_p follows cfgT a8 (fn := Tryz.f8) (c := Tryz.f8.body.getD .skip) (by kernel_rfl) (by kernel_rfl) (by kernel_rfl) (by kernel_rfl) (by kernel_rfl) (sc := s8) (by kernel_rfl) [.tmp 0] (by kernel_rfl) hr h
def a9 : List Ann := [⟨[0], [], []⟩,
 ⟨[2], [], []⟩]
def s9 : SC := .seq (.ops [So 2 (.assign (.const (.bool false))) 4] [0])
 (.seq (.ops [So 3 (.move (.tmp 0)) 22,
 So 4 (.call ⟨.builtin .len, #[.tmp 3], #[22]⟩) 3,
 So 5 (.binOp .leq 3 (.tmp 4) (.const (.int .i64 500)) 3) 4,
 So 2 (.assign (.tmp 5)) 4] [2])
 (.ret))
theorem w9 : CW 9 s9 [.tmp 2] := fun hr h => callsV_of_p follows cfgT a9 (fn := Tryz.f9) (c := Tryz.f9.body.getD .skip) (by kernel_rfl) (by kernel_rfl) (by kernel_rfl) (by kernel_rfl) (by kernel_rfl) (sc := s9) (by kernel_rfl) [.tmp 2] (by kernel_rfl) hr h
def a10 : List Ann := [⟨[0], [], []⟩,
 ⟨[2], [], []⟩]
def s10 : SC := .seq (.ops [So 2 (.assign (.const (.pointer none))) 25] [0])
 (.seq (.ops [So 3 (.move (.tmp 0)) 22,
 So 4 (.build 62 #[(0, .tmp 3)]) 62,
 So 5 (.box 62 (.tmp 4)) 25,
 So 2 (.assign (.tmp 5)) 25] [2])
 (.ret))
theorem w10 : CW 10 s10 [.tmp 2] := fun hr h => callsV_of_p follows cfgT a10 (fn := Tryz.f10) (c := Tryz.f10.body.getD .skip) (by kernel_rfl) (by kernel_rfl) (by kernel_rfl) (by kernel_rfl) (by kernel_rfl) (sc := s10) (by kernel_rfl) [.tmp 2] (by kernel_rfl) hr h
def a62 : List Ann := [⟨[1], [], []⟩,
 ⟨[1, 3], [], []⟩,
 ⟨[3, 7, 8, 9], [], []⟩,
 ⟨[3, 7, 8, 9, 10], [], []⟩,
 ⟨[3, 5, 7, 8, 9], [], []⟩,
 ⟨[3, 7, 8, 9], [], []⟩,
 ⟨[3, 7, 8, 9], [], []⟩,
 ⟨[2], [], []⟩]
def s62 : SC := .seq (.ops [So 1 (.box 42 (.tmp 0)) 0,
 So 2 (.assign (.const (.int .i64 0))) 3] [1])
 (.seq (.ops [So 3 (.assign (.const (.int .i64 1))) 3] [1, 3])
 (.seq (.seq (.ops [So 6 (.fieldAddr 42 (.tmp 1) 3) 0,
 So 7 (.load 31 (.tmp 6)) 31,
 So 8 (.call ⟨.builtin .len, #[.tmp 7], #[31]⟩) 3,
 So 9 (.move (.const (.int .i64 0))) 3] [3, 7, 8, 9])
 (.block 0
 (.loop
 (.seq (.ops [So 10 (.binOp .lss 3 (.tmp 9) (.tmp 8) 3) 0] [3, 7, 8, 9, 10])
 (.seq (.cond (.tmp 10)
 (.skip)
 (.exit 0))
 (.seq (.block 1
 (.seq (.ops [So 11 (.indexAddr 31 (.tmp 7) (.tmp 9)) 0,
 So 12 (.load 42 (.tmp 11)) 42,
 So 5 (.alloc 42) 0,
 Sn (.store 42 (.tmp 5) (.tmp 12)) 0] [3, 5, 7, 8, 9])
 (.ops [So 13 (.move (.tmp 3)) 3,
 So 14 (.load 42 (.tmp 5)) 42,
 So 15 (.call ⟨.value (.func 62), #[.tmp 14], #[42]⟩) 3,
 So 16 (.binOp .add 3 (.tmp 13) (.tmp 15) 3) 3,
 So 3 (.assign (.tmp 16)) 3] [3, 7, 8, 9])))
 (.ops [So 17 (.binOp .add 3 (.tmp 9) (.const (.int .i64 1)) 3) 3,
 So 9 (.move (.tmp 17)) 3] [3, 7, 8, 9])))))))
 (.seq (.ops [So 18 (.move (.tmp 3)) 3,
 So 2 (.assign (.tmp 18)) 3] [2])
 (.ret))))
theorem w62 : CW 62 s62 [.tmp 2] := fun hr h => callsV_of_p follows cfgT a62 (fn := Tryz.f62) (c := Tryz.f62.body.getD .skip) (by kernel_rfl) (by kernel_rfl) (by kernel_rfl) (by kernel_rfl) (by kernel_rfl) (sc := s62) (by kernel_rfl) [.tmp 2] (by kernel_rfl) hr h
def a60 : List Ann := [⟨[1], [], []⟩,
 ⟨[1, 3], [], []⟩,
 ⟨[1, 3, 9, 10, 11], [], []⟩,
 ⟨[1, 3, 9, 10, 11, 12], [], []⟩,
 ⟨[1, 3, 5, 9, 10, 11], [], []⟩,
 ⟨[1, 3, 9, 10, 11], [], []⟩,
 ⟨[1, 3, 9, 10, 11], [], []⟩,
 ⟨[3, 21, 22, 23], [], []⟩,
 ⟨[3, 21, 22, 23, 24], [], []⟩,
 ⟨[3, 7, 21, 22, 23], [], []⟩,
 ⟨[3, 21, 22, 23], [], []⟩,
 ⟨[3, 21, 22, 23], [], []⟩,
 ⟨[2], [], []⟩]
def s60 : SC := .seq (.ops [So 1 (.box 34 (.tmp 0)) 0,
 So 2 (.assign (.const (.int .i64 0))) 3] [1])
 (.seq (.ops [So 3 (.assign (.const (.int .i64 1))) 3] [1, 3])
 (.seq (.seq (.ops [So 8 (.fieldAddr 34 (.tmp 1) 2) 0,
 So 9 (.load 31 (.tmp 8)) 31,
 So 10 (.call ⟨.builtin .len, #[.tmp 9], #[31]⟩) 3,
 So 11 (.move (.const (.int .i64 0))) 3] [1, 3, 9, 10, 11])
 (.block 0
 (.loop
 (.seq (.ops [So 12 (.binOp .lss 3 (.tmp 11) (.tmp 10) 3) 0] [1, 3, 9, 10, 11, 12])
 (.seq (.cond (.tmp 12)
 (.skip)
 (.exit 0))
 (.seq (.block 1
 (.seq (.ops [So 13 (.indexAddr 31 (.tmp 9) (.tmp 11)) 0,
 So 14 (.load 42 (.tmp 13)) 42,
 So 5 (.alloc 42) 0,
 Sn (.store 42 (.tmp 5) (.tmp 14)) 0] [1, 3, 5, 9, 10, 11])
 (.ops [So 15 (.move (.tmp 3)) 3,
 So 16 (.load 42 (.tmp 5)) 42,
 So 17 (.call ⟨.value (.func 62), #[.tmp 16], #[42]⟩) 3,
 So 18 (.binOp .add 3 (.tmp 15) (.tmp 17) 3) 3,
 So 3 (.assign (.tmp 18)) 3] [1, 3, 9, 10, 11])))
 (.ops [So 19 (.binOp .add 3 (.tmp 11) (.const (.int .i64 1)) 3) 3,
 So 11 (.move (.tmp 19)) 3] [1, 3, 9, 10, 11])))))))
 (.seq (.seq (.ops [So 20 (.fieldAddr 34 (.tmp 1) 3) 0,
 So 21 (.load 32 (.tmp 20)) 32,
 So 22 (.call ⟨.builtin .len, #[.tmp 21], #[32]⟩) 3,
 So 23 (.move (.const (.int .i64 0))) 3] [3, 21, 22, 23])
 (.block 2
 (.loop
 (.seq (.ops [So 24 (.binOp .lss 3 (.tmp 23) (.tmp 22) 3) 0] [3, 21, 22, 23, 24])
 (.seq (.cond (.tmp 24)
 (.skip)
 (.exit 2))
 (.seq (.block 3
 (.seq (.ops [So 25 (.indexAddr 32 (.tmp 21) (.tmp 23)) 0,
 So 26 (.load 34 (.tmp 25)) 34,
 So 7 (.alloc 34) 0,
 Sn (.store 34 (.tmp 7) (.tmp 26)) 0] [3, 7, 21, 22, 23])
 (.ops [So 27 (.move (.tmp 3)) 3,
 So 28 (.load 34 (.tmp 7)) 34,
 So 29 (.call ⟨.value (.func 60), #[.tmp 28], #[34]⟩) 3,
 So 30 (.binOp .add 3 (.tmp 27) (.tmp 29) 3) 3,
 So 3 (.assign (.tmp 30)) 3] [3, 21, 22, 23])))
 (.ops [So 31 (.binOp .add 3 (.tmp 23) (.const (.int .i64 1)) 3) 3,
 So 23 (.move (.tmp 31)) 3] [3, 21, 22, 23])))))))
 (.seq (.ops [So 32 (.move (.tmp 3)) 3,
 So 2 (.assign (.tmp 32)) 3] [2])
 (.ret)))))
theorem w60 : CW 60 s60 [.tmp 2] := fun hr h => callsV_of_p follows cfgT a60 (fn := Tryz.f60) (c := Tryz.f60.body.getD .skip) (by kernel_rfl) (by kernel_rfl) (by kernel_rfl) (by kernel_rfl) (by kernel_rfl) (sc := s60) (by kernel_rfl) [.tmp 2] (by kernel_rfl) hr h
def a129 : List Ann := [⟨[1], [], []⟩,
 ⟨[1, 3], [], []⟩,
 ⟨[1, 3, 7], [], []⟩,
 ⟨[2], [], []⟩,
 ⟨[1, 3, 7, 8], [], []⟩,
 ⟨[1, 3, 7, 8], [], []⟩,
 ⟨[1, 3, 7, 8], [], []⟩,
 ⟨[1, 7, 12], [], []⟩,
 ⟨[1, 12], [], []⟩,
 ⟨[1, 3], [], []⟩,
 ⟨[1, 19], [], []⟩,
 ⟨[2], [], []⟩,
 ⟨[21, 22, 23], [], []⟩,
 ⟨[21, 22, 23, 24], [], []⟩,
 ⟨[5, 21, 22, 23], [], []⟩,
 ⟨[21, 22, 23, 29], [], []⟩,
 ⟨[2], [], []⟩,
 ⟨[21, 22, 23], [], []⟩,
 ⟨[2], [], []⟩]
def s129 : SC := .seq (.ops [So 1 (.box 30 (.tmp 0)) 0,
 So 2 (.assign (.const (.bool false))) 4] [1])
 (.seq (.ops [So 3 (.assign (.const (.int .i64 0))) 3] [1, 3])
 (.seq (.seq (.ops [So 6 (.fieldAddr 30 (.tmp 1) 0) 0,
 So 7 (.load 3 (.tmp 6)) 3] [1, 3, 7])
 (.block 0
 (.seq (.seq (.ops [So 9 (.binOp .eql 3 (.tmp 7) (.const (.int .i64 1)) 3) 4,
 So 8 (.assign (.tmp 9)) 4] [1, 3, 7, 8])
 (.cond (.tmp 8)
 (.skip)
 (.seq (.ops [So 10 (.binOp .eql 3 (.tmp 7) (.const (.int .i64 2)) 3) 4,
 So 8 (.assign (.tmp 10)) 4] [1, 3, 7, 8])
 (.cond (.tmp 8)
 (.skip)
 (.ops [So 11 (.binOp .eql 3 (.tmp 7) (.const (.int .i64 5)) 3) 4,
 So 8 (.assign (.tmp 11)) 4] [1, 3, 7, 8])))))
 (.cond (.tmp 8)
 (.skip)
 (.seq (.seq (.ops [So 13 (.binOp .eql 3 (.tmp 7) (.const (.int .i64 3)) 3) 4,
 So 12 (.assign (.tmp 13)) 4] [1, 7, 12])
 (.cond (.tmp 12)
 (.skip)
 (.ops [So 14 (.binOp .eql 3 (.tmp 7) (.const (.int .i64 4)) 3) 4,
 So 12 (.assign (.tmp 14)) 4] [1, 12])))
 (.cond (.tmp 12)
 (.ops [So 3 (.assign (.const (.int .i64 2))) 3] [1, 3])
 (.seq (.ops [So 2 (.assign (.const (.bool false))) 4] [2])
 (.ret))))))))
 (.seq (.seq (.ops [So 15 (.fieldAddr 30 (.tmp 1) 1) 0,
 So 16 (.load 27 (.tmp 15)) 27,
 So 17 (.call ⟨.builtin .len, #[.tmp 16], #[27]⟩) 3,
 So 18 (.move (.tmp 3)) 3,
 So 19 (.binOp .neq 3 (.tmp 17) (.tmp 18) 3) 4] [1, 19])
 (.cond (.tmp 19)
 (.seq (.ops [So 2 (.assign (.const (.bool false))) 4] [2])
 (.ret))
 (.skip)))
 (.seq (.seq (.ops [So 20 (.fieldAddr 30 (.tmp 1) 1) 0,
 So 21 (.load 27 (.tmp 20)) 27,
 So 22 (.call ⟨.builtin .len, #[.tmp 21], #[27]⟩) 3,
 So 23 (.move (.const (.int .i64 0))) 3] [21, 22, 23])
 (.block 1
 (.loop
 (.seq (.ops [So 24 (.binOp .lss 3 (.tmp 23) (.tmp 22) 3) 0] [21, 22, 23, 24])
 (.seq (.cond (.tmp 24)
 (.skip)
 (.exit 1))
 (.seq (.block 2
 (.seq (.ops [So 25 (.indexAddr 27 (.tmp 21) (.tmp 23)) 0,
 So 26 (.load 30 (.tmp 25)) 30,
 So 5 (.alloc 30) 0,
 Sn (.store 30 (.tmp 5) (.tmp 26)) 0] [5, 21, 22, 23])
 (.seq (.ops [So 27 (.load 30 (.tmp 5)) 30,
 So 28 (.call ⟨.value (.func 129), #[.tmp 27], #[30]⟩) 4,
 So 29 (.unOp .not 4 (.tmp 28)) 4] [21, 22, 23, 29])
 (.cond (.tmp 29)
 (.seq (.ops [So 2 (.assign (.const (.bool false))) 4] [2])
 (.ret))
 (.skip)))))
 (.ops [So 30 (.binOp .add 3 (.tmp 23) (.const (.int .i64 1)) 3) 3,
 So 23 (.move (.tmp 30)) 3] [21, 22, 23])))))))
 (.seq (.ops [So 2 (.assign (.const (.bool true))) 4] [2])
 (.ret))))))
theorem w129 : CW 129 s129 [.tmp 2] := fun hr h => callsV_of_p follows cfgT a129 (fn := Tryz.f129) (c := Tryz.f129.body.getD .skip) (by kernel_rfl) (by kernel_rfl) (by kernel_rfl) (by kernel_rfl) (by kernel_rfl) (sc := s129) (by kernel_rfl) [.tmp 2] (by kernel_rfl) hr h
def a130 : List Ann := [⟨[1], [], []⟩,
 ⟨[1, 3], [], []⟩,
 ⟨[3, 7, 8, 9], [], []⟩,
 ⟨[3, 7, 8, 9, 10], [], []⟩,
 ⟨[3, 5, 7, 8, 9], [], []⟩,
 ⟨[3, 7, 8, 9], [], []⟩,
 ⟨[3, 7, 8, 9], [], []⟩,
 ⟨[2], [], []⟩]
def s130 : SC := .seq (.ops [So 1 (.box 30 (.tmp 0)) 0,
 So 2 (.assign (.const (.int .i64 0))) 3] [1])
 (.seq (.ops [So 3 (.assign (.const (.int .i64 1))) 3] [1, 3])
 (.seq (.seq (.ops [So 6 (.fieldAddr 30 (.tmp 1) 1) 0,
 So 7 (.load 27 (.tmp 6)) 27,
 So 8 (.call ⟨.builtin .len, #[.tmp 7], #[27]⟩) 3,
 So 9 (.move (.const (.int .i64 0))) 3] [3, 7, 8, 9])
 (.block 0
 (.loop
 (.seq (.ops [So 10 (.binOp .lss 3 (.tmp 9) (.tmp 8) 3) 0] [3, 7, 8, 9, 10])
 (.seq (.cond (.tmp 10)
 (.skip)
 (.exit 0))
 (.seq (.block 1
 (.seq (.ops [So 11 (.indexAddr 27 (.tmp 7) (.tmp 9)) 0,
 So 12 (.load 30 (.tmp 11)) 30,
 So 5 (.alloc 30) 0,
 Sn (.store 30 (.tmp 5) (.tmp 12)) 0] [3, 5, 7, 8, 9])
 (.ops [So 13 (.move (.tmp 3)) 3,
 So 14 (.load 30 (.tmp 5)) 30,
 So 15 (.call ⟨.value (.func 130), #[.tmp 14], #[30]⟩) 3,
 So 16 (.binOp .add 3 (.tmp 13) (.tmp 15) 3) 3,
 So 3 (.assign (.tmp 16)) 3] [3, 7, 8, 9])))
 (.ops [So 17 (.binOp .add 3 (.tmp 9) (.const (.int .i64 1)) 3) 3,
 So 9 (.move (.tmp 17)) 3] [3, 7, 8, 9])))))))
 (.seq (.ops [So 18 (.move (.tmp 3)) 3,
 So 2 (.assign (.tmp 18)) 3] [2])
 (.ret))))
theorem w130 : CW 130 s130 [.tmp 2] := fun hr h => callsV_of_p follows cfgT a130 (fn := Tryz.f130) (c := Tryz.f130.body.getD .skip) (by kernel_rfl) (by kernel_rfl) (by kernel_rfl) (by kernel_rfl) (by kernel_rfl) (sc := s130) (by kernel_rfl) [.tmp 2] (by kernel_rfl) hr h
def a102 : List Ann := [⟨[1], [], []⟩,
 ⟨[1, 5], [], []⟩,
 ⟨[2], [], []⟩,
 ⟨[8], [], []⟩,
 ⟨[2], [], []⟩,
 ⟨[2], [], []⟩]
def s102 : SC := .seq (.ops [So 1 (.box 30 (.tmp 0)) 0,
 So 2 (.assign (.const (.int .i64 0))) 36] [1])
 (.seq (.seq (.ops [So 3 (.load 30 (.tmp 1)) 30,
 So 4 (.call ⟨.value (.func 129), #[.tmp 3], #[30]⟩) 4,
 So 5 (.unOp .not 4 (.tmp 4)) 4] [1, 5])
 (.cond (.tmp 5)
 (.seq (.ops [So 2 (.assign (.const (.int .i64 2))) 36] [2])
 (.ret))
 (.skip)))
 (.seq (.seq (.ops [So 6 (.load 30 (.tmp 1)) 30,
 So 7 (.call ⟨.value (.func 130), #[.tmp 6], #[30]⟩) 3,
 So 8 (.binOp .gtr 3 (.tmp 7) (.const (.int .i64 64)) 3) 4] [8])
 (.cond (.tmp 8)
 (.seq (.ops [So 2 (.assign (.const (.int .i64 4))) 36] [2])
 (.ret))
 (.skip)))
 (.seq (.ops [So 2 (.assign (.const (.int .i64 0))) 36] [2])
 (.ret))))
theorem w102 : CW 102 s102 [.tmp 2] := fun hr h => callsV_of_p follows cfgT a102 (fn := Tryz.f102) (c := Tryz.f102.body.getD .skip) (by kernel_rfl) (by kernel_rfl) (by kernel_rfl) (by kernel_rfl) (by kernel_rfl) (sc := s102) (by kernel_rfl) [.tmp 2] (by kernel_rfl) hr h
end
end Go.Proofs.YtnpgbkldpdogjaaGreatDoor.V

set_option maxRecDepth 100000
namespace Go.Proofs.YtnpgbkldpdogjaaGreatDoor.V
open Go Go.Proofs
noncomputable section
def a117 : List Ann := [⟨[1], [], []⟩,
 ⟨[2], [], []⟩]
def s117 : SC := .seq (.ops [So 1 (.box 30 (.tmp 0)) 0,
 So 2 (.assign (.const (.bool false))) 4] [1])
 (.seq (.ops [So 3 (.fieldAddr 30 (.tmp 1) 0) 0,
 So 4 (.load 3 (.tmp 3)) 3,
 So 5 (.binOp .eql 3 (.tmp 4) (.const (.int .i64 0)) 3) 4,
 So 6 (.move (.tmp 5)) 4,
 Sg 7 (.fieldAddr 30 (.tmp 1) 1) 0 6 true,
 Sg 8 (.load 27 (.tmp 7)) 27 6 true,
 Sg 9 (.call ⟨.builtin .len, #[.tmp 8], #[27]⟩) 3 6 true,
 Sg 10 (.binOp .eql 3 (.tmp 9) (.const (.int .i64 0)) 3) 4 6 true,
 So 11 (.pick (.tmp 6) (.tmp 10) (.const (.bool false))) 4,
 So 2 (.assign (.tmp 11)) 4] [2])
 (.ret))
theorem w117 : CW 117 s117 [.tmp 2] := fun hr h => callsV_of_p follows cfgT a117 (fn := Tryz.f117) (c := Tryz.f117.body.getD .skip) (by kernel_rfl) (by kernel_rfl) (by kernel_rfl) (by kernel_rfl) (by kernel_rfl) (sc := s117) (by kernel_rfl) [.tmp 2] (by kernel_rfl) hr h
def a132 : List Ann := [⟨[0], [], []⟩,
 ⟨[3], [], []⟩,
 ⟨[3, 4], [], []⟩,
 ⟨[3, 4], [], []⟩,
 ⟨[3, 4], [], []⟩,
 ⟨[3, 4], [], []⟩,
 ⟨[2], [], []⟩,
 ⟨[3, 9], [], []⟩,
 ⟨[3, 9], [], []⟩,
 ⟨[3, 9], [], []⟩,
 ⟨[3, 9], [], []⟩,
 ⟨[2], [], []⟩,
 ⟨[3, 14], [], []⟩,
 ⟨[3, 14], [], []⟩,
 ⟨[3, 14], [], []⟩,
 ⟨[2], [], []⟩,
 ⟨[3, 18], [], []⟩,
 ⟨[18], [], []⟩,
 ⟨[2], [], []⟩,
 ⟨[2], [], []⟩]
def s132 : SC := .seq (.ops [So 2 (.assign (.const (.int .i64 0))) 3] [0])
 (.seq (.seq (.ops [So 3 (.move (.tmp 0)) 3] [3])
 (.block 0
 (.seq (.seq (.ops [So 5 (.binOp .eql 3 (.tmp 3) (.const (.int .i64 1)) 3) 4,
 So 4 (.assign (.tmp 5)) 4] [3, 4])
 (.cond (.tmp 4)
 (.skip)
 (.seq (.ops [So 6 (.binOp .eql 3 (.tmp 3) (.const (.int .i64 4)) 3) 4,
 So 4 (.assign (.tmp 6)) 4] [3, 4])
 (.cond (.tmp 4)
 (.skip)
 (.seq (.ops [So 7 (.binOp .eql 3 (.tmp 3) (.const (.int .i64 7)) 3) 4,
 So 4 (.assign (.tmp 7)) 4] [3, 4])
 (.cond (.tmp 4)
 (.skip)
 (.ops [So 8 (.binOp .eql 3 (.tmp 3) (.const (.int .i64 13)) 3) 4,
 So 4 (.assign (.tmp 8)) 4] [3, 4])))))))
 (.cond (.tmp 4)
 (.seq (.ops [So 2 (.assign (.const (.int .i64 0))) 3] [2])
 (.ret))
 (.seq (.seq (.ops [So 10 (.binOp .eql 3 (.tmp 3) (.const (.int .i64 2)) 3) 4,
 So 9 (.assign (.tmp 10)) 4] [3, 9])
 (.cond (.tmp 9)
 (.skip)
 (.seq (.ops [So 11 (.binOp .eql 3 (.tmp 3) (.const (.int .i64 5)) 3) 4,
 So 9 (.assign (.tmp 11)) 4] [3, 9])
 (.cond (.tmp 9)
 (.skip)
 (.seq (.ops [So 12 (.binOp .eql 3 (.tmp 3) (.const (.int .i64 11)) 3) 4,
 So 9 (.assign (.tmp 12)) 4] [3, 9])
 (.cond (.tmp 9)
 (.skip)
 (.ops [So 13 (.binOp .eql 3 (.tmp 3) (.const (.int .i64 12)) 3) 4,
 So 9 (.assign (.tmp 13)) 4] [3, 9])))))))
 (.cond (.tmp 9)
 (.seq (.ops [So 2 (.assign (.const (.int .i64 1))) 3] [2])
 (.ret))
 (.seq (.seq (.ops [So 15 (.binOp .eql 3 (.tmp 3) (.const (.int .i64 3)) 3) 4,
 So 14 (.assign (.tmp 15)) 4] [3, 14])
 (.cond (.tmp 14)
 (.skip)
 (.seq (.ops [So 16 (.binOp .eql 3 (.tmp 3) (.const (.int .i64 8)) 3) 4,
 So 14 (.assign (.tmp 16)) 4] [3, 14])
 (.cond (.tmp 14)
 (.skip)
 (.ops [So 17 (.binOp .eql 3 (.tmp 3) (.const (.int .i64 10)) 3) 4,
 So 14 (.assign (.tmp 17)) 4] [3, 14])))))
 (.cond (.tmp 14)
 (.seq (.ops [So 2 (.assign (.const (.int .i64 2))) 3] [2])
 (.ret))
 (.seq (.seq (.ops [So 19 (.binOp .eql 3 (.tmp 3) (.const (.int .i64 6)) 3) 4,
 So 18 (.assign (.tmp 19)) 4] [3, 18])
 (.cond (.tmp 18)
 (.skip)
 (.ops [So 20 (.binOp .eql 3 (.tmp 3) (.const (.int .i64 9)) 3) 4,
 So 18 (.assign (.tmp 20)) 4] [18])))
 (.cond (.tmp 18)
 (.seq (.ops [So 2 (.assign (.const (.int .i64 3))) 3] [2])
 (.ret))
 (.skip)))))))))))
 (.seq (.ops [So 2 (.assign (.const (.int .i64 (-1)))) 3] [2])
 (.ret)))
theorem w132 : CW 132 s132 [.tmp 2] := fun hr h => callsV_of_p follows cfgT a132 (fn := Tryz.f132) (c := Tryz.f132.body.getD .skip) (by kernel_rfl) (by kernel_rfl) (by kernel_rfl) (by kernel_rfl) (by kernel_rfl) (sc := s132) (by kernel_rfl) [.tmp 2] (by kernel_rfl) hr h
def a104 : List Ann := [⟨[1], [], []⟩,
 ⟨[1, 26], [0, 1, 3, 0, 8, 24, 63, 127, 255, 511, 1023, 2047, 4095, 8191, 16383, 32767, 65535, 131071, 262143, 524287, 1048575, 2097151], [false, true, false, false, false, true, false, false, false, false, false, false, false, false, false, false, false, false, false, false, false, false]⟩,
 ⟨[2], [], []⟩,
 ⟨[1, 28], [], []⟩,
 ⟨[1, 32], [], []⟩,
 ⟨[2], [], []⟩,
 ⟨[1, 28, 33], [], []⟩,
 ⟨[1, 28, 33], [], []⟩,
 ⟨[1, 33], [], []⟩,
 ⟨[1, 40], [], []⟩,
 ⟨[2], [], []⟩,
 ⟨[42, 43, 44], [], []⟩,
 ⟨[42, 43, 44, 45], [], []⟩,
 ⟨[4, 42, 43, 44], [], []⟩,
 ⟨[42, 43, 44, 50], [], []⟩,
 ⟨[2], [], []⟩,
 ⟨[42, 43, 44], [], []⟩,
 ⟨[2], [], []⟩]
def s104 : SC := .seq (.ops [So 1 (.box 42 (.tmp 0)) 0,
 So 2 (.assign (.const (.bool false))) 4] [1])
 (.seq (.seq (.draw [So 5 (.fieldAddr 42 (.tmp 1) 3) 0,
 So 6 (.load 31 (.tmp 5)) 31,
 So 7 (.call ⟨.builtin .len, #[.tmp 6], #[31]⟩) 3,
 So 8 (.fieldAddr 42 (.tmp 1) 0) 0,
 So 9 (.load 3 (.tmp 8)) 3,
 So 10 (.call ⟨.value (.func 132), #[.tmp 9], #[3]⟩) 3,
 So 11 (.binOp .neq 3 (.tmp 7) (.tmp 10) 3) 4,
 So 12 (.move (.tmp 11)) 4,
 Sg 13 (.fieldAddr 42 (.tmp 1) 1) 0 12 false,
 Sg 14 (.load 3 (.tmp 13)) 3 12 false,
 Sg 15 (.binOp .lss 3 (.tmp 14) (.const (.int .i64 0)) 3) 4 12 false,
 So 16 (.pick (.tmp 12) (.const (.bool true)) (.tmp 15)) 4,
 So 17 (.move (.tmp 16)) 4,
 Sg 18 (.fieldAddr 42 (.tmp 1) 0) 0 17 false,
 Sg 19 (.load 3 (.tmp 18)) 3 17 false,
 Sg 20 (.binOp .neq 3 (.tmp 19) (.const (.int .i64 1)) 3) 4 17 false,
 Sg 21 (.move (.tmp 20)) 4 17 false,
 Sg 22 (.fieldAddr 42 (.tmp 1) 1) 0 21 true,
 Sg 23 (.load 3 (.tmp 22)) 3 21 true,
 Sg 24 (.binOp .neq 3 (.tmp 23) (.const (.int .i64 0)) 3) 4 21 true,
 Sg 25 (.pick (.tmp 21) (.tmp 24) (.const (.bool false))) 4 17 false,
 So 26 (.pick (.tmp 17) (.const (.bool true)) (.tmp 25)) 4] [false, true, false, false, false, true, false, false, false, false, false, false, false, false, false, false, false, false, false, false, false, false] [1, 26])
 (.cond (.tmp 26)
 (.seq (.ops [So 2 (.assign (.const (.bool false))) 4] [2])
 (.ret))
 (.skip)))
 (.seq (.seq (.ops [So 27 (.fieldAddr 42 (.tmp 1) 0) 0,
 So 28 (.load 3 (.tmp 27)) 3] [1, 28])
 (.block 0
 (.seq (.seq (.ops [So 34 (.binOp .eql 3 (.tmp 28) (.const (.int .i64 2)) 3) 4,
 So 33 (.assign (.tmp 34)) 4] [1, 28, 33])
 (.cond (.tmp 33)
 (.skip)
 (.seq (.ops [So 35 (.binOp .eql 3 (.tmp 28) (.const (.int .i64 6)) 3) 4,
 So 33 (.assign (.tmp 35)) 4] [1, 28, 33])
 (.cond (.tmp 33)
 (.skip)
 (.ops [So 36 (.binOp .eql 3 (.tmp 28) (.const (.int .i64 9)) 3) 4,
 So 33 (.assign (.tmp 36)) 4] [1, 33])))))
 (.cond (.tmp 33)
 (.seq (.ops [So 37 (.fieldAddr 42 (.tmp 1) 2) 0,
 So 38 (.load 30 (.tmp 37)) 30,
 So 39 (.call ⟨.value (.func 102), #[.tmp 38], #[30]⟩) 36,
 So 40 (.binOp .neq 36 (.tmp 39) (.const (.int .i64 0)) 36) 4] [1, 40])
 (.cond (.tmp 40)
 (.seq (.ops [So 2 (.assign (.const (.bool false))) 4] [2])
 (.ret))
 (.skip)))
 (.seq (.ops [So 29 (.fieldAddr 42 (.tmp 1) 2) 0,
 So 30 (.load 30 (.tmp 29)) 30,
 So 31 (.call ⟨.value (.func 117), #[.tmp 30], #[30]⟩) 4,
 So 32 (.unOp .not 4 (.tmp 31)) 4] [1, 32])
 (.cond (.tmp 32)
 (.seq (.ops [So 2 (.assign (.const (.bool false))) 4] [2])
 (.ret))
 (.skip)))))))
 (.seq (.seq (.ops [So 41 (.fieldAddr 42 (.tmp 1) 3) 0,
 So 42 (.load 31 (.tmp 41)) 31,
 So 43 (.call ⟨.builtin .len, #[.tmp 42], #[31]⟩) 3,
 So 44 (.move (.const (.int .i64 0))) 3] [42, 43, 44])
 (.block 1
 (.loop
 (.seq (.ops [So 45 (.binOp .lss 3 (.tmp 44) (.tmp 43) 3) 0] [42, 43, 44, 45])
 (.seq (.cond (.tmp 45)
 (.skip)
 (.exit 1))
 (.seq (.block 2
 (.seq (.ops [So 46 (.indexAddr 31 (.tmp 42) (.tmp 44)) 0,
 So 47 (.load 42 (.tmp 46)) 42,
 So 4 (.alloc 42) 0,
 Sn (.store 42 (.tmp 4) (.tmp 47)) 0] [4, 42, 43, 44])
 (.seq (.ops [So 48 (.load 42 (.tmp 4)) 42,
 So 49 (.call ⟨.value (.func 104), #[.tmp 48], #[42]⟩) 4,
 So 50 (.unOp .not 4 (.tmp 49)) 4] [42, 43, 44, 50])
 (.cond (.tmp 50)
 (.seq (.ops [So 2 (.assign (.const (.bool false))) 4] [2])
 (.ret))
 (.skip)))))
 (.ops [So 51 (.binOp .add 3 (.tmp 44) (.const (.int .i64 1)) 3) 3,
 So 44 (.move (.tmp 51)) 3] [42, 43, 44])))))))
 (.seq (.ops [So 2 (.assign (.const (.bool true))) 4] [2])
 (.ret)))))
theorem w104 : CW 104 s104 [.tmp 2] := fun hr h => callsV_of_p follows cfgT a104 (fn := Tryz.f104) (c := Tryz.f104.body.getD .skip) (by kernel_rfl) (by kernel_rfl) (by kernel_rfl) (by kernel_rfl) (by kernel_rfl) (sc := s104) (by kernel_rfl) [.tmp 2] (by kernel_rfl) hr h
def a118 : List Ann := [⟨[0], [], []⟩,
 ⟨[2], [], []⟩]
def s118 : SC := .seq (.ops [So 2 (.assign (.const (.bool false))) 4] [0])
 (.seq (.ops [So 3 (.move (.tmp 0)) 3,
 So 4 (.binOp .eql 3 (.tmp 3) (.const (.int .i64 4)) 3) 4,
 So 5 (.move (.tmp 4)) 4,
 Sg 6 (.move (.tmp 0)) 3 5 false,
 Sg 7 (.binOp .eql 3 (.tmp 6) (.const (.int .i64 5)) 3) 4 5 false,
 So 8 (.pick (.tmp 5) (.const (.bool true)) (.tmp 7)) 4,
 So 9 (.move (.tmp 8)) 4,
 Sg 10 (.move (.tmp 0)) 3 9 false,
 Sg 11 (.binOp .eql 3 (.tmp 10) (.const (.int .i64 6)) 3) 4 9 false,
 So 12 (.pick (.tmp 9) (.const (.bool true)) (.tmp 11)) 4,
 So 13 (.move (.tmp 12)) 4,
 Sg 14 (.move (.tmp 0)) 3 13 false,
 Sg 15 (.binOp .eql 3 (.tmp 14) (.const (.int .i64 7)) 3) 4 13 false,
 So 16 (.pick (.tmp 13) (.const (.bool true)) (.tmp 15)) 4,
 So 2 (.assign (.tmp 16)) 4] [2])
 (.ret))
theorem w118 : CW 118 s118 [.tmp 2] := fun hr h => callsV_of_p follows cfgT a118 (fn := Tryz.f118) (c := Tryz.f118.body.getD .skip) (by kernel_rfl) (by kernel_rfl) (by kernel_rfl) (by kernel_rfl) (by kernel_rfl) (sc := s118) (by kernel_rfl) [.tmp 2] (by kernel_rfl) hr h
def a80 : List Ann := [⟨[1], [], []⟩,
 ⟨[1, 3], [], []⟩,
 ⟨[2], [], []⟩,
 ⟨[1, 36], [], []⟩,
 ⟨[2], [], []⟩,
 ⟨[1, 74], [], []⟩,
 ⟨[2], [], []⟩,
 ⟨[2], [], []⟩]
def s80 : SC := .seq (.ops [So 1 (.box 34 (.tmp 0)) 0,
 So 2 (.assign (.const (.bool false))) 4] [1])
 (.seq (.block 0
 (.seq (.ops [So 4 (.fieldAddr 34 (.tmp 1) 0) 0,
 So 5 (.load 3 (.tmp 4)) 3,
 So 6 (.binOp .eql 3 (.tmp 5) (.const (.int .i64 1)) 3) 4,
 So 3 (.assign (.tmp 6)) 4] [1, 3])
 (.cond (.tmp 3)
 (.seq (.ops [So 7 (.fieldAddr 34 (.tmp 1) 3) 0,
 So 8 (.load 32 (.tmp 7)) 32,
 So 9 (.call ⟨.builtin .len, #[.tmp 8], #[32]⟩) 3,
 So 10 (.binOp .eql 3 (.tmp 9) (.const (.int .i64 0)) 3) 4,
 So 11 (.move (.tmp 10)) 4,
 Sg 12 (.fieldAddr 34 (.tmp 1) 1) 0 11 true,
 Sg 13 (.load 30 (.tmp 12)) 30 11 true,
 Sg 14 (.call ⟨.value (.func 117), #[.tmp 13], #[30]⟩) 4 11 true,
 So 15 (.pick (.tmp 11) (.tmp 14) (.const (.bool false))) 4,
 So 16 (.move (.tmp 15)) 4,
 Sg 17 (.fieldAddr 34 (.tmp 1) 2) 0 16 true,
 Sg 18 (.load 31 (.tmp 17)) 31 16 true,
 Sg 19 (.call ⟨.builtin .len, #[.tmp 18], #[31]⟩) 3 16 true,
 Sg 20 (.binOp .eql 3 (.tmp 19) (.const (.int .i64 2)) 3) 4 16 true,
 So 21 (.pick (.tmp 16) (.tmp 20) (.const (.bool false))) 4,
 So 22 (.move (.tmp 21)) 4,
 Sg 23 (.fieldAddr 34 (.tmp 1) 2) 0 22 true,
 Sg 24 (.load 31 (.tmp 23)) 31 22 true,
 Sg 25 (.indexAddr 31 (.tmp 24) (.const (.int .i64 0))) 0 22 true,
 Sg 26 (.load 42 (.tmp 25)) 42 22 true,
 Sg 27 (.call ⟨.value (.func 104), #[.tmp 26], #[42]⟩) 4 22 true,
 So 28 (.pick (.tmp 22) (.tmp 27) (.const (.bool false))) 4,
 So 29 (.move (.tmp 28)) 4,
 Sg 30 (.fieldAddr 34 (.tmp 1) 2) 0 29 true,
 Sg 31 (.load 31 (.tmp 30)) 31 29 true,
 Sg 32 (.indexAddr 31 (.tmp 31) (.const (.int .i64 1))) 0 29 true,
 Sg 33 (.load 42 (.tmp 32)) 42 29 true,
 Sg 34 (.call ⟨.value (.func 104), #[.tmp 33], #[42]⟩) 4 29 true,
 So 35 (.pick (.tmp 29) (.tmp 34) (.const (.bool false))) 4,
 So 2 (.assign (.tmp 35)) 4] [2])
 (.ret))
 (.seq (.ops [So 37 (.fieldAddr 34 (.tmp 1) 0) 0,
 So 38 (.load 3 (.tmp 37)) 3,
 So 39 (.binOp .eql 3 (.tmp 38) (.const (.int .i64 2)) 3) 4,
 So 40 (.move (.tmp 39)) 4,
 Sg 41 (.fieldAddr 34 (.tmp 1) 0) 0 40 false,
 Sg 42 (.load 3 (.tmp 41)) 3 40 false,
 Sg 43 (.binOp .eql 3 (.tmp 42) (.const (.int .i64 3)) 3) 4 40 false,
 So 44 (.pick (.tmp 40) (.const (.bool true)) (.tmp 43)) 4,
 So 36 (.assign (.tmp 44)) 4] [1, 36])
 (.cond (.tmp 36)
 (.seq (.ops [So 45 (.fieldAddr 34 (.tmp 1) 2) 0,
 So 46 (.load 31 (.tmp 45)) 31,
 So 47 (.call ⟨.builtin .len, #[.tmp 46], #[31]⟩) 3,
 So 48 (.binOp .eql 3 (.tmp 47) (.const (.int .i64 0)) 3) 4,
 So 49 (.move (.tmp 48)) 4,
 Sg 50 (.fieldAddr 34 (.tmp 1) 1) 0 49 true,
 Sg 51 (.load 30 (.tmp 50)) 30 49 true,
 Sg 52 (.call ⟨.value (.func 117), #[.tmp 51], #[30]⟩) 4 49 true,
 So 53 (.pick (.tmp 49) (.tmp 52) (.const (.bool false))) 4,
 So 54 (.move (.tmp 53)) 4,
 Sg 55 (.fieldAddr 34 (.tmp 1) 3) 0 54 true,
 Sg 56 (.load 32 (.tmp 55)) 32 54 true,
 Sg 57 (.call ⟨.builtin .len, #[.tmp 56], #[32]⟩) 3 54 true,
 Sg 58 (.binOp .eql 3 (.tmp 57) (.const (.int .i64 2)) 3) 4 54 true,
 So 59 (.pick (.tmp 54) (.tmp 58) (.const (.bool false))) 4,
 So 60 (.move (.tmp 59)) 4,
 Sg 61 (.fieldAddr 34 (.tmp 1) 3) 0 60 true,
 Sg 62 (.load 32 (.tmp 61)) 32 60 true,
 Sg 63 (.indexAddr 32 (.tmp 62) (.const (.int .i64 0))) 0 60 true,
 Sg 64 (.load 34 (.tmp 63)) 34 60 true,
 Sg 65 (.call ⟨.value (.func 80), #[.tmp 64], #[34]⟩) 4 60 true,
 So 66 (.pick (.tmp 60) (.tmp 65) (.const (.bool false))) 4,
 So 67 (.move (.tmp 66)) 4,
 Sg 68 (.fieldAddr 34 (.tmp 1) 3) 0 67 true,
 Sg 69 (.load 32 (.tmp 68)) 32 67 true,
 Sg 70 (.indexAddr 32 (.tmp 69) (.const (.int .i64 1))) 0 67 true,
 Sg 71 (.load 34 (.tmp 70)) 34 67 true,
 Sg 72 (.call ⟨.value (.func 80), #[.tmp 71], #[34]⟩) 4 67 true,
 So 73 (.pick (.tmp 67) (.tmp 72) (.const (.bool false))) 4,
 So 2 (.assign (.tmp 73)) 4] [2])
 (.ret))
 (.seq (.ops [So 75 (.fieldAddr 34 (.tmp 1) 0) 0,
 So 76 (.load 3 (.tmp 75)) 3,
 So 77 (.call ⟨.value (.func 118), #[.tmp 76], #[3]⟩) 4,
 So 74 (.assign (.tmp 77)) 4] [1, 74])
 (.cond (.tmp 74)
 (.seq (.ops [So 78 (.fieldAddr 34 (.tmp 1) 2) 0,
 So 79 (.load 31 (.tmp 78)) 31,
 So 80 (.call ⟨.builtin .len, #[.tmp 79], #[31]⟩) 3,
 So 81 (.binOp .eql 3 (.tmp 80) (.const (.int .i64 0)) 3) 4,
 So 82 (.move (.tmp 81)) 4,
 Sg 83 (.fieldAddr 34 (.tmp 1) 1) 0 82 true,
 Sg 84 (.load 30 (.tmp 83)) 30 82 true,
 Sg 85 (.call ⟨.value (.func 102), #[.tmp 84], #[30]⟩) 36 82 true,
 Sg 86 (.binOp .eql 36 (.tmp 85) (.const (.int .i64 0)) 36) 4 82 true,
 So 87 (.pick (.tmp 82) (.tmp 86) (.const (.bool false))) 4,
 So 88 (.move (.tmp 87)) 4,
 Sg 89 (.fieldAddr 34 (.tmp 1) 3) 0 88 true,
 Sg 90 (.load 32 (.tmp 89)) 32 88 true,
 Sg 91 (.call ⟨.builtin .len, #[.tmp 90], #[32]⟩) 3 88 true,
 Sg 92 (.binOp .eql 3 (.tmp 91) (.const (.int .i64 1)) 3) 4 88 true,
 So 93 (.pick (.tmp 88) (.tmp 92) (.const (.bool false))) 4,
 So 94 (.move (.tmp 93)) 4,
 Sg 95 (.fieldAddr 34 (.tmp 1) 3) 0 94 true,
 Sg 96 (.load 32 (.tmp 95)) 32 94 true,
 Sg 97 (.indexAddr 32 (.tmp 96) (.const (.int .i64 0))) 0 94 true,
 Sg 98 (.load 34 (.tmp 97)) 34 94 true,
 Sg 99 (.call ⟨.value (.func 80), #[.tmp 98], #[34]⟩) 4 94 true,
 So 100 (.pick (.tmp 94) (.tmp 99) (.const (.bool false))) 4,
 So 2 (.assign (.tmp 100)) 4] [2])
 (.ret))
 (.skip))))))))
 (.seq (.ops [So 2 (.assign (.const (.bool false))) 4] [2])
 (.ret)))
theorem w80 : CW 80 s80 [.tmp 2] := fun hr h => callsV_of_p follows cfgT a80 (fn := Tryz.f80) (c := Tryz.f80.body.getD .skip) (by kernel_rfl) (by kernel_rfl) (by kernel_rfl) (by kernel_rfl) (by kernel_rfl) (sc := s80) (by kernel_rfl) [.tmp 2] (by kernel_rfl) hr h
def a34 : List Ann := [⟨[1], [], []⟩,
 ⟨[1, 5], [], []⟩,
 ⟨[2], [], []⟩,
 ⟨[8], [], []⟩,
 ⟨[2], [], []⟩,
 ⟨[2], [], []⟩]
def s34 : SC := .seq (.ops [So 1 (.box 34 (.tmp 0)) 0,
 So 2 (.assign (.const (.int .i64 0))) 36] [1])
 (.seq (.seq (.ops [So 3 (.load 34 (.tmp 1)) 34,
 So 4 (.call ⟨.value (.func 80), #[.tmp 3], #[34]⟩) 4,
 So 5 (.unOp .not 4 (.tmp 4)) 4] [1, 5])
 (.cond (.tmp 5)
 (.seq (.ops [So 2 (.assign (.const (.int .i64 2))) 36] [2])
 (.ret))
 (.skip)))
 (.seq (.seq (.ops [So 6 (.load 34 (.tmp 1)) 34,
 So 7 (.call ⟨.value (.func 60), #[.tmp 6], #[34]⟩) 3,
 So 8 (.binOp .gtr 3 (.tmp 7) (.const (.int .i64 4096)) 3) 4] [8])
 (.cond (.tmp 8)
 (.seq (.ops [So 2 (.assign (.const (.int .i64 4))) 36] [2])
 (.ret))
 (.skip)))
 (.seq (.ops [So 2 (.assign (.const (.int .i64 0))) 36] [2])
 (.ret))))
theorem w34 : CW 34 s34 [.tmp 2] := fun hr h => callsV_of_p follows cfgT a34 (fn := Tryz.f34) (c := Tryz.f34.body.getD .skip) (by kernel_rfl) (by kernel_rfl) (by kernel_rfl) (by kernel_rfl) (by kernel_rfl) (sc := s34) (by kernel_rfl) [.tmp 2] (by kernel_rfl) hr h
def a53 : List Ann := [⟨[1], [], []⟩,
 ⟨[1, 4], [], []⟩,
 ⟨[1, 4, 5], [], []⟩,
 ⟨[2], [], []⟩,
 ⟨[1, 4, 7], [], []⟩,
 ⟨[2], [], []⟩,
 ⟨[1, 21], [], []⟩,
 ⟨[2], [], []⟩,
 ⟨[2], [], []⟩]
def s53 : SC := .seq (.ops [So 1 (.box 34 (.tmp 0)) 0,
 So 2 (.assign (.const (.bool false))) 4] [1])
 (.seq (.seq (.ops [So 3 (.fieldAddr 34 (.tmp 1) 0) 0,
 So 4 (.load 3 (.tmp 3)) 3] [1, 4])
 (.block 0
 (.seq (.ops [So 6 (.binOp .eql 3 (.tmp 4) (.const (.int .i64 1)) 3) 4,
 So 5 (.assign (.tmp 6)) 4] [1, 4, 5])
 (.cond (.tmp 5)
 (.seq (.ops [So 2 (.assign (.const (.bool false))) 4] [2])
 (.ret))
 (.seq (.ops [So 8 (.binOp .eql 3 (.tmp 4) (.const (.int .i64 2)) 3) 4,
 So 7 (.assign (.tmp 8)) 4] [1, 4, 7])
 (.cond (.tmp 7)
 (.seq (.ops [So 9 (.fieldAddr 34 (.tmp 1) 3) 0,
 So 10 (.load 32 (.tmp 9)) 32,
 So 11 (.indexAddr 32 (.tmp 10) (.const (.int .i64 0))) 0,
 So 12 (.load 34 (.tmp 11)) 34,
 So 13 (.call ⟨.value (.func 53), #[.tmp 12], #[34]⟩) 4,
 So 14 (.move (.tmp 13)) 4,
 Sg 15 (.fieldAddr 34 (.tmp 1) 3) 0 14 false,
 Sg 16 (.load 32 (.tmp 15)) 32 14 false,
 Sg 17 (.indexAddr 32 (.tmp 16) (.const (.int .i64 1))) 0 14 false,
 Sg 18 (.load 34 (.tmp 17)) 34 14 false,
 Sg 19 (.call ⟨.value (.func 53), #[.tmp 18], #[34]⟩) 4 14 false,
 So 20 (.pick (.tmp 14) (.const (.bool true)) (.tmp 19)) 4,
 So 2 (.assign (.tmp 20)) 4] [2])
 (.ret))
 (.seq (.ops [So 22 (.binOp .eql 3 (.tmp 4) (.const (.int .i64 5)) 3) 4,
 So 21 (.assign (.tmp 22)) 4] [1, 21])
 (.cond (.tmp 21)
 (.seq (.ops [So 2 (.assign (.const (.bool true))) 4] [2])
 (.ret))
 (.skip)))))))))
 (.seq (.ops [So 23 (.fieldAddr 34 (.tmp 1) 3) 0,
 So 24 (.load 32 (.tmp 23)) 32,
 So 25 (.fieldAddr 34 (.tmp 1) 3) 0,
 So 26 (.load 32 (.tmp 25)) 32,
 So 27 (.call ⟨.builtin .len, #[.tmp 26], #[32]⟩) 3,
 So 28 (.binOp .sub 3 (.tmp 27) (.const (.int .i64 1)) 3) 3,
 So 29 (.indexAddr 32 (.tmp 24) (.tmp 28)) 0,
 So 30 (.load 34 (.tmp 29)) 34,
 So 31 (.call ⟨.value (.func 53), #[.tmp 30], #[34]⟩) 4,
 So 2 (.assign (.tmp 31)) 4] [2])
 (.ret)))
theorem w53 : CW 53 s53 [.tmp 2] := fun hr h => callsV_of_p follows cfgT a53 (fn := Tryz.f53) (c := Tryz.f53.body.getD .skip) (by kernel_rfl) (by kernel_rfl) (by kernel_rfl) (by kernel_rfl) (by kernel_rfl) (sc := s53) (by kernel_rfl) [.tmp 2] (by kernel_rfl) hr h
def a16 : List Ann := [⟨[1], [], []⟩,
 ⟨[1, 4], [], []⟩,
 ⟨[1, 4, 8], [], []⟩,
 ⟨[2, 3], [], []⟩,
 ⟨[2, 3], [], []⟩]
def s16 : SC := .seq (.ops [So 1 (.box 34 (.tmp 0)) 0,
 So 2 (.assign (.const (.bool false))) 4,
 So 3 (.assign (.const (.int .i64 0))) 36] [1])
 (.seq (.seq (.ops [So 5 (.load 34 (.tmp 1)) 34,
 So 6 (.call ⟨.value (.func 34), #[.tmp 5], #[34]⟩) 36,
 So 4 (.assign (.tmp 6)) 36] [1, 4])
 (.seq (.ops [So 7 (.move (.tmp 4)) 36,
 So 8 (.binOp .neq 36 (.tmp 7) (.const (.int .i64 0)) 36) 4] [1, 4, 8])
 (.cond (.tmp 8)
 (.seq (.ops [So 9 (.move (.tmp 4)) 36,
 So 2 (.assign (.const (.bool false))) 4,
 So 3 (.assign (.tmp 9)) 36] [2, 3])
 (.ret))
 (.skip))))
 (.seq (.ops [So 10 (.load 34 (.tmp 1)) 34,
 So 11 (.call ⟨.value (.func 53), #[.tmp 10], #[34]⟩) 4,
 So 2 (.assign (.tmp 11)) 4,
 So 3 (.assign (.const (.int .i64 0))) 36] [2, 3])
 (.ret)))
theorem w16 : CW 16 s16 [.tmp 2, .tmp 3] := fun hr h => callsV_of_p follows cfgT a16 (fn := Tryz.f16) (c := Tryz.f16.body.getD .skip) (by kernel_rfl) (by kernel_rfl) (by kernel_rfl) (by kernel_rfl) (by kernel_rfl) (sc := s16) (by kernel_rfl) [.tmp 2, .tmp 3] (by kernel_rfl) hr h
def a26 : List Ann := [⟨[1], [], []⟩,
 ⟨[3], [], []⟩,
 ⟨[2], [], []⟩]
def s26 : SC := .seq (.ops [So 1 (.box 34 (.tmp 0)) 0,
 So 2 (.assign (.const (.bool false))) 4] [1])
 (.seq (.ops [So 6 (.load 34 (.tmp 1)) 34,
 So 7 (.call ⟨.value (.func 16), #[.tmp 6], #[34]⟩) 44,
 So 5 (.move (.tmp 7)) 44,
 So 8 (.extract (.tmp 5) 0) 4,
 So 9 (.extract (.tmp 5) 1) 36,
 So 3 (.assign (.tmp 8)) 4,
 So 4 (.assign (.tmp 9)) 36] [3])
 (.seq (.ops [So 10 (.move (.tmp 3)) 4,
 So 2 (.assign (.tmp 10)) 4] [2])
 (.ret)))
theorem w26 : CW 26 s26 [.tmp 2] := fun hr h => callsV_of_p follows cfgT a26 (fn := Tryz.f26) (c := Tryz.f26.body.getD .skip) (by kernel_rfl) (by kernel_rfl) (by kernel_rfl) (by kernel_rfl) (by kernel_rfl) (sc := s26) (by kernel_rfl) [.tmp 2] (by kernel_rfl) hr h
def a81 : List Ann := [⟨[0], [], []⟩,
 ⟨[0], [], []⟩]
def s81 : SC := .seq (.ops [So 0 (.alloc 30) 0] [0])
 (.seq (.ops [So 1 (.build 30 #[(0, .const (.int .i64 5))]) 30,
 Sn (.store 30 (.tmp 0) (.tmp 1)) 0] [0])
 (.ret))
theorem w81 : CW 81 s81 [.cell 0 30] := fun hr h => callsV_of_p follows cfgT a81 (fn := Tryz.f81) (c := Tryz.f81.body.getD .skip) (by kernel_rfl) (by kernel_rfl) (by kernel_rfl) (by kernel_rfl) (by kernel_rfl) (sc := s81) (by kernel_rfl) [.cell 0 30] (by kernel_rfl) hr h
def a119 : List Ann := [⟨[1], [], []⟩,
 ⟨[1, 4], [], []⟩,
 ⟨[1, 4, 8], [], []⟩,
 ⟨[2, 3], [], []⟩,
 ⟨[2, 3], [], []⟩]
def s119 : SC := .seq (.ops [So 1 (.box 30 (.tmp 0)) 0,
 So 2 (.assign (.const (.int .i64 0))) 3,
 So 3 (.assign (.const (.int .i64 0))) 36] [1])
 (.seq (.seq (.ops [So 5 (.load 30 (.tmp 1)) 30,
 So 6 (.call ⟨.value (.func 102), #[.tmp 5], #[30]⟩) 36,
 So 4 (.assign (.tmp 6)) 36] [1, 4])
 (.seq (.ops [So 7 (.move (.tmp 4)) 36,
 So 8 (.binOp .neq 36 (.tmp 7) (.const (.int .i64 0)) 36) 4] [1, 4, 8])
 (.cond (.tmp 8)
 (.seq (.ops [So 9 (.move (.tmp 4)) 36,
 So 2 (.assign (.const (.int .i64 0))) 3,
 So 3 (.assign (.tmp 9)) 36] [2, 3])
 (.ret))
 (.skip))))
 (.seq (.ops [So 10 (.load 30 (.tmp 1)) 30,
 So 11 (.call ⟨.value (.func 130), #[.tmp 10], #[30]⟩) 3,
 So 2 (.assign (.tmp 11)) 3,
 So 3 (.assign (.const (.int .i64 0))) 36] [2, 3])
 (.ret)))
theorem w119 : CW 119 s119 [.tmp 2, .tmp 3] := fun hr h => callsV_of_p follows cfgT a119 (fn := Tryz.f119) (c := Tryz.f119.body.getD .skip) (by kernel_rfl) (by kernel_rfl) (by kernel_rfl) (by kernel_rfl) (by kernel_rfl) (sc := s119) (by kernel_rfl) [.tmp 2, .tmp 3] (by kernel_rfl) hr h
def a82 : List Ann := [⟨[1, 2, 4], [], []⟩,
 ⟨[1, 2, 4, 7], [], []⟩,
 ⟨[4, 5], [], []⟩,
 ⟨[1, 2, 4], [], []⟩,
 ⟨[1, 2, 4, 16], [], []⟩,
 ⟨[4, 5], [], []⟩,
 ⟨[4, 5], [], []⟩]
def s82 : SC := .seq (.ops [So 2 (.box 30 (.tmp 0)) 0,
 So 4 (.alloc 30) 0,
 So 5 (.assign (.const (.int .i64 0))) 36] [1, 2, 4])
 (.seq (.seq (.ops [So 6 (.move (.tmp 1)) 36,
 So 7 (.binOp .neq 36 (.tmp 6) (.const (.int .i64 0)) 36) 4] [1, 2, 4, 7])
 (.cond (.tmp 7)
 (.seq (.ops [So 8 (.build 30 #[]) 30,
 So 9 (.move (.tmp 1)) 36,
 Sn (.store 30 (.tmp 4) (.tmp 8)) 0,
 So 5 (.assign (.tmp 9)) 36] [4, 5])
 (.ret))
 (.skip)))
 (.seq (.seq (.ops [So 11 (.load 30 (.tmp 2)) 30,
 So 12 (.call ⟨.value (.func 119), #[.tmp 11], #[30]⟩) 102,
 So 10 (.move (.tmp 12)) 102,
 So 13 (.extract (.tmp 10) 0) 3,
 So 14 (.extract (.tmp 10) 1) 36,
 So 1 (.assign (.tmp 14)) 36] [1, 2, 4])
 (.seq (.ops [So 15 (.move (.tmp 1)) 36,
 So 16 (.binOp .neq 36 (.tmp 15) (.const (.int .i64 0)) 36) 4] [1, 2, 4, 16])
 (.cond (.tmp 16)
 (.seq (.ops [So 17 (.build 30 #[]) 30,
 So 18 (.move (.tmp 1)) 36,
 Sn (.store 30 (.tmp 4) (.tmp 17)) 0,
 So 5 (.assign (.tmp 18)) 36] [4, 5])
 (.ret))
 (.skip))))
 (.seq (.ops [So 19 (.load 30 (.tmp 2)) 30,
 Sn (.store 30 (.tmp 4) (.tmp 19)) 0,
 So 5 (.assign (.const (.int .i64 0))) 36] [4, 5])
 (.ret))))
theorem w82 : CW 82 s82 [.cell 4 30, .tmp 5] := fun hr h => callsV_of_p follows cfgT a82 (fn := Tryz.f82) (c := Tryz.f82.body.getD .skip) (by kernel_rfl) (by kernel_rfl) (by kernel_rfl) (by kernel_rfl) (by kernel_rfl) (sc := s82) (by kernel_rfl) [.cell 4 30, .tmp 5] (by kernel_rfl) hr h
def a83 : List Ann := [⟨[2, 3, 4], [], []⟩,
 ⟨[4], [], []⟩]
def s83 : SC := .seq (.ops [So 2 (.box 30 (.tmp 0)) 0,
 So 3 (.box 30 (.tmp 1)) 0,
 So 4 (.alloc 30) 0] [2, 3, 4])
 (.seq (.ops [So 5 (.load 30 (.tmp 2)) 30,
 So 6 (.load 30 (.tmp 3)) 30,
 So 7 (.buildSlice 27 2 #[(0, .tmp 5), (1, .tmp 6)]) 27,
 So 8 (.build 30 #[(0, .const (.int .i64 3)), (1, .tmp 7)]) 30,
 Sn (.store 30 (.tmp 4) (.tmp 8)) 0] [4])
 (.ret))
theorem w83 : CW 83 s83 [.cell 4 30] := fun hr h => callsV_of_p follows cfgT a83 (fn := Tryz.f83) (c := Tryz.f83.body.getD .skip) (by kernel_rfl) (by kernel_rfl) (by kernel_rfl) (by kernel_rfl) (by kernel_rfl) (sc := s83) (by kernel_rfl) [.cell 4 30] (by kernel_rfl) hr h
def a84 : List Ann := [⟨[2, 3, 4], [], []⟩,
 ⟨[4], [], []⟩]
def s84 : SC := .seq (.ops [So 2 (.box 30 (.tmp 0)) 0,
 So 3 (.box 30 (.tmp 1)) 0,
 So 4 (.alloc 30) 0] [2, 3, 4])
 (.seq (.ops [So 5 (.load 30 (.tmp 2)) 30,
 So 6 (.load 30 (.tmp 3)) 30,
 So 7 (.buildSlice 27 2 #[(0, .tmp 5), (1, .tmp 6)]) 27,
 So 8 (.build 30 #[(0, .const (.int .i64 4)), (1, .tmp 7)]) 30,
 Sn (.store 30 (.tmp 4) (.tmp 8)) 0] [4])
 (.ret))
theorem w84 : CW 84 s84 [.cell 4 30] := fun hr h => callsV_of_p follows cfgT a84 (fn := Tryz.f84) (c := Tryz.f84.body.getD .skip) (by kernel_rfl) (by kernel_rfl) (by kernel_rfl) (by kernel_rfl) (by kernel_rfl) (sc := s84) (by kernel_rfl) [.cell 4 30] (by kernel_rfl) hr h
def a35 : List Ann := [⟨[1, 2], [], []⟩,
 ⟨[1, 2, 16], [], []⟩,
 ⟨[2, 3], [], []⟩,
 ⟨[1, 2, 19], [], []⟩,
 ⟨[1, 2, 19, 20], [], []⟩,
 ⟨[1, 2, 27], [], []⟩,
 ⟨[2, 3], [], []⟩,
 ⟨[1, 2, 40], [], []⟩,
 ⟨[2, 3], [], []⟩,
 ⟨[1, 2, 4, 5], [], []⟩,
 ⟨[1, 2, 4, 5, 57], [], []⟩,
 ⟨[2, 3], [], []⟩,
 ⟨[2, 4, 5, 6], [], []⟩,
 ⟨[2, 3], [], []⟩,
 ⟨[1, 2, 19, 75], [], []⟩,
 ⟨[1, 2, 82], [], []⟩,
 ⟨[2, 3], [], []⟩,
 ⟨[1, 2, 7, 8], [], []⟩,
 ⟨[1, 2, 7, 8, 99], [], []⟩,
 ⟨[2, 3], [], []⟩,
 ⟨[2, 7, 8, 9], [], []⟩,
 ⟨[2, 3], [], []⟩,
 ⟨[1, 2, 19, 117], [], []⟩,
 ⟨[1, 2, 10, 11], [], []⟩,
 ⟨[2, 3], [], []⟩,
 ⟨[1, 2, 135], [], []⟩,
 ⟨[1, 2, 142], [], []⟩,
 ⟨[2, 3], [], []⟩,
 ⟨[1, 2, 12, 13], [], []⟩,
 ⟨[2, 3], [], []⟩,
 ⟨[2, 3], [], []⟩]
def s35 : SC := .seq (.ops [So 1 (.box 34 (.tmp 0)) 0,
 So 2 (.alloc 30) 0,
 So 3 (.assign (.const (.int .i64 0))) 36] [1, 2])
 (.seq (.seq (.ops [So 14 (.load 34 (.tmp 1)) 34,
 So 15 (.call ⟨.value (.func 26), #[.tmp 14], #[34]⟩) 4,
 So 16 (.unOp .not 4 (.tmp 15)) 4] [1, 2, 16])
 (.cond (.tmp 16)
 (.seq (.ops [So 17 (.call ⟨.value (.func 81), #[], #[]⟩) 30,
 Sn (.store 30 (.tmp 2) (.tmp 17)) 0,
 So 3 (.assign (.const (.int .i64 0))) 36] [2, 3])
 (.ret))
 (.skip)))
 (.seq (.seq (.ops [So 18 (.fieldAddr 34 (.tmp 1) 0) 0,
 So 19 (.load 3 (.tmp 18)) 3] [1, 2, 19])
 (.block 0
 (.seq (.ops [So 21 (.binOp .eql 3 (.tmp 19) (.const (.int .i64 2)) 3) 4,
 So 20 (.assign (.tmp 21)) 4] [1, 2, 19, 20])
 (.cond (.tmp 20)
 (.seq (.seq (.ops [So 22 (.fieldAddr 34 (.tmp 1) 3) 0,
 So 23 (.load 32 (.tmp 22)) 32,
 So 24 (.indexAddr 32 (.tmp 23) (.const (.int .i64 0))) 0,
 So 25 (.load 34 (.tmp 24)) 34,
 So 26 (.call ⟨.value (.func 26), #[.tmp 25], #[34]⟩) 4,
 So 27 (.unOp .not 4 (.tmp 26)) 4] [1, 2, 27])
 (.cond (.tmp 27)
 (.seq (.ops [So 28 (.fieldAddr 34 (.tmp 1) 3) 0,
 So 29 (.load 32 (.tmp 28)) 32,
 So 30 (.indexAddr 32 (.tmp 29) (.const (.int .i64 1))) 0,
 So 31 (.load 34 (.tmp 30)) 34,
 So 32 (.call ⟨.value (.func 35), #[.tmp 31], #[34]⟩) 37,
 So 33 (.extract (.tmp 32) 0) 30,
 So 34 (.extract (.tmp 32) 1) 36,
 Sn (.store 30 (.tmp 2) (.tmp 33)) 0,
 So 3 (.assign (.tmp 34)) 36] [2, 3])
 (.ret))
 (.skip)))
 (.seq (.seq (.ops [So 35 (.fieldAddr 34 (.tmp 1) 3) 0,
 So 36 (.load 32 (.tmp 35)) 32,
 So 37 (.indexAddr 32 (.tmp 36) (.const (.int .i64 1))) 0,
 So 38 (.load 34 (.tmp 37)) 34,
 So 39 (.call ⟨.value (.func 26), #[.tmp 38], #[34]⟩) 4,
 So 40 (.unOp .not 4 (.tmp 39)) 4] [1, 2, 40])
 (.cond (.tmp 40)
 (.seq (.ops [So 41 (.fieldAddr 34 (.tmp 1) 3) 0,
 So 42 (.load 32 (.tmp 41)) 32,
 So 43 (.indexAddr 32 (.tmp 42) (.const (.int .i64 0))) 0,
 So 44 (.load 34 (.tmp 43)) 34,
 So 45 (.call ⟨.value (.func 35), #[.tmp 44], #[34]⟩) 37,
 So 46 (.extract (.tmp 45) 0) 30,
 So 47 (.extract (.tmp 45) 1) 36,
 Sn (.store 30 (.tmp 2) (.tmp 46)) 0,
 So 3 (.assign (.tmp 47)) 36] [2, 3])
 (.ret))
 (.skip)))
 (.seq (.ops [So 49 (.fieldAddr 34 (.tmp 1) 3) 0,
 So 50 (.load 32 (.tmp 49)) 32,
 So 51 (.indexAddr 32 (.tmp 50) (.const (.int .i64 0))) 0,
 So 52 (.load 34 (.tmp 51)) 34,
 So 53 (.call ⟨.value (.func 35), #[.tmp 52], #[34]⟩) 37,
 So 48 (.move (.tmp 53)) 37,
 So 54 (.extract (.tmp 48) 0) 30,
 So 55 (.extract (.tmp 48) 1) 36,
 So 4 (.alloc 30) 0,
 Sn (.store 30 (.tmp 4) (.tmp 54)) 0,
 So 5 (.assign (.tmp 55)) 36] [1, 2, 4, 5])
 (.seq (.seq (.ops [So 56 (.move (.tmp 5)) 36,
 So 57 (.binOp .neq 36 (.tmp 56) (.const (.int .i64 0)) 36) 4] [1, 2, 4, 5, 57])
 (.cond (.tmp 57)
 (.seq (.ops [So 58 (.build 30 #[]) 30,
 So 59 (.move (.tmp 5)) 36,
 Sn (.store 30 (.tmp 2) (.tmp 58)) 0,
 So 3 (.assign (.tmp 59)) 36] [2, 3])
 (.ret))
 (.skip)))
 (.seq (.ops [So 61 (.fieldAddr 34 (.tmp 1) 3) 0,
 So 62 (.load 32 (.tmp 61)) 32,
 So 63 (.indexAddr 32 (.tmp 62) (.const (.int .i64 1))) 0,
 So 64 (.load 34 (.tmp 63)) 34,
 So 65 (.call ⟨.value (.func 35), #[.tmp 64], #[34]⟩) 37,
 So 60 (.move (.tmp 65)) 37,
 So 66 (.extract (.tmp 60) 0) 30,
 So 67 (.extract (.tmp 60) 1) 36,
 So 6 (.alloc 30) 0,
 Sn (.store 30 (.tmp 6) (.tmp 66)) 0,
 So 5 (.assign (.tmp 67)) 36] [2, 4, 5, 6])
 (.seq (.ops [So 68 (.load 30 (.tmp 4)) 30,
 So 69 (.load 30 (.tmp 6)) 30,
 So 70 (.call ⟨.value (.func 83), #[.tmp 68, .tmp 69], #[30, 30]⟩) 30,
 So 71 (.move (.tmp 5)) 36,
 So 72 (.call ⟨.value (.func 82), #[.tmp 70, .tmp 71], #[30, 36]⟩) 37,
 So 73 (.extract (.tmp 72) 0) 30,
 So 74 (.extract (.tmp 72) 1) 36,
 Sn (.store 30 (.tmp 2) (.tmp 73)) 0,
 So 3 (.assign (.tmp 74)) 36] [2, 3])
 (.ret)))))))
 (.seq (.ops [So 76 (.binOp .eql 3 (.tmp 19) (.const (.int .i64 3)) 3) 4,
 So 75 (.assign (.tmp 76)) 4] [1, 2, 19, 75])
 (.cond (.tmp 75)
 (.seq (.seq (.ops [So 77 (.fieldAddr 34 (.tmp 1) 3) 0,
 So 78 (.load 32 (.tmp 77)) 32,
 So 79 (.indexAddr 32 (.tmp 78) (.const (.int .i64 0))) 0,
 So 80 (.load 34 (.tmp 79)) 34,
 So 81 (.call ⟨.value (.func 26), #[.tmp 80], #[34]⟩) 4,
 So 82 (.unOp .not 4 (.tmp 81)) 4] [1, 2, 82])
 (.cond (.tmp 82)
 (.seq (.ops [So 83 (.fieldAddr 34 (.tmp 1) 3) 0,
 So 84 (.load 32 (.tmp 83)) 32,
 So 85 (.indexAddr 32 (.tmp 84) (.const (.int .i64 1))) 0,
 So 86 (.load 34 (.tmp 85)) 34,
 So 87 (.call ⟨.value (.func 35), #[.tmp 86], #[34]⟩) 37,
 So 88 (.extract (.tmp 87) 0) 30,
 So 89 (.extract (.tmp 87) 1) 36,
 Sn (.store 30 (.tmp 2) (.tmp 88)) 0,
 So 3 (.assign (.tmp 89)) 36] [2, 3])
 (.ret))
 (.skip)))
 (.seq (.ops [So 91 (.fieldAddr 34 (.tmp 1) 3) 0,
 So 92 (.load 32 (.tmp 91)) 32,
 So 93 (.indexAddr 32 (.tmp 92) (.const (.int .i64 0))) 0,
 So 94 (.load 34 (.tmp 93)) 34,
 So 95 (.call ⟨.value (.func 35), #[.tmp 94], #[34]⟩) 37,
 So 90 (.move (.tmp 95)) 37,
 So 96 (.extract (.tmp 90) 0) 30,
 So 97 (.extract (.tmp 90) 1) 36,
 So 7 (.alloc 30) 0,
 Sn (.store 30 (.tmp 7) (.tmp 96)) 0,
 So 8 (.assign (.tmp 97)) 36] [1, 2, 7, 8])
 (.seq (.seq (.ops [So 98 (.move (.tmp 8)) 36,
 So 99 (.binOp .neq 36 (.tmp 98) (.const (.int .i64 0)) 36) 4] [1, 2, 7, 8, 99])
 (.cond (.tmp 99)
 (.seq (.ops [So 100 (.build 30 #[]) 30,
 So 101 (.move (.tmp 8)) 36,
 Sn (.store 30 (.tmp 2) (.tmp 100)) 0,
 So 3 (.assign (.tmp 101)) 36] [2, 3])
 (.ret))
 (.skip)))
 (.seq (.ops [So 103 (.fieldAddr 34 (.tmp 1) 3) 0,
 So 104 (.load 32 (.tmp 103)) 32,
 So 105 (.indexAddr 32 (.tmp 104) (.const (.int .i64 1))) 0,
 So 106 (.load 34 (.tmp 105)) 34,
 So 107 (.call ⟨.value (.func 35), #[.tmp 106], #[34]⟩) 37,
 So 102 (.move (.tmp 107)) 37,
 So 108 (.extract (.tmp 102) 0) 30,
 So 109 (.extract (.tmp 102) 1) 36,
 So 9 (.alloc 30) 0,
 Sn (.store 30 (.tmp 9) (.tmp 108)) 0,
 So 8 (.assign (.tmp 109)) 36] [2, 7, 8, 9])
 (.seq (.ops [So 110 (.load 30 (.tmp 7)) 30,
 So 111 (.load 30 (.tmp 9)) 30,
 So 112 (.call ⟨.value (.func 84), #[.tmp 110, .tmp 111], #[30, 30]⟩) 30,
 So 113 (.move (.tmp 8)) 36,
 So 114 (.call ⟨.value (.func 82), #[.tmp 112, .tmp 113], #[30, 36]⟩) 37,
 So 115 (.extract (.tmp 114) 0) 30,
 So 116 (.extract (.tmp 114) 1) 36,
 Sn (.store 30 (.tmp 2) (.tmp 115)) 0,
 So 3 (.assign (.tmp 116)) 36] [2, 3])
 (.ret))))))
 (.seq (.ops [So 118 (.binOp .eql 3 (.tmp 19) (.const (.int .i64 4)) 3) 4,
 So 117 (.assign (.tmp 118)) 4] [1, 2, 19, 117])
 (.cond (.tmp 117)
 (.seq (.ops [So 120 (.fieldAddr 34 (.tmp 1) 3) 0,
 So 121 (.load 32 (.tmp 120)) 32,
 So 122 (.indexAddr 32 (.tmp 121) (.const (.int .i64 0))) 0,
 So 123 (.load 34 (.tmp 122)) 34,
 So 124 (.call ⟨.value (.func 35), #[.tmp 123], #[34]⟩) 37,
 So 119 (.move (.tmp 124)) 37,
 So 125 (.extract (.tmp 119) 0) 30,
 So 126 (.extract (.tmp 119) 1) 36,
 So 10 (.alloc 30) 0,
 Sn (.store 30 (.tmp 10) (.tmp 125)) 0,
 So 11 (.assign (.tmp 126)) 36] [1, 2, 10, 11])
 (.seq (.ops [So 127 (.fieldAddr 34 (.tmp 1) 1) 0,
 So 128 (.load 30 (.tmp 127)) 30,
 So 129 (.load 30 (.tmp 10)) 30,
 So 130 (.call ⟨.value (.func 84), #[.tmp 128, .tmp 129], #[30, 30]⟩) 30,
 So 131 (.move (.tmp 11)) 36,
 So 132 (.call ⟨.value (.func 82), #[.tmp 130, .tmp 131], #[30, 36]⟩) 37,
 So 133 (.extract (.tmp 132) 0) 30,
 So 134 (.extract (.tmp 132) 1) 36,
 Sn (.store 30 (.tmp 2) (.tmp 133)) 0,
 So 3 (.assign (.tmp 134)) 36] [2, 3])
 (.ret)))
 (.seq (.ops [So 136 (.binOp .eql 3 (.tmp 19) (.const (.int .i64 5)) 3) 4,
 So 135 (.assign (.tmp 136)) 4] [1, 2, 135])
 (.cond (.tmp 135)
 (.seq (.seq (.ops [So 137 (.fieldAddr 34 (.tmp 1) 3) 0,
 So 138 (.load 32 (.tmp 137)) 32,
 So 139 (.indexAddr 32 (.tmp 138) (.const (.int .i64 0))) 0,
 So 140 (.load 34 (.tmp 139)) 34,
 So 141 (.call ⟨.value (.func 26), #[.tmp 140], #[34]⟩) 4,
 So 142 (.unOp .not 4 (.tmp 141)) 4] [1, 2, 142])
 (.cond (.tmp 142)
 (.seq (.ops [So 143 (.fieldAddr 34 (.tmp 1) 1) 0,
 So 144 (.load 30 (.tmp 143)) 30,
 Sn (.store 30 (.tmp 2) (.tmp 144)) 0,
 So 3 (.assign (.const (.int .i64 0))) 36] [2, 3])
 (.ret))
 (.skip)))
 (.seq (.ops [So 146 (.fieldAddr 34 (.tmp 1) 3) 0,
 So 147 (.load 32 (.tmp 146)) 32,
 So 148 (.indexAddr 32 (.tmp 147) (.const (.int .i64 0))) 0,
 So 149 (.load 34 (.tmp 148)) 34,
 So 150 (.call ⟨.value (.func 35), #[.tmp 149], #[34]⟩) 37,
 So 145 (.move (.tmp 150)) 37,
 So 151 (.extract (.tmp 145) 0) 30,
 So 152 (.extract (.tmp 145) 1) 36,
 So 12 (.alloc 30) 0,
 Sn (.store 30 (.tmp 12) (.tmp 151)) 0,
 So 13 (.assign (.tmp 152)) 36] [1, 2, 12, 13])
 (.seq (.ops [So 153 (.fieldAddr 34 (.tmp 1) 1) 0,
 So 154 (.load 30 (.tmp 153)) 30,
 So 155 (.load 30 (.tmp 12)) 30,
 So 156 (.call ⟨.value (.func 83), #[.tmp 154, .tmp 155], #[30, 30]⟩) 30,
 So 157 (.move (.tmp 13)) 36,
 So 158 (.call ⟨.value (.func 82), #[.tmp 156, .tmp 157], #[30, 36]⟩) 37,
 So 159 (.extract (.tmp 158) 0) 30,
 So 160 (.extract (.tmp 158) 1) 36,
 Sn (.store 30 (.tmp 2) (.tmp 159)) 0,
 So 3 (.assign (.tmp 160)) 36] [2, 3])
 (.ret))))
 (.skip)))))))))))
 (.seq (.ops [So 161 (.fieldAddr 34 (.tmp 1) 3) 0,
 So 162 (.load 32 (.tmp 161)) 32,
 So 163 (.indexAddr 32 (.tmp 162) (.const (.int .i64 0))) 0,
 So 164 (.load 34 (.tmp 163)) 34,
 So 165 (.call ⟨.value (.func 35), #[.tmp 164], #[34]⟩) 37,
 So 166 (.extract (.tmp 165) 0) 30,
 So 167 (.extract (.tmp 165) 1) 36,
 Sn (.store 30 (.tmp 2) (.tmp 166)) 0,
 So 3 (.assign (.tmp 167)) 36] [2, 3])
 (.ret))))
theorem w35 : CW 35 s35 [.cell 2 30, .tmp 3] := fun hr h => callsV_of_p follows cfgT a35 (fn := Tryz.f35) (c := Tryz.f35.body.getD .skip) (by kernel_rfl) (by kernel_rfl) (by kernel_rfl) (by kernel_rfl) (by kernel_rfl) (sc := s35) (by kernel_rfl) [.cell 2 30, .tmp 3] (by kernel_rfl) hr h
def a13 : List Ann := [⟨[1, 2], [], []⟩,
 ⟨[1, 2, 4], [], []⟩,
 ⟨[1, 2, 4, 8], [], []⟩,
 ⟨[2, 3], [], []⟩,
 ⟨[2, 3], [], []⟩]
def s13 : SC := .seq (.ops [So 1 (.box 34 (.tmp 0)) 0,
 So 2 (.alloc 30) 0,
 So 3 (.assign (.const (.int .i64 0))) 36] [1, 2])
 (.seq (.seq (.ops [So 5 (.load 34 (.tmp 1)) 34,
 So 6 (.call ⟨.value (.func 34), #[.tmp 5], #[34]⟩) 36,
 So 4 (.assign (.tmp 6)) 36] [1, 2, 4])
 (.seq (.ops [So 7 (.move (.tmp 4)) 36,
 So 8 (.binOp .neq 36 (.tmp 7) (.const (.int .i64 0)) 36) 4] [1, 2, 4, 8])
 (.cond (.tmp 8)
 (.seq (.ops [So 9 (.build 30 #[]) 30,
 So 10 (.move (.tmp 4)) 36,
 Sn (.store 30 (.tmp 2) (.tmp 9)) 0,
 So 3 (.assign (.tmp 10)) 36] [2, 3])
 (.ret))
 (.skip))))
 (.seq (.ops [So 11 (.load 34 (.tmp 1)) 34,
 So 12 (.call ⟨.value (.func 35), #[.tmp 11], #[34]⟩) 37,
 So 13 (.extract (.tmp 12) 0) 30,
 So 14 (.extract (.tmp 12) 1) 36,
 Sn (.store 30 (.tmp 2) (.tmp 13)) 0,
 So 3 (.assign (.tmp 14)) 36] [2, 3])
 (.ret)))
theorem w13 : CW 13 s13 [.cell 2 30, .tmp 3] := fun hr h => callsV_of_p follows cfgT a13 (fn := Tryz.f13) (c := Tryz.f13.body.getD .skip) (by kernel_rfl) (by kernel_rfl) (by kernel_rfl) (by kernel_rfl) (by kernel_rfl) (sc := s13) (by kernel_rfl) [.cell 2 30, .tmp 3] (by kernel_rfl) hr h
def a54 : List Ann := [⟨[0], [], []⟩,
 ⟨[0, 8], [], []⟩,
 ⟨[2], [], []⟩,
 ⟨[9, 10, 11], [], []⟩,
 ⟨[9, 10, 11, 12], [], []⟩,
 ⟨[4, 9, 10, 11], [], []⟩,
 ⟨[5, 9, 10, 11], [], []⟩,
 ⟨[5, 9, 10, 11, 18], [], []⟩,
 ⟨[2], [], []⟩,
 ⟨[9, 10, 11], [], []⟩,
 ⟨[2], [], []⟩]
def s54 : SC := .seq (.ops [So 2 (.assign (.const (.int .i64 0))) 36] [0])
 (.seq (.seq (.ops [So 6 (.move (.tmp 0)) 27,
 So 7 (.call ⟨.builtin .len, #[.tmp 6], #[27]⟩) 3,
 So 8 (.binOp .gtr 3 (.tmp 7) (.const (.int .i64 16)) 3) 4] [0, 8])
 (.cond (.tmp 8)
 (.seq (.ops [So 2 (.assign (.const (.int .i64 3))) 36] [2])
 (.ret))
 (.skip)))
 (.seq (.seq (.ops [So 9 (.move (.tmp 0)) 27,
 So 10 (.call ⟨.builtin .len, #[.tmp 9], #[27]⟩) 3,
 So 11 (.move (.const (.int .i64 0))) 3] [9, 10, 11])
 (.block 0
 (.loop
 (.seq (.ops [So 12 (.binOp .lss 3 (.tmp 11) (.tmp 10) 3) 0] [9, 10, 11, 12])
 (.seq (.cond (.tmp 12)
 (.skip)
 (.exit 0))
 (.seq (.block 1
 (.seq (.ops [So 13 (.indexAddr 27 (.tmp 9) (.tmp 11)) 0,
 So 14 (.load 30 (.tmp 13)) 30,
 So 4 (.alloc 30) 0,
 Sn (.store 30 (.tmp 4) (.tmp 14)) 0] [4, 9, 10, 11])
 (.seq (.ops [So 15 (.load 30 (.tmp 4)) 30,
 So 16 (.call ⟨.value (.func 102), #[.tmp 15], #[30]⟩) 36,
 So 5 (.assign (.tmp 16)) 36] [5, 9, 10, 11])
 (.seq (.ops [So 17 (.move (.tmp 5)) 36,
 So 18 (.binOp .neq 36 (.tmp 17) (.const (.int .i64 0)) 36) 4] [5, 9, 10, 11, 18])
 (.cond (.tmp 18)
 (.seq (.ops [So 19 (.move (.tmp 5)) 36,
 So 2 (.assign (.tmp 19)) 36] [2])
 (.ret))
 (.skip))))))
 (.ops [So 20 (.binOp .add 3 (.tmp 11) (.const (.int .i64 1)) 3) 3,
 So 11 (.move (.tmp 20)) 3] [9, 10, 11])))))))
 (.seq (.ops [So 2 (.assign (.const (.int .i64 0))) 36] [2])
 (.ret))))
theorem w54 : CW 54 s54 [.tmp 2] := fun hr h => callsV_of_p follows cfgT a54 (fn := Tryz.f54) (c := Tryz.f54.body.getD .skip) (by kernel_rfl) (by kernel_rfl) (by kernel_rfl) (by kernel_rfl) (by kernel_rfl) (sc := s54) (by kernel_rfl) [.tmp 2] (by kernel_rfl) hr h
def a57 : List Ann := [⟨[1], [], []⟩,
 ⟨[1, 5], [], []⟩,
 ⟨[2], [], []⟩,
 ⟨[8], [], []⟩,
 ⟨[2], [], []⟩,
 ⟨[2], [], []⟩]
def s57 : SC := .seq (.ops [So 1 (.box 42 (.tmp 0)) 0,
 So 2 (.assign (.const (.int .i64 0))) 36] [1])
 (.seq (.seq (.ops [So 3 (.load 42 (.tmp 1)) 42,
 So 4 (.call ⟨.value (.func 104), #[.tmp 3], #[42]⟩) 4,
 So 5 (.unOp .not 4 (.tmp 4)) 4] [1, 5])
 (.cond (.tmp 5)
 (.seq (.ops [So 2 (.assign (.const (.int .i64 2))) 36] [2])
 (.ret))
 (.skip)))
 (.seq (.seq (.ops [So 6 (.load 42 (.tmp 1)) 42,
 So 7 (.call ⟨.value (.func 62), #[.tmp 6], #[42]⟩) 3,
 So 8 (.binOp .gtr 3 (.tmp 7) (.const (.int .i64 4096)) 3) 4] [8])
 (.cond (.tmp 8)
 (.seq (.ops [So 2 (.assign (.const (.int .i64 4))) 36] [2])
 (.ret))
 (.skip)))
 (.seq (.ops [So 2 (.assign (.const (.int .i64 0))) 36] [2])
 (.ret))))
theorem w57 : CW 57 s57 [.tmp 2] := fun hr h => callsV_of_p follows cfgT a57 (fn := Tryz.f57) (c := Tryz.f57.body.getD .skip) (by kernel_rfl) (by kernel_rfl) (by kernel_rfl) (by kernel_rfl) (by kernel_rfl) (sc := s57) (by kernel_rfl) [.tmp 2] (by kernel_rfl) hr h
def a164 : List Ann := [⟨[1, 2], [], []⟩,
 ⟨[1, 2, 6], [], []⟩,
 ⟨[2, 3], [], []⟩,
 ⟨[2, 3], [], []⟩]
def s164 : SC := .seq (.ops [So 1 (.box 30 (.tmp 0)) 0,
 So 2 (.alloc 30) 0,
 So 3 (.assign (.const (.int .i64 0))) 36] [1, 2])
 (.seq (.seq (.ops [So 4 (.load 30 (.tmp 1)) 30,
 So 5 (.call ⟨.value (.func 102), #[.tmp 4], #[30]⟩) 36,
 So 6 (.binOp .neq 36 (.tmp 5) (.const (.int .i64 0)) 36) 4] [1, 2, 6])
 (.cond (.tmp 6)
 (.seq (.ops [So 7 (.build 30 #[]) 30,
 Sn (.store 30 (.tmp 2) (.tmp 7)) 0,
 So 3 (.assign (.const (.int .i64 4))) 36] [2, 3])
 (.ret))
 (.skip)))
 (.seq (.ops [So 8 (.load 30 (.tmp 1)) 30,
 Sn (.store 30 (.tmp 2) (.tmp 8)) 0,
 So 3 (.assign (.const (.int .i64 0))) 36] [2, 3])
 (.ret)))
theorem w164 : CW 164 s164 [.cell 2 30, .tmp 3] := fun hr h => callsV_of_p follows cfgT a164 (fn := Tryz.f164) (c := Tryz.f164.body.getD .skip) (by kernel_rfl) (by kernel_rfl) (by kernel_rfl) (by kernel_rfl) (by kernel_rfl) (sc := s164) (by kernel_rfl) [.cell 2 30, .tmp 3] (by kernel_rfl) hr h
def a152 : List Ann := [⟨[0, 3, 4], [], []⟩,
 ⟨[0, 3, 4, 17], [], []⟩,
 ⟨[0, 3, 4, 22], [], []⟩,
 ⟨[4, 5], [], []⟩,
 ⟨[4, 5], [], []⟩,
 ⟨[0, 3, 4, 36], [], []⟩,
 ⟨[3, 4, 6, 7], [0, 0, 2, 0, 8, 31, 0, 64, 192, 511, 0, 1024, 3072, 7168, 16383, 32767, 65535, 65535, 0, 393215, 1048575], [false, false, false, false, false, false, false, false, false, true, false, true, false, true, true, false, false, false, true, false, false]⟩,
 ⟨[3, 4, 6, 7, 56], [], []⟩,
 ⟨[4, 5], [], []⟩,
 ⟨[4, 5], [], []⟩,
 ⟨[0, 3, 4, 8], [], []⟩,
 ⟨[0, 3, 4, 8, 67, 68, 69], [], []⟩,
 ⟨[0, 3, 4, 8, 67, 68, 69, 70], [], []⟩,
 ⟨[0, 3, 4, 8, 10, 67, 68, 69], [], []⟩,
 ⟨[0, 3, 4, 8, 11, 12, 67, 68, 69], [], []⟩,
 ⟨[0, 3, 4, 8, 11, 12, 67, 68, 69, 80], [], []⟩,
 ⟨[4, 5], [], []⟩,
 ⟨[0, 3, 4, 8, 67, 68, 69], [], []⟩,
 ⟨[0, 3, 4, 8, 67, 68, 69], [], []⟩,
 ⟨[3, 4, 8, 13, 14], [], []⟩,
 ⟨[3, 4, 8, 13, 14, 91], [], []⟩,
 ⟨[3, 4, 8, 13, 14, 91, 92], [], []⟩,
 ⟨[4, 8, 111], [0, 1, 3, 7, 15, 31, 63, 127, 255, 511, 1023, 2047, 63, 4159, 12351, 32767, 65535, 131071], [false, false, false, false, false, false, false, false, false, false, false, false, false, false, false, false, false, false]⟩,
 ⟨[4, 5], [], []⟩,
 ⟨[4, 5], [], []⟩,
 ⟨[3, 4, 8, 13, 14, 91, 119], [], []⟩,
 ⟨[4, 5], [], []⟩,
 ⟨[3, 4, 8, 13, 14, 91, 122], [], []⟩,
 ⟨[4, 13, 129], [0, 1, 3, 0, 15, 31], [false, false, false, false, false, false]⟩,
 ⟨[4, 5], [], []⟩,
 ⟨[4, 5], [], []⟩,
 ⟨[3, 4, 8, 13, 14, 91, 132], [], []⟩,
 ⟨[3, 4, 162], [0, 1, 3, 0, 8, 31, 63, 127, 255, 511, 1023, 255, 255, 4351, 255, 16639, 61695, 129279, 262143, 524287, 1048575, 2097151, 4194303, 8388607, 16777215, 4194303, 67108863, 134217727, 268435455], [false, false, false, false, false, false, false, false, false, false, true, true, false, false, false, false, true, true, false, false, false, false, false, false, false, false, false, false, false]⟩,
 ⟨[4, 5], [], []⟩,
 ⟨[4, 5], [], []⟩,
 ⟨[3, 4, 8, 13, 14, 91, 167], [], []⟩,
 ⟨[4, 5], [], []⟩,
 ⟨[3, 4, 8, 13, 14, 91, 170], [], []⟩,
 ⟨[4, 14, 185], [0, 1, 3, 0, 15, 31, 63, 127, 255, 511, 127, 2047, 4095, 8191], [false, false, false, false, false, false, false, false, false, false, false, false, false, false]⟩,
 ⟨[4, 5], [], []⟩,
 ⟨[4, 5], [], []⟩,
 ⟨[3, 4, 8, 13, 14, 91, 188], [], []⟩,
 ⟨[3, 4, 220], [0, 1, 3, 0, 8, 31, 63, 127, 255, 511, 1023, 255, 255, 255, 8447, 255, 33023, 123135, 258303, 522495, 1048575, 2097151, 4194303, 8388607, 16777215, 33554431, 67108863, 16777215, 268435455, 536870911, 1073741823], [false, false, false, false, false, false, false, false, false, false, true, true, true, false, false, false, false, true, true, true, false, false, false, false, false, false, false, false, false, false, false]⟩,
 ⟨[4, 5], [], []⟩,
 ⟨[4, 5], [], []⟩,
 ⟨[3, 4, 8, 91, 225], [], []⟩,
 ⟨[4, 5], [0, 1, 3, 0, 8, 24, 63, 127, 255, 255, 1023, 2047], [false, false, false, false, false, false, false, false, false, false, false, false]⟩,
 ⟨[3, 4, 8, 91, 237], [], []⟩,
 ⟨[3, 4, 8, 237], [], []⟩,
 ⟨[3, 4, 8, 244], [], []⟩,
 ⟨[4, 5], [], []⟩,
 ⟨[4, 8, 248], [], []⟩,
 ⟨[4, 5], [], []⟩,
 ⟨[4, 5], [], []⟩,
 ⟨[4, 5], [], []⟩]
def s152 : SC := .seq (.ops [So 3 (.box 42 (.tmp 1)) 0,
 So 4 (.alloc 30) 0,
 So 5 (.assign (.const (.int .i64 0))) 36] [0, 3, 4])
 (.seq (.seq (.ops [So 15 (.fieldAddr 42 (.tmp 3) 0) 0,
 So 16 (.load 3 (.tmp 15)) 3,
 So 17 (.binOp .eql 3 (.tmp 16) (.const (.int .i64 1)) 3) 4] [0, 3, 4, 17])
 (.cond (.tmp 17)
 (.seq (.seq (.ops [So 18 (.fieldAddr 42 (.tmp 3) 1) 0,
 So 19 (.load 3 (.tmp 18)) 3,
 So 20 (.move (.tmp 0)) 27,
 So 21 (.call ⟨.builtin .len, #[.tmp 20], #[27]⟩) 3,
 So 22 (.binOp .geq 3 (.tmp 19) (.tmp 21) 3) 4] [0, 3, 4, 22])
 (.cond (.tmp 22)
 (.seq (.ops [So 23 (.build 30 #[]) 30,
 Sn (.store 30 (.tmp 4) (.tmp 23)) 0,
 So 5 (.assign (.const (.int .i64 6))) 36] [4, 5])
 (.ret))
 (.skip)))
 (.seq (.ops [So 24 (.move (.tmp 0)) 27,
 So 25 (.move (.tmp 0)) 27,
 So 26 (.call ⟨.builtin .len, #[.tmp 25], #[27]⟩) 3,
 So 27 (.binOp .sub 3 (.tmp 26) (.const (.int .i64 1)) 3) 3,
 So 28 (.fieldAddr 42 (.tmp 3) 1) 0,
 So 29 (.load 3 (.tmp 28)) 3,
 So 30 (.binOp .sub 3 (.tmp 27) (.tmp 29) 3) 3,
 So 31 (.indexAddr 27 (.tmp 24) (.tmp 30)) 0,
 So 32 (.load 30 (.tmp 31)) 30,
 So 33 (.call ⟨.value (.func 79), #[.tmp 32], #[30]⟩) 30,
 Sn (.store 30 (.tmp 4) (.tmp 33)) 0,
 So 5 (.assign (.const (.int .i64 0))) 36] [4, 5])
 (.ret)))
 (.skip)))
 (.seq (.seq (.ops [So 34 (.fieldAddr 42 (.tmp 3) 0) 0,
 So 35 (.load 3 (.tmp 34)) 3,
 So 36 (.binOp .eql 3 (.tmp 35) (.const (.int .i64 2)) 3) 4] [0, 3, 4, 36])
 (.cond (.tmp 36)
 (.seq (.draw [So 38 (.move (.tmp 0)) 27,
 So 39 (.move (.tmp 0)) 27,
 So 40 (.call ⟨.builtin .len, #[.tmp 39], #[27]⟩) 3,
 So 41 (.move (.tmp 0)) 27,
 So 42 (.call ⟨.builtin .len, #[.tmp 41], #[27]⟩) 3,
 So 43 (.slice 27 (.tmp 38) none (some (.tmp 40)) (some (.tmp 42))) 27,
 So 44 (.fieldAddr 42 (.tmp 3) 2) 0,
 So 45 (.load 30 (.tmp 44)) 30,
 So 46 (.buildSlice 27 1 #[(0, .tmp 45)]) 27,
 So 47 (.call ⟨.builtin .append, #[.tmp 43, .tmp 46], #[27, 27]⟩) 27,
 So 48 (.fieldAddr 42 (.tmp 3) 3) 0,
 So 49 (.load 31 (.tmp 48)) 31,
 So 50 (.indexAddr 31 (.tmp 49) (.const (.int .i64 0))) 0,
 So 51 (.load 42 (.tmp 50)) 42,
 So 52 (.call ⟨.value (.func 152), #[.tmp 47, .tmp 51], #[27, 42]⟩) 37,
 So 37 (.move (.tmp 52)) 37,
 So 53 (.extract (.tmp 37) 0) 30,
 So 54 (.extract (.tmp 37) 1) 36,
 So 6 (.alloc 30) 0,
 Sn (.store 30 (.tmp 6) (.tmp 53)) 0,
 So 7 (.assign (.tmp 54)) 36] [false, false, false, false, false, false, false, false, false, true, false, true, false, true, true, false, false, false, true, false, false] [3, 4, 6, 7])
 (.seq (.seq (.ops [So 55 (.move (.tmp 7)) 36,
 So 56 (.binOp .neq 36 (.tmp 55) (.const (.int .i64 0)) 36) 4] [3, 4, 6, 7, 56])
 (.cond (.tmp 56)
 (.seq (.ops [So 57 (.build 30 #[]) 30,
 So 58 (.move (.tmp 7)) 36,
 Sn (.store 30 (.tmp 4) (.tmp 57)) 0,
 So 5 (.assign (.tmp 58)) 36] [4, 5])
 (.ret))
 (.skip)))
 (.seq (.ops [So 59 (.fieldAddr 42 (.tmp 3) 2) 0,
 So 60 (.load 30 (.tmp 59)) 30,
 So 61 (.load 30 (.tmp 6)) 30,
 So 62 (.call ⟨.value (.func 78), #[.tmp 60, .tmp 61], #[30, 30]⟩) 30,
 So 63 (.call ⟨.value (.func 164), #[.tmp 62], #[30]⟩) 37,
 So 64 (.extract (.tmp 63) 0) 30,
 So 65 (.extract (.tmp 63) 1) 36,
 Sn (.store 30 (.tmp 4) (.tmp 64)) 0,
 So 5 (.assign (.tmp 65)) 36] [4, 5])
 (.ret))))
 (.skip)))
 (.seq (.ops [So 8 (.assign (.const (.slice none 0 0))) 27] [0, 3, 4, 8])
 (.seq (.seq (.ops [So 66 (.fieldAddr 42 (.tmp 3) 3) 0,
 So 67 (.load 31 (.tmp 66)) 31,
 So 68 (.call ⟨.builtin .len, #[.tmp 67], #[31]⟩) 3,
 So 69 (.move (.const (.int .i64 0))) 3] [0, 3, 4, 8, 67, 68, 69])
 (.block 0
 (.loop
 (.seq (.ops [So 70 (.binOp .lss 3 (.tmp 69) (.tmp 68) 3) 0] [0, 3, 4, 8, 67, 68, 69, 70])
 (.seq (.cond (.tmp 70)
 (.skip)
 (.exit 0))
 (.seq (.block 1
 (.seq (.ops [So 71 (.indexAddr 31 (.tmp 67) (.tmp 69)) 0,
 So 72 (.load 42 (.tmp 71)) 42,
 So 10 (.alloc 42) 0,
 Sn (.store 42 (.tmp 10) (.tmp 72)) 0] [0, 3, 4, 8, 10, 67, 68, 69])
 (.seq (.ops [So 74 (.move (.tmp 0)) 27,
 So 75 (.load 42 (.tmp 10)) 42,
 So 76 (.call ⟨.value (.func 152), #[.tmp 74, .tmp 75], #[27, 42]⟩) 37,
 So 73 (.move (.tmp 76)) 37,
 So 77 (.extract (.tmp 73) 0) 30,
 So 78 (.extract (.tmp 73) 1) 36,
 So 11 (.alloc 30) 0,
 Sn (.store 30 (.tmp 11) (.tmp 77)) 0,
 So 12 (.assign (.tmp 78)) 36] [0, 3, 4, 8, 11, 12, 67, 68, 69])
 (.seq (.seq (.ops [So 79 (.move (.tmp 12)) 36,
 So 80 (.binOp .neq 36 (.tmp 79) (.const (.int .i64 0)) 36) 4] [0, 3, 4, 8, 11, 12, 67, 68, 69, 80])
 (.cond (.tmp 80)
 (.seq (.ops [So 81 (.build 30 #[]) 30,
 So 82 (.move (.tmp 12)) 36,
 Sn (.store 30 (.tmp 4) (.tmp 81)) 0,
 So 5 (.assign (.tmp 82)) 36] [4, 5])
 (.ret))
 (.skip)))
 (.ops [So 83 (.move (.tmp 8)) 27,
 So 84 (.load 30 (.tmp 11)) 30,
 So 85 (.buildSlice 27 1 #[(0, .tmp 84)]) 27,
 So 86 (.call ⟨.builtin .append, #[.tmp 83, .tmp 85], #[27, 27]⟩) 27,
 So 8 (.assign (.tmp 86)) 27] [0, 3, 4, 8, 67, 68, 69])))))
 (.ops [So 87 (.binOp .add 3 (.tmp 69) (.const (.int .i64 1)) 3) 3,
 So 69 (.move (.tmp 87)) 3] [0, 3, 4, 8, 67, 68, 69])))))))
 (.seq (.ops [So 88 (.call ⟨.value (.func 32), #[], #[]⟩) 30,
 So 89 (.call ⟨.value (.func 48), #[], #[]⟩) 30,
 So 13 (.alloc 30) 0,
 So 14 (.alloc 30) 0,
 Sn (.store 30 (.tmp 13) (.tmp 88)) 0,
 Sn (.store 30 (.tmp 14) (.tmp 89)) 0] [3, 4, 8, 13, 14])
 (.seq (.seq (.ops [So 90 (.fieldAddr 42 (.tmp 3) 0) 0,
 So 91 (.load 3 (.tmp 90)) 3] [3, 4, 8, 13, 14, 91])
 (.block 2
 (.seq (.ops [So 93 (.binOp .eql 3 (.tmp 91) (.const (.int .i64 3)) 3) 4,
 So 92 (.assign (.tmp 93)) 4] [3, 4, 8, 13, 14, 91, 92])
 (.cond (.tmp 92)
 (.seq (.seq (.draw [So 94 (.move (.tmp 8)) 27,
 So 95 (.indexAddr 27 (.tmp 94) (.const (.int .i64 0))) 0,
 So 96 (.fieldAddr 30 (.tmp 95) 0) 0,
 So 97 (.load 3 (.tmp 96)) 3,
 So 98 (.binOp .neq 3 (.tmp 97) (.const (.int .i64 4)) 3) 4,
 So 99 (.move (.tmp 98)) 4,
 Sg 100 (.move (.tmp 8)) 27 99 false,
 Sg 101 (.indexAddr 27 (.tmp 100) (.const (.int .i64 0))) 0 99 false,
 Sg 102 (.fieldAddr 30 (.tmp 101) 1) 0 99 false,
 Sg 103 (.load 27 (.tmp 102)) 27 99 false,
 Sg 104 (.indexAddr 27 (.tmp 103) (.const (.int .i64 0))) 0 99 false,
 Sg 105 (.load 30 (.tmp 104)) 30 99 false,
 Sg 106 (.move (.tmp 8)) 27 99 false,
 Sg 107 (.indexAddr 27 (.tmp 106) (.const (.int .i64 1))) 0 99 false,
 Sg 108 (.load 30 (.tmp 107)) 30 99 false,
 Sg 109 (.call ⟨.value (.func 49), #[.tmp 105, .tmp 108], #[30, 30]⟩) 4 99 false,
 Sg 110 (.unOp .not 4 (.tmp 109)) 4 99 false,
 So 111 (.pick (.tmp 99) (.const (.bool true)) (.tmp 110)) 4] [false, false, false, false, false, false, false, false, false, false, false, false, false, false, false, false, false, false] [4, 8, 111])
 (.cond (.tmp 111)
 (.seq (.ops [So 112 (.build 30 #[]) 30,
 Sn (.store 30 (.tmp 4) (.tmp 112)) 0,
 So 5 (.assign (.const (.int .i64 7))) 36] [4, 5])
 (.ret))
 (.skip)))
 (.seq (.ops [So 113 (.move (.tmp 8)) 27,
 So 114 (.indexAddr 27 (.tmp 113) (.const (.int .i64 0))) 0,
 So 115 (.fieldAddr 30 (.tmp 114) 1) 0,
 So 116 (.load 27 (.tmp 115)) 27,
 So 117 (.indexAddr 27 (.tmp 116) (.const (.int .i64 1))) 0,
 So 118 (.load 30 (.tmp 117)) 30,
 Sn (.store 30 (.tmp 4) (.tmp 118)) 0,
 So 5 (.assign (.const (.int .i64 0))) 36] [4, 5])
 (.ret)))
 (.seq (.ops [So 120 (.binOp .eql 3 (.tmp 91) (.const (.int .i64 4)) 3) 4,
 So 119 (.assign (.tmp 120)) 4] [3, 4, 8, 13, 14, 91, 119])
 (.cond (.tmp 119)
 (.seq (.ops [So 121 (.load 30 (.tmp 13)) 30,
 Sn (.store 30 (.tmp 4) (.tmp 121)) 0,
 So 5 (.assign (.const (.int .i64 0))) 36] [4, 5])
 (.ret))
 (.seq (.ops [So 123 (.binOp .eql 3 (.tmp 91) (.const (.int .i64 5)) 3) 4,
 So 122 (.assign (.tmp 123)) 4] [3, 4, 8, 13, 14, 91, 122])
 (.cond (.tmp 122)
 (.seq (.seq (.draw [So 124 (.move (.tmp 8)) 27,
 So 125 (.indexAddr 27 (.tmp 124) (.const (.int .i64 0))) 0,
 So 126 (.load 30 (.tmp 125)) 30,
 So 127 (.load 30 (.tmp 13)) 30,
 So 128 (.call ⟨.value (.func 49), #[.tmp 126, .tmp 127], #[30, 30]⟩) 4,
 So 129 (.unOp .not 4 (.tmp 128)) 4] [false, false, false, false, false, false] [4, 13, 129])
 (.cond (.tmp 129)
 (.seq (.ops [So 130 (.build 30 #[]) 30,
 Sn (.store 30 (.tmp 4) (.tmp 130)) 0,
 So 5 (.assign (.const (.int .i64 7))) 36] [4, 5])
 (.ret))
 (.skip)))
 (.seq (.ops [So 131 (.load 30 (.tmp 13)) 30,
 Sn (.store 30 (.tmp 4) (.tmp 131)) 0,
 So 5 (.assign (.const (.int .i64 0))) 36] [4, 5])
 (.ret)))
 (.seq (.ops [So 133 (.binOp .eql 3 (.tmp 91) (.const (.int .i64 6)) 3) 4,
 So 132 (.assign (.tmp 133)) 4] [3, 4, 8, 13, 14, 91, 132])
 (.cond (.tmp 132)
 (.seq (.seq (.draw [So 134 (.move (.tmp 8)) 27,
 So 135 (.indexAddr 27 (.tmp 134) (.const (.int .i64 0))) 0,
 So 136 (.load 30 (.tmp 135)) 30,
 So 137 (.fieldAddr 42 (.tmp 3) 2) 0,
 So 138 (.load 30 (.tmp 137)) 30,
 So 139 (.call ⟨.value (.func 49), #[.tmp 136, .tmp 138], #[30, 30]⟩) 4,
 So 140 (.unOp .not 4 (.tmp 139)) 4,
 So 141 (.move (.tmp 140)) 4,
 Sg 142 (.move (.tmp 8)) 27 141 false,
 Sg 143 (.indexAddr 27 (.tmp 142) (.const (.int .i64 1))) 0 141 false,
 Sg 144 (.load 30 (.tmp 143)) 30 141 false,
 Sg 145 (.load 30 (.tmp 13)) 30 141 false,
 Sg 146 (.fieldAddr 42 (.tmp 3) 2) 0 141 false,
 Sg 147 (.load 30 (.tmp 146)) 30 141 false,
 Sg 148 (.fieldAddr 42 (.tmp 3) 2) 0 141 false,
 Sg 149 (.load 30 (.tmp 148)) 30 141 false,
 Sg 150 (.call ⟨.value (.func 78), #[.tmp 147, .tmp 149], #[30, 30]⟩) 30 141 false,
 Sg 151 (.call ⟨.value (.func 78), #[.tmp 145, .tmp 150], #[30, 30]⟩) 30 141 false,
 Sg 152 (.call ⟨.value (.func 49), #[.tmp 144, .tmp 151], #[30, 30]⟩) 4 141 false,
 Sg 153 (.unOp .not 4 (.tmp 152)) 4 141 false,
 So 154 (.pick (.tmp 141) (.const (.bool true)) (.tmp 153)) 4,
 So 155 (.move (.tmp 154)) 4,
 Sg 156 (.move (.tmp 8)) 27 155 false,
 Sg 157 (.indexAddr 27 (.tmp 156) (.const (.int .i64 2))) 0 155 false,
 Sg 158 (.load 30 (.tmp 157)) 30 155 false,
 Sg 159 (.load 30 (.tmp 13)) 30 155 false,
 Sg 160 (.call ⟨.value (.func 49), #[.tmp 158, .tmp 159], #[30, 30]⟩) 4 155 false,
 Sg 161 (.unOp .not 4 (.tmp 160)) 4 155 false,
 So 162 (.pick (.tmp 155) (.const (.bool true)) (.tmp 161)) 4] [false, false, false, false, false, false, false, false, false, false, true, true, false, false, false, false, true, true, false, false, false, false, false, false, false, false, false, false, false] [3, 4, 162])
 (.cond (.tmp 162)
 (.seq (.ops [So 163 (.build 30 #[]) 30,
 Sn (.store 30 (.tmp 4) (.tmp 163)) 0,
 So 5 (.assign (.const (.int .i64 7))) 36] [4, 5])
 (.ret))
 (.skip)))
 (.seq (.ops [So 164 (.fieldAddr 42 (.tmp 3) 2) 0,
 So 165 (.load 30 (.tmp 164)) 30,
 So 166 (.call ⟨.value (.func 79), #[.tmp 165], #[30]⟩) 30,
 Sn (.store 30 (.tmp 4) (.tmp 166)) 0,
 So 5 (.assign (.const (.int .i64 0))) 36] [4, 5])
 (.ret)))
 (.seq (.ops [So 168 (.binOp .eql 3 (.tmp 91) (.const (.int .i64 7)) 3) 4,
 So 167 (.assign (.tmp 168)) 4] [3, 4, 8, 13, 14, 91, 167])
 (.cond (.tmp 167)
 (.seq (.ops [So 169 (.load 30 (.tmp 14)) 30,
 Sn (.store 30 (.tmp 4) (.tmp 169)) 0,
 So 5 (.assign (.const (.int .i64 0))) 36] [4, 5])
 (.ret))
 (.seq (.ops [So 171 (.binOp .eql 3 (.tmp 91) (.const (.int .i64 8)) 3) 4,
 So 170 (.assign (.tmp 171)) 4] [3, 4, 8, 13, 14, 91, 170])
 (.cond (.tmp 170)
 (.seq (.seq (.draw [So 172 (.move (.tmp 8)) 27,
 So 173 (.indexAddr 27 (.tmp 172) (.const (.int .i64 0))) 0,
 So 174 (.load 30 (.tmp 173)) 30,
 So 175 (.load 30 (.tmp 13)) 30,
 So 176 (.call ⟨.value (.func 49), #[.tmp 174, .tmp 175], #[30, 30]⟩) 4,
 So 177 (.unOp .not 4 (.tmp 176)) 4,
 So 178 (.move (.tmp 177)) 4,
 Sg 179 (.move (.tmp 8)) 27 178 false,
 Sg 180 (.indexAddr 27 (.tmp 179) (.const (.int .i64 1))) 0 178 false,
 Sg 181 (.load 30 (.tmp 180)) 30 178 false,
 Sg 182 (.load 30 (.tmp 14)) 30 178 false,
 Sg 183 (.call ⟨.value (.func 49), #[.tmp 181, .tmp 182], #[30, 30]⟩) 4 178 false,
 Sg 184 (.unOp .not 4 (.tmp 183)) 4 178 false,
 So 185 (.pick (.tmp 178) (.const (.bool true)) (.tmp 184)) 4] [false, false, false, false, false, false, false, false, false, false, false, false, false, false] [4, 14, 185])
 (.cond (.tmp 185)
 (.seq (.ops [So 186 (.build 30 #[]) 30,
 Sn (.store 30 (.tmp 4) (.tmp 186)) 0,
 So 5 (.assign (.const (.int .i64 7))) 36] [4, 5])
 (.ret))
 (.skip)))
 (.seq (.ops [So 187 (.load 30 (.tmp 14)) 30,
 Sn (.store 30 (.tmp 4) (.tmp 187)) 0,
 So 5 (.assign (.const (.int .i64 0))) 36] [4, 5])
 (.ret)))
 (.seq (.ops [So 189 (.binOp .eql 3 (.tmp 91) (.const (.int .i64 9)) 3) 4,
 So 188 (.assign (.tmp 189)) 4] [3, 4, 8, 13, 14, 91, 188])
 (.cond (.tmp 188)
 (.seq (.seq (.draw [So 190 (.move (.tmp 8)) 27,
 So 191 (.indexAddr 27 (.tmp 190) (.const (.int .i64 0))) 0,
 So 192 (.load 30 (.tmp 191)) 30,
 So 193 (.fieldAddr 42 (.tmp 3) 2) 0,
 So 194 (.load 30 (.tmp 193)) 30,
 So 195 (.call ⟨.value (.func 49), #[.tmp 192, .tmp 194], #[30, 30]⟩) 4,
 So 196 (.unOp .not 4 (.tmp 195)) 4,
 So 197 (.move (.tmp 196)) 4,
 Sg 198 (.move (.tmp 8)) 27 197 false,
 Sg 199 (.indexAddr 27 (.tmp 198) (.const (.int .i64 1))) 0 197 false,
 Sg 200 (.load 30 (.tmp 199)) 30 197 false,
 Sg 201 (.load 30 (.tmp 13)) 30 197 false,
 Sg 202 (.load 30 (.tmp 14)) 30 197 false,
 Sg 203 (.fieldAddr 42 (.tmp 3) 2) 0 197 false,
 Sg 204 (.load 30 (.tmp 203)) 30 197 false,
 Sg 205 (.fieldAddr 42 (.tmp 3) 2) 0 197 false,
 Sg 206 (.load 30 (.tmp 205)) 30 197 false,
 Sg 207 (.call ⟨.value (.func 78), #[.tmp 204, .tmp 206], #[30, 30]⟩) 30 197 false,
 Sg 208 (.call ⟨.value (.func 78), #[.tmp 202, .tmp 207], #[30, 30]⟩) 30 197 false,
 Sg 209 (.call ⟨.value (.func 78), #[.tmp 201, .tmp 208], #[30, 30]⟩) 30 197 false,
 Sg 210 (.call ⟨.value (.func 49), #[.tmp 200, .tmp 209], #[30, 30]⟩) 4 197 false,
 Sg 211 (.unOp .not 4 (.tmp 210)) 4 197 false,
 So 212 (.pick (.tmp 197) (.const (.bool true)) (.tmp 211)) 4,
 So 213 (.move (.tmp 212)) 4,
 Sg 214 (.move (.tmp 8)) 27 213 false,
 Sg 215 (.indexAddr 27 (.tmp 214) (.const (.int .i64 2))) 0 213 false,
 Sg 216 (.load 30 (.tmp 215)) 30 213 false,
 Sg 217 (.load 30 (.tmp 14)) 30 213 false,
 Sg 218 (.call ⟨.value (.func 49), #[.tmp 216, .tmp 217], #[30, 30]⟩) 4 213 false,
 Sg 219 (.unOp .not 4 (.tmp 218)) 4 213 false,
 So 220 (.pick (.tmp 213) (.const (.bool true)) (.tmp 219)) 4] [false, false, false, false, false, false, false, false, false, false, true, true, true, false, false, false, false, true, true, true, false, false, false, false, false, false, false, false, false, false, false] [3, 4, 220])
 (.cond (.tmp 220)
 (.seq (.ops [So 221 (.build 30 #[]) 30,
 Sn (.store 30 (.tmp 4) (.tmp 221)) 0,
 So 5 (.assign (.const (.int .i64 7))) 36] [4, 5])
 (.ret))
 (.skip)))
 (.seq (.ops [So 222 (.fieldAddr 42 (.tmp 3) 2) 0,
 So 223 (.load 30 (.tmp 222)) 30,
 So 224 (.call ⟨.value (.func 79), #[.tmp 223], #[30]⟩) 30,
 Sn (.store 30 (.tmp 4) (.tmp 224)) 0,
 So 5 (.assign (.const (.int .i64 0))) 36] [4, 5])
 (.ret)))
 (.seq (.ops [So 226 (.binOp .eql 3 (.tmp 91) (.const (.int .i64 10)) 3) 4,
 So 225 (.assign (.tmp 226)) 4] [3, 4, 8, 91, 225])
 (.cond (.tmp 225)
 (.seq (.draw [So 227 (.move (.tmp 8)) 27,
 So 228 (.indexAddr 27 (.tmp 227) (.const (.int .i64 0))) 0,
 So 229 (.load 30 (.tmp 228)) 30,
 So 230 (.move (.tmp 8)) 27,
 So 231 (.indexAddr 27 (.tmp 230) (.const (.int .i64 1))) 0,
 So 232 (.load 30 (.tmp 231)) 30,
 So 233 (.call ⟨.value (.func 77), #[.tmp 229, .tmp 232], #[30, 30]⟩) 30,
 So 234 (.call ⟨.value (.func 164), #[.tmp 233], #[30]⟩) 37,
 So 235 (.extract (.tmp 234) 0) 30,
 So 236 (.extract (.tmp 234) 1) 36,
 Sn (.store 30 (.tmp 4) (.tmp 235)) 0,
 So 5 (.assign (.tmp 236)) 36] [false, false, false, false, false, false, false, false, false, false, false, false] [4, 5])
 (.ret))
 (.seq (.seq (.ops [So 238 (.binOp .eql 3 (.tmp 91) (.const (.int .i64 11)) 3) 4,
 So 237 (.assign (.tmp 238)) 4] [3, 4, 8, 91, 237])
 (.cond (.tmp 237)
 (.skip)
 (.ops [So 239 (.binOp .eql 3 (.tmp 91) (.const (.int .i64 12)) 3) 4,
 So 237 (.assign (.tmp 239)) 4] [3, 4, 8, 237])))
 (.cond (.tmp 237)
 (.seq (.seq (.ops [So 240 (.move (.tmp 8)) 27,
 So 241 (.indexAddr 27 (.tmp 240) (.const (.int .i64 0))) 0,
 So 242 (.fieldAddr 30 (.tmp 241) 0) 0,
 So 243 (.load 3 (.tmp 242)) 3,
 So 244 (.binOp .neq 3 (.tmp 243) (.const (.int .i64 3)) 3) 4] [3, 4, 8, 244])
 (.cond (.tmp 244)
 (.seq (.ops [So 245 (.build 30 #[]) 30,
 Sn (.store 30 (.tmp 4) (.tmp 245)) 0,
 So 5 (.assign (.const (.int .i64 7))) 36] [4, 5])
 (.ret))
 (.skip)))
 (.seq (.seq (.ops [So 246 (.fieldAddr 42 (.tmp 3) 0) 0,
 So 247 (.load 3 (.tmp 246)) 3,
 So 248 (.binOp .eql 3 (.tmp 247) (.const (.int .i64 11)) 3) 4] [4, 8, 248])
 (.cond (.tmp 248)
 (.seq (.ops [So 249 (.move (.tmp 8)) 27,
 So 250 (.indexAddr 27 (.tmp 249) (.const (.int .i64 0))) 0,
 So 251 (.fieldAddr 30 (.tmp 250) 1) 0,
 So 252 (.load 27 (.tmp 251)) 27,
 So 253 (.indexAddr 27 (.tmp 252) (.const (.int .i64 0))) 0,
 So 254 (.load 30 (.tmp 253)) 30,
 Sn (.store 30 (.tmp 4) (.tmp 254)) 0,
 So 5 (.assign (.const (.int .i64 0))) 36] [4, 5])
 (.ret))
 (.skip)))
 (.seq (.ops [So 255 (.move (.tmp 8)) 27,
 So 256 (.indexAddr 27 (.tmp 255) (.const (.int .i64 0))) 0,
 So 257 (.fieldAddr 30 (.tmp 256) 1) 0,
 So 258 (.load 27 (.tmp 257)) 27,
 So 259 (.indexAddr 27 (.tmp 258) (.const (.int .i64 1))) 0,
 So 260 (.load 30 (.tmp 259)) 30,
 Sn (.store 30 (.tmp 4) (.tmp 260)) 0,
 So 5 (.assign (.const (.int .i64 0))) 36] [4, 5])
 (.ret))))
 (.skip)))))))))))))))))))))
 (.seq (.ops [So 261 (.call ⟨.value (.func 76), #[], #[]⟩) 30,
 Sn (.store 30 (.tmp 4) (.tmp 261)) 0,
 So 5 (.assign (.const (.int .i64 0))) 36] [4, 5])
 (.ret))))))))
theorem w152 : CW 152 s152 [.cell 4 30, .tmp 5] := fun hr h => callsV_of_p follows cfgT a152 (fn := Tryz.f152) (c := Tryz.f152.body.getD .skip) (by kernel_rfl) (by kernel_rfl) (by kernel_rfl) (by kernel_rfl) (by kernel_rfl) (sc := s152) (by kernel_rfl) [.cell 4 30, .tmp 5] (by kernel_rfl) hr h
def a131 : List Ann := [⟨[0, 3, 4], [], []⟩,
 ⟨[0, 3, 4, 6], [], []⟩,
 ⟨[0, 3, 4, 6, 10], [], []⟩,
 ⟨[4, 5], [], []⟩,
 ⟨[4, 5], [], []⟩]
def s131 : SC := .seq (.ops [So 3 (.box 42 (.tmp 1)) 0,
 So 4 (.alloc 30) 0,
 So 5 (.assign (.const (.int .i64 0))) 36] [0, 3, 4])
 (.seq (.seq (.ops [So 7 (.load 42 (.tmp 3)) 42,
 So 8 (.call ⟨.value (.func 57), #[.tmp 7], #[42]⟩) 36,
 So 6 (.assign (.tmp 8)) 36] [0, 3, 4, 6])
 (.seq (.ops [So 9 (.move (.tmp 6)) 36,
 So 10 (.binOp .neq 36 (.tmp 9) (.const (.int .i64 0)) 36) 4] [0, 3, 4, 6, 10])
 (.cond (.tmp 10)
 (.seq (.ops [So 11 (.build 30 #[]) 30,
 So 12 (.move (.tmp 6)) 36,
 Sn (.store 30 (.tmp 4) (.tmp 11)) 0,
 So 5 (.assign (.tmp 12)) 36] [4, 5])
 (.ret))
 (.skip))))
 (.seq (.ops [So 13 (.move (.tmp 0)) 27,
 So 14 (.load 42 (.tmp 3)) 42,
 So 15 (.call ⟨.value (.func 152), #[.tmp 13, .tmp 14], #[27, 42]⟩) 37,
 So 16 (.extract (.tmp 15) 0) 30,
 So 17 (.extract (.tmp 15) 1) 36,
 Sn (.store 30 (.tmp 4) (.tmp 16)) 0,
 So 5 (.assign (.tmp 17)) 36] [4, 5])
 (.ret)))
theorem w131 : CW 131 s131 [.cell 4 30, .tmp 5] := fun hr h => callsV_of_p follows cfgT a131 (fn := Tryz.f131) (c := Tryz.f131.body.getD .skip) (by kernel_rfl) (by kernel_rfl) (by kernel_rfl) (by kernel_rfl) (by kernel_rfl) (sc := s131) (by kernel_rfl) [.cell 4 30, .tmp 5] (by kernel_rfl) hr h
def a103 : List Ann := [⟨[0, 3], [], []⟩,
 ⟨[0, 3, 13, 14, 15], [], []⟩,
 ⟨[0, 3, 13, 14, 15, 16], [], []⟩,
 ⟨[0, 3, 6, 13, 14, 15], [], []⟩,
 ⟨[0, 3, 7, 8, 13, 14, 15], [], []⟩,
 ⟨[0, 3, 7, 8, 13, 14, 15, 26], [], []⟩,
 ⟨[4], [], []⟩,
 ⟨[0, 3, 13, 14, 15, 30], [], []⟩,
 ⟨[4], [], []⟩,
 ⟨[0, 3, 13, 14, 15], [], []⟩,
 ⟨[0, 3, 34], [], []⟩,
 ⟨[0, 3], [0, 0, 2, 0, 8, 31, 0, 64, 192, 511, 1023], [false, false, false, false, false, false, false, false, false, false, false]⟩,
 ⟨[0, 46, 47, 48], [], []⟩,
 ⟨[0, 46, 47, 48, 49], [], []⟩,
 ⟨[0, 10, 46, 47, 48], [], []⟩,
 ⟨[0, 11, 46, 47, 48], [], []⟩,
 ⟨[0, 11, 46, 47, 48, 56], [], []⟩,
 ⟨[4], [], []⟩,
 ⟨[0, 46, 47, 48], [], []⟩,
 ⟨[4], [], []⟩]
def s103 : SC := .seq (.ops [So 3 (.box 34 (.tmp 1)) 0,
 So 4 (.assign (.const (.int .i64 0))) 36] [0, 3])
 (.seq (.seq (.ops [So 12 (.fieldAddr 34 (.tmp 3) 2) 0,
 So 13 (.load 31 (.tmp 12)) 31,
 So 14 (.call ⟨.builtin .len, #[.tmp 13], #[31]⟩) 3,
 So 15 (.move (.const (.int .i64 0))) 3] [0, 3, 13, 14, 15])
 (.block 0
 (.loop
 (.seq (.ops [So 16 (.binOp .lss 3 (.tmp 15) (.tmp 14) 3) 0] [0, 3, 13, 14, 15, 16])
 (.seq (.cond (.tmp 16)
 (.skip)
 (.exit 0))
 (.seq (.block 1
 (.seq (.ops [So 17 (.indexAddr 31 (.tmp 13) (.tmp 15)) 0,
 So 18 (.load 42 (.tmp 17)) 42,
 So 6 (.alloc 42) 0,
 Sn (.store 42 (.tmp 6) (.tmp 18)) 0] [0, 3, 6, 13, 14, 15])
 (.seq (.ops [So 20 (.move (.tmp 0)) 27,
 So 21 (.load 42 (.tmp 6)) 42,
 So 22 (.call ⟨.value (.func 131), #[.tmp 20, .tmp 21], #[27, 42]⟩) 37,
 So 19 (.move (.tmp 22)) 37,
 So 23 (.extract (.tmp 19) 0) 30,
 So 24 (.extract (.tmp 19) 1) 36,
 So 7 (.alloc 30) 0,
 Sn (.store 30 (.tmp 7) (.tmp 23)) 0,
 So 8 (.assign (.tmp 24)) 36] [0, 3, 7, 8, 13, 14, 15])
 (.seq (.seq (.ops [So 25 (.move (.tmp 8)) 36,
 So 26 (.binOp .neq 36 (.tmp 25) (.const (.int .i64 0)) 36) 4] [0, 3, 7, 8, 13, 14, 15, 26])
 (.cond (.tmp 26)
 (.seq (.ops [So 27 (.move (.tmp 8)) 36,
 So 4 (.assign (.tmp 27)) 36] [4])
 (.ret))
 (.skip)))
 (.seq (.ops [So 28 (.fieldAddr 30 (.tmp 7) 0) 0,
 So 29 (.load 3 (.tmp 28)) 3,
 So 30 (.binOp .neq 3 (.tmp 29) (.const (.int .i64 1)) 3) 4] [0, 3, 13, 14, 15, 30])
 (.cond (.tmp 30)
 (.seq (.ops [So 4 (.assign (.const (.int .i64 7))) 36] [4])
 (.ret))
 (.skip)))))))
 (.ops [So 31 (.binOp .add 3 (.tmp 15) (.const (.int .i64 1)) 3) 3,
 So 15 (.move (.tmp 31)) 3] [0, 3, 13, 14, 15])))))))
 (.seq (.seq (.ops [So 32 (.fieldAddr 34 (.tmp 3) 0) 0,
 So 33 (.load 3 (.tmp 32)) 3,
 So 34 (.call ⟨.value (.func 118), #[.tmp 33], #[3]⟩) 4] [0, 3, 34])
 (.cond (.tmp 34)
 (.draw [So 35 (.move (.tmp 0)) 27,
 So 36 (.move (.tmp 0)) 27,
 So 37 (.call ⟨.builtin .len, #[.tmp 36], #[27]⟩) 3,
 So 38 (.move (.tmp 0)) 27,
 So 39 (.call ⟨.builtin .len, #[.tmp 38], #[27]⟩) 3,
 So 40 (.slice 27 (.tmp 35) none (some (.tmp 37)) (some (.tmp 39))) 27,
 So 41 (.fieldAddr 34 (.tmp 3) 1) 0,
 So 42 (.load 30 (.tmp 41)) 30,
 So 43 (.buildSlice 27 1 #[(0, .tmp 42)]) 27,
 So 44 (.call ⟨.builtin .append, #[.tmp 40, .tmp 43], #[27, 27]⟩) 27,
 So 0 (.assign (.tmp 44)) 27] [false, false, false, false, false, false, false, false, false, false, false] [0, 3])
 (.skip)))
 (.seq (.seq (.ops [So 45 (.fieldAddr 34 (.tmp 3) 3) 0,
 So 46 (.load 32 (.tmp 45)) 32,
 So 47 (.call ⟨.builtin .len, #[.tmp 46], #[32]⟩) 3,
 So 48 (.move (.const (.int .i64 0))) 3] [0, 46, 47, 48])
 (.block 2
 (.loop
 (.seq (.ops [So 49 (.binOp .lss 3 (.tmp 48) (.tmp 47) 3) 0] [0, 46, 47, 48, 49])
 (.seq (.cond (.tmp 49)
 (.skip)
 (.exit 2))
 (.seq (.block 3
 (.seq (.ops [So 50 (.indexAddr 32 (.tmp 46) (.tmp 48)) 0,
 So 51 (.load 34 (.tmp 50)) 34,
 So 10 (.alloc 34) 0,
 Sn (.store 34 (.tmp 10) (.tmp 51)) 0] [0, 10, 46, 47, 48])
 (.seq (.ops [So 52 (.move (.tmp 0)) 27,
 So 53 (.load 34 (.tmp 10)) 34,
 So 54 (.call ⟨.value (.func 103), #[.tmp 52, .tmp 53], #[27, 34]⟩) 36,
 So 11 (.assign (.tmp 54)) 36] [0, 11, 46, 47, 48])
 (.seq (.ops [So 55 (.move (.tmp 11)) 36,
 So 56 (.binOp .neq 36 (.tmp 55) (.const (.int .i64 0)) 36) 4] [0, 11, 46, 47, 48, 56])
 (.cond (.tmp 56)
 (.seq (.ops [So 57 (.move (.tmp 11)) 36,
 So 4 (.assign (.tmp 57)) 36] [4])
 (.ret))
 (.skip))))))
 (.ops [So 58 (.binOp .add 3 (.tmp 48) (.const (.int .i64 1)) 3) 3,
 So 48 (.move (.tmp 58)) 3] [0, 46, 47, 48])))))))
 (.seq (.ops [So 4 (.assign (.const (.int .i64 0))) 36] [4])
 (.ret)))))
theorem w103 : CW 103 s103 [.tmp 4] := fun hr h => callsV_of_p follows cfgT a103 (fn := Tryz.f103) (c := Tryz.f103.body.getD .skip) (by kernel_rfl) (by kernel_rfl) (by kernel_rfl) (by kernel_rfl) (by kernel_rfl) (sc := s103) (by kernel_rfl) [.tmp 4] (by kernel_rfl) hr h
def a55 : List Ann := [⟨[0, 3], [], []⟩,
 ⟨[0, 3, 5], [], []⟩,
 ⟨[0, 3, 5, 9], [], []⟩,
 ⟨[4], [], []⟩,
 ⟨[4], [], []⟩]
def s55 : SC := .seq (.ops [So 3 (.box 34 (.tmp 1)) 0,
 So 4 (.assign (.const (.int .i64 0))) 36] [0, 3])
 (.seq (.seq (.ops [So 6 (.load 34 (.tmp 3)) 34,
 So 7 (.call ⟨.value (.func 34), #[.tmp 6], #[34]⟩) 36,
 So 5 (.assign (.tmp 7)) 36] [0, 3, 5])
 (.seq (.ops [So 8 (.move (.tmp 5)) 36,
 So 9 (.binOp .neq 36 (.tmp 8) (.const (.int .i64 0)) 36) 4] [0, 3, 5, 9])
 (.cond (.tmp 9)
 (.seq (.ops [So 10 (.move (.tmp 5)) 36,
 So 4 (.assign (.tmp 10)) 36] [4])
 (.ret))
 (.skip))))
 (.seq (.ops [So 11 (.move (.tmp 0)) 27,
 So 12 (.load 34 (.tmp 3)) 34,
 So 13 (.call ⟨.value (.func 103), #[.tmp 11, .tmp 12], #[27, 34]⟩) 36,
 So 4 (.assign (.tmp 13)) 36] [4])
 (.ret)))
theorem w55 : CW 55 s55 [.tmp 4] := fun hr h => callsV_of_p follows cfgT a55 (fn := Tryz.f55) (c := Tryz.f55.body.getD .skip) (by kernel_rfl) (by kernel_rfl) (by kernel_rfl) (by kernel_rfl) (by kernel_rfl) (sc := s55) (by kernel_rfl) [.tmp 4] (by kernel_rfl) hr h
def a17 : List Ann := [⟨[0, 3], [], []⟩,
 ⟨[0, 3, 5], [], []⟩,
 ⟨[0, 3, 5, 9], [], []⟩,
 ⟨[4], [], []⟩,
 ⟨[4], [], []⟩]
def s17 : SC := .seq (.ops [So 3 (.box 34 (.tmp 1)) 0,
 So 4 (.assign (.const (.int .i64 0))) 36] [0, 3])
 (.seq (.seq (.ops [So 6 (.move (.tmp 0)) 27,
 So 7 (.call ⟨.value (.func 54), #[.tmp 6], #[27]⟩) 36,
 So 5 (.assign (.tmp 7)) 36] [0, 3, 5])
 (.seq (.ops [So 8 (.move (.tmp 5)) 36,
 So 9 (.binOp .neq 36 (.tmp 8) (.const (.int .i64 0)) 36) 4] [0, 3, 5, 9])
 (.cond (.tmp 9)
 (.seq (.ops [So 10 (.move (.tmp 5)) 36,
 So 4 (.assign (.tmp 10)) 36] [4])
 (.ret))
 (.skip))))
 (.seq (.ops [So 11 (.move (.tmp 0)) 27,
 So 12 (.load 34 (.tmp 3)) 34,
 So 13 (.call ⟨.value (.func 55), #[.tmp 11, .tmp 12], #[27, 34]⟩) 36,
 So 4 (.assign (.tmp 13)) 36] [4])
 (.ret)))
theorem w17 : CW 17 s17 [.tmp 4] := fun hr h => callsV_of_p follows cfgT a17 (fn := Tryz.f17) (c := Tryz.f17.body.getD .skip) (by kernel_rfl) (by kernel_rfl) (by kernel_rfl) (by kernel_rfl) (by kernel_rfl) (sc := s17) (by kernel_rfl) [.tmp 4] (by kernel_rfl) hr h
def a3 : List Ann := [⟨[0], [], []⟩,
 ⟨[0, 18], [], []⟩,
 ⟨[2], [], []⟩,
 ⟨[3], [], []⟩,
 ⟨[3, 4], [], []⟩,
 ⟨[3, 4, 5], [], []⟩,
 ⟨[3, 4, 5, 6, 7], [], []⟩,
 ⟨[3, 4, 5, 6, 33], [], []⟩,
 ⟨[2], [], []⟩,
 ⟨[4, 8, 9], [0, 0, 0, 0, 14, 31, 63, 127, 127, 0, 767, 2047], [true, false, false, false, true, true, false, false, false, true, false, false]⟩,
 ⟨[4, 8, 9, 44], [], []⟩,
 ⟨[2], [], []⟩,
 ⟨[4, 8, 10, 11], [], []⟩,
 ⟨[2], [], []⟩]
def s3 : SC := .seq (.ops [So 2 (.assign (.const (.bool false))) 4] [0])
 (.seq (.seq (.ops [So 12 (.call ⟨.value (.func 8), #[], #[]⟩) 4,
 So 13 (.unOp .not 4 (.tmp 12)) 4,
 So 14 (.move (.tmp 13)) 4,
 Sg 15 (.move (.tmp 0)) 22 14 false,
 Sg 16 (.call ⟨.value (.func 9), #[.tmp 15], #[22]⟩) 4 14 false,
 Sg 17 (.unOp .not 4 (.tmp 16)) 4 14 false,
 So 18 (.pick (.tmp 14) (.const (.bool true)) (.tmp 17)) 4] [0, 18])
 (.cond (.tmp 18)
 (.seq (.ops [So 19 (.call ⟨.value (.func 8), #[], #[]⟩) 4,
 So 2 (.assign (.tmp 19)) 4] [2])
 (.ret))
 (.skip)))
 (.seq (.ops [So 20 (.move (.tmp 0)) 22,
 So 21 (.call ⟨.value (.func 10), #[.tmp 20], #[22]⟩) 25,
 So 3 (.assign (.tmp 21)) 25] [3])
 (.seq (.ops [So 22 (.move (.tmp 3)) 25,
 So 23 (.call ⟨.value (.func 11), #[.tmp 22], #[25]⟩) 27,
 So 4 (.assign (.tmp 23)) 27] [3, 4])
 (.seq (.ops [So 24 (.move (.tmp 3)) 25,
 So 25 (.move (.tmp 4)) 27,
 So 26 (.call ⟨.value (.func 12), #[.tmp 24, .tmp 25, .const (.int .i64 3)], #[25, 27, 3]⟩) 34,
 So 5 (.alloc 34) 0,
 Sn (.store 34 (.tmp 5) (.tmp 26)) 0] [3, 4, 5])
 (.seq (.ops [So 28 (.load 34 (.tmp 5)) 34,
 So 29 (.call ⟨.value (.func 13), #[.tmp 28], #[34]⟩) 37,
 So 27 (.move (.tmp 29)) 37,
 So 30 (.extract (.tmp 27) 0) 30,
 So 31 (.extract (.tmp 27) 1) 36,
 So 6 (.alloc 30) 0,
 Sn (.store 30 (.tmp 6) (.tmp 30)) 0,
 So 7 (.assign (.tmp 31)) 36] [3, 4, 5, 6, 7])
 (.seq (.seq (.ops [So 32 (.move (.tmp 7)) 36,
 So 33 (.binOp .neq 36 (.tmp 32) (.const (.int .i64 0)) 36) 4] [3, 4, 5, 6, 33])
 (.cond (.tmp 33)
 (.seq (.ops [So 2 (.assign (.const (.bool true))) 4] [2])
 (.ret))
 (.skip)))
 (.seq (.draw [So 35 (.load 34 (.tmp 5)) 34,
 So 36 (.move (.tmp 3)) 25,
 So 37 (.move (.tmp 4)) 27,
 So 38 (.load 30 (.tmp 6)) 30,
 So 39 (.call ⟨.value (.func 15), #[.tmp 36, .tmp 37, .tmp 38, .const (.int .i64 2)], #[25, 27, 30, 3]⟩) 42,
 So 40 (.call ⟨.value (.func 14), #[.tmp 35, .tmp 39], #[34, 42]⟩) 39,
 So 34 (.move (.tmp 40)) 39,
 So 41 (.extract (.tmp 34) 0) 34,
 So 42 (.extract (.tmp 34) 1) 36,
 So 8 (.alloc 34) 0,
 Sn (.store 34 (.tmp 8) (.tmp 41)) 0,
 So 9 (.assign (.tmp 42)) 36] [true, false, false, false, true, true, false, false, false, true, false, false] [4, 8, 9])
 (.seq (.seq (.ops [So 43 (.move (.tmp 9)) 36,
 So 44 (.binOp .neq 36 (.tmp 43) (.const (.int .i64 0)) 36) 4] [4, 8, 9, 44])
 (.cond (.tmp 44)
 (.seq (.ops [So 45 (.move (.tmp 9)) 36,
 So 46 (.binOp .eql 36 (.tmp 45) (.const (.int .i64 4)) 36) 4,
 So 2 (.assign (.tmp 46)) 4] [2])
 (.ret))
 (.skip)))
 (.seq (.ops [So 48 (.load 34 (.tmp 8)) 34,
 So 49 (.call ⟨.value (.func 16), #[.tmp 48], #[34]⟩) 44,
 So 47 (.move (.tmp 49)) 44,
 So 50 (.extract (.tmp 47) 0) 4,
 So 51 (.extract (.tmp 47) 1) 36,
 So 10 (.assign (.tmp 50)) 4,
 So 11 (.assign (.tmp 51)) 36] [4, 8, 10, 11])
 (.seq (.ops [So 52 (.move (.tmp 11)) 36,
 So 53 (.binOp .eql 36 (.tmp 52) (.const (.int .i64 0)) 36) 4,
 So 54 (.move (.tmp 53)) 4,
 Sg 55 (.move (.tmp 10)) 4 54 true,
 Sg 56 (.unOp .not 4 (.tmp 55)) 4 54 true,
 So 57 (.pick (.tmp 54) (.tmp 56) (.const (.bool false))) 4,
 So 58 (.move (.tmp 57)) 4,
 Sg 59 (.move (.tmp 4)) 27 58 true,
 Sg 60 (.load 34 (.tmp 8)) 34 58 true,
 Sg 61 (.call ⟨.value (.func 17), #[.tmp 59, .tmp 60], #[27, 34]⟩) 36 58 true,
 Sg 62 (.binOp .eql 36 (.tmp 61) (.const (.int .i64 0)) 36) 4 58 true,
 So 63 (.pick (.tmp 58) (.tmp 62) (.const (.bool false))) 4,
 So 2 (.assign (.tmp 63)) 4] [2])
 (.ret)))))))))))
theorem w3 : CW 3 s3 [.tmp 2] := fun hr h => callsV_of_p follows cfgT a3 (fn := Tryz.f3) (c := Tryz.f3.body.getD .skip) (by kernel_rfl) (by kernel_rfl) (by kernel_rfl) (by kernel_rfl) (by kernel_rfl) (sc := s3) (by kernel_rfl) [.tmp 2] (by kernel_rfl) hr h
end
end Go.Proofs.YtnpgbkldpdogjaaGreatDoor.V

set_option maxRecDepth 100000
namespace Go.Proofs.YtnpgbkldpdogjaaGreatDoor.V
open Go Go.Proofs
noncomputable section
def a56 : List Ann := [⟨[0], [], []⟩,
 ⟨[0], [], []⟩]
def s56 : SC := .seq (.ops [So 0 (.alloc 30) 0] [0])
 (.seq (.ops [So 1 (.build 30 #[(0, .const (.int .i64 1))]) 30,
 Sn (.store 30 (.tmp 0) (.tmp 1)) 0] [0])
 (.ret))
theorem w56 : CW 56 s56 [.cell 0 30] := fun hr h => callsV_of_p follows cfgT a56 (fn := Tryz.f56) (c := Tryz.f56.body.getD .skip) (by kernel_rfl) (by kernel_rfl) (by kernel_rfl) (by kernel_rfl) (by kernel_rfl) (sc := s56) (by kernel_rfl) [.cell 0 30] (by kernel_rfl) hr h
def a18 : List Ann := [⟨[0], [], []⟩,
 ⟨[0], [], []⟩]
def s18 : SC := .seq (.ops [So 0 (.alloc 30) 0] [0])
 (.seq (.ops [So 1 (.call ⟨.value (.func 56), #[], #[]⟩) 30,
 Sn (.store 30 (.tmp 0) (.tmp 1)) 0] [0])
 (.ret))
theorem w18 : CW 18 s18 [.cell 0 30] := fun hr h => callsV_of_p follows cfgT a18 (fn := Tryz.f18) (c := Tryz.f18.body.getD .skip) (by kernel_rfl) (by kernel_rfl) (by kernel_rfl) (by kernel_rfl) (by kernel_rfl) (sc := s18) (by kernel_rfl) [.cell 0 30] (by kernel_rfl) hr h
def a59 : List Ann := [⟨[1, 2], [], []⟩,
 ⟨[1, 2, 10], [], []⟩,
 ⟨[4], [], []⟩,
 ⟨[1, 12, 13, 14], [], []⟩,
 ⟨[1, 12, 13, 14, 15], [], []⟩,
 ⟨[1, 6, 12, 13, 14], [], []⟩,
 ⟨[1, 12, 13, 14, 21], [], []⟩,
 ⟨[4], [], []⟩,
 ⟨[1, 12, 13, 14], [], []⟩,
 ⟨[4], [], []⟩]
def s59 : SC := .seq (.ops [So 2 (.box 42 (.tmp 0)) 0,
 So 4 (.assign (.const (.bool false))) 4] [1, 2])
 (.seq (.seq (.ops [So 7 (.fieldAddr 42 (.tmp 2) 1) 0,
 So 8 (.load 3 (.tmp 7)) 3,
 So 9 (.move (.tmp 1)) 3,
 So 10 (.binOp .gtr 3 (.tmp 8) (.tmp 9) 3) 4] [1, 2, 10])
 (.cond (.tmp 10)
 (.seq (.ops [So 4 (.assign (.const (.bool false))) 4] [4])
 (.ret))
 (.skip)))
 (.seq (.seq (.ops [So 11 (.fieldAddr 42 (.tmp 2) 3) 0,
 So 12 (.load 31 (.tmp 11)) 31,
 So 13 (.call ⟨.builtin .len, #[.tmp 12], #[31]⟩) 3,
 So 14 (.move (.const (.int .i64 0))) 3] [1, 12, 13, 14])
 (.block 0
 (.loop
 (.seq (.ops [So 15 (.binOp .lss 3 (.tmp 14) (.tmp 13) 3) 0] [1, 12, 13, 14, 15])
 (.seq (.cond (.tmp 15)
 (.skip)
 (.exit 0))
 (.seq (.block 1
 (.seq (.ops [So 16 (.indexAddr 31 (.tmp 12) (.tmp 14)) 0,
 So 17 (.load 42 (.tmp 16)) 42,
 So 6 (.alloc 42) 0,
 Sn (.store 42 (.tmp 6) (.tmp 17)) 0] [1, 6, 12, 13, 14])
 (.seq (.ops [So 18 (.load 42 (.tmp 6)) 42,
 So 19 (.move (.tmp 1)) 3,
 So 20 (.call ⟨.value (.func 59), #[.tmp 18, .tmp 19], #[42, 3]⟩) 4,
 So 21 (.unOp .not 4 (.tmp 20)) 4] [1, 12, 13, 14, 21])
 (.cond (.tmp 21)
 (.seq (.ops [So 4 (.assign (.const (.bool false))) 4] [4])
 (.ret))
 (.skip)))))
 (.ops [So 22 (.binOp .add 3 (.tmp 14) (.const (.int .i64 1)) 3) 3,
 So 14 (.move (.tmp 22)) 3] [1, 12, 13, 14])))))))
 (.seq (.ops [So 4 (.assign (.const (.bool true))) 4] [4])
 (.ret))))
theorem w59 : CW 59 s59 [.tmp 4] := fun hr h => callsV_of_p follows cfgT a59 (fn := Tryz.f59) (c := Tryz.f59.body.getD .skip) (by kernel_rfl) (by kernel_rfl) (by kernel_rfl) (by kernel_rfl) (by kernel_rfl) (sc := s59) (by kernel_rfl) [.tmp 4] (by kernel_rfl) hr h
def a58 : List Ann := [⟨[1, 2], [], []⟩,
 ⟨[1, 2, 10, 11, 12], [], []⟩,
 ⟨[1, 2, 10, 11, 12, 13], [], []⟩,
 ⟨[1, 2, 6, 10, 11, 12], [], []⟩,
 ⟨[1, 2, 10, 11, 12, 19], [], []⟩,
 ⟨[4], [], []⟩,
 ⟨[1, 2, 10, 11, 12], [], []⟩,
 ⟨[1, 22, 23, 24], [], []⟩,
 ⟨[1, 22, 23, 24, 25], [], []⟩,
 ⟨[1, 8, 22, 23, 24], [], []⟩,
 ⟨[1, 22, 23, 24, 31], [], []⟩,
 ⟨[4], [], []⟩,
 ⟨[1, 22, 23, 24], [], []⟩,
 ⟨[4], [], []⟩]
def s58 : SC := .seq (.ops [So 2 (.box 34 (.tmp 0)) 0,
 So 4 (.assign (.const (.bool false))) 4] [1, 2])
 (.seq (.seq (.ops [So 9 (.fieldAddr 34 (.tmp 2) 2) 0,
 So 10 (.load 31 (.tmp 9)) 31,
 So 11 (.call ⟨.builtin .len, #[.tmp 10], #[31]⟩) 3,
 So 12 (.move (.const (.int .i64 0))) 3] [1, 2, 10, 11, 12])
 (.block 0
 (.loop
 (.seq (.ops [So 13 (.binOp .lss 3 (.tmp 12) (.tmp 11) 3) 0] [1, 2, 10, 11, 12, 13])
 (.seq (.cond (.tmp 13)
 (.skip)
 (.exit 0))
 (.seq (.block 1
 (.seq (.ops [So 14 (.indexAddr 31 (.tmp 10) (.tmp 12)) 0,
 So 15 (.load 42 (.tmp 14)) 42,
 So 6 (.alloc 42) 0,
 Sn (.store 42 (.tmp 6) (.tmp 15)) 0] [1, 2, 6, 10, 11, 12])
 (.seq (.ops [So 16 (.load 42 (.tmp 6)) 42,
 So 17 (.move (.tmp 1)) 3,
 So 18 (.call ⟨.value (.func 59), #[.tmp 16, .tmp 17], #[42, 3]⟩) 4,
 So 19 (.unOp .not 4 (.tmp 18)) 4] [1, 2, 10, 11, 12, 19])
 (.cond (.tmp 19)
 (.seq (.ops [So 4 (.assign (.const (.bool false))) 4] [4])
 (.ret))
 (.skip)))))
 (.ops [So 20 (.binOp .add 3 (.tmp 12) (.const (.int .i64 1)) 3) 3,
 So 12 (.move (.tmp 20)) 3] [1, 2, 10, 11, 12])))))))
 (.seq (.seq (.ops [So 21 (.fieldAddr 34 (.tmp 2) 3) 0,
 So 22 (.load 32 (.tmp 21)) 32,
 So 23 (.call ⟨.builtin .len, #[.tmp 22], #[32]⟩) 3,
 So 24 (.move (.const (.int .i64 0))) 3] [1, 22, 23, 24])
 (.block 2
 (.loop
 (.seq (.ops [So 25 (.binOp .lss 3 (.tmp 24) (.tmp 23) 3) 0] [1, 22, 23, 24, 25])
 (.seq (.cond (.tmp 25)
 (.skip)
 (.exit 2))
 (.seq (.block 3
 (.seq (.ops [So 26 (.indexAddr 32 (.tmp 22) (.tmp 24)) 0,
 So 27 (.load 34 (.tmp 26)) 34,
 So 8 (.alloc 34) 0,
 Sn (.store 34 (.tmp 8) (.tmp 27)) 0] [1, 8, 22, 23, 24])
 (.seq (.ops [So 28 (.load 34 (.tmp 8)) 34,
 So 29 (.move (.tmp 1)) 3,
 So 30 (.call ⟨.value (.func 58), #[.tmp 28, .tmp 29], #[34, 3]⟩) 4,
 So 31 (.unOp .not 4 (.tmp 30)) 4] [1, 22, 23, 24, 31])
 (.cond (.tmp 31)
 (.seq (.ops [So 4 (.assign (.const (.bool false))) 4] [4])
 (.ret))
 (.skip)))))
 (.ops [So 32 (.binOp .add 3 (.tmp 24) (.const (.int .i64 1)) 3) 3,
 So 24 (.move (.tmp 32)) 3] [1, 22, 23, 24])))))))
 (.seq (.ops [So 4 (.assign (.const (.bool true))) 4] [4])
 (.ret))))
theorem w58 : CW 58 s58 [.tmp 4] := fun hr h => callsV_of_p follows cfgT a58 (fn := Tryz.f58) (c := Tryz.f58.body.getD .skip) (by kernel_rfl) (by kernel_rfl) (by kernel_rfl) (by kernel_rfl) (by kernel_rfl) (sc := s58) (by kernel_rfl) [.tmp 4] (by kernel_rfl) hr h
def a106 : List Ann := [⟨[1], [], []⟩,
 ⟨[5], [], []⟩,
 ⟨[2], [], []⟩,
 ⟨[2], [], []⟩]
def s106 : SC := .seq (.ops [So 1 (.box 42 (.tmp 0)) 0,
 So 2 (.assign (.const (.int .i64 0))) 3] [1])
 (.seq (.seq (.ops [So 3 (.fieldAddr 42 (.tmp 1) 0) 0,
 So 4 (.load 3 (.tmp 3)) 3,
 So 5 (.binOp .eql 3 (.tmp 4) (.const (.int .i64 2)) 3) 4] [5])
 (.cond (.tmp 5)
 (.seq (.ops [So 2 (.assign (.const (.int .i64 1))) 3] [2])
 (.ret))
 (.skip)))
 (.seq (.ops [So 2 (.assign (.const (.int .i64 0))) 3] [2])
 (.ret)))
theorem w106 : CW 106 s106 [.tmp 2] := fun hr h => callsV_of_p follows cfgT a106 (fn := Tryz.f106) (c := Tryz.f106.body.getD .skip) (by kernel_rfl) (by kernel_rfl) (by kernel_rfl) (by kernel_rfl) (by kernel_rfl) (sc := s106) (by kernel_rfl) [.tmp 2] (by kernel_rfl) hr h
def a65 : List Ann := [⟨[1, 2], [], []⟩,
 ⟨[1, 2, 5], [], []⟩,
 ⟨[1, 2, 5, 16], [], []⟩,
 ⟨[1, 2, 5], [], []⟩,
 ⟨[1, 2, 5, 20, 21, 22], [], []⟩,
 ⟨[1, 2, 5, 20, 21, 22, 23], [], []⟩,
 ⟨[1, 2, 5, 7, 20, 21, 22], [], []⟩,
 ⟨[1, 2, 5, 20, 21, 22], [0, 0, 0, 0, 8, 28, 62, 127, 255], [false, true, false, false, true, false, false, false, false]⟩,
 ⟨[1, 2, 5, 20, 21, 22], [], []⟩,
 ⟨[4], [], []⟩]
def s65 : SC := .seq (.ops [So 2 (.box 42 (.tmp 0)) 0,
 So 4 (.assign (.const (.int .i64 0))) 3] [1, 2])
 (.seq (.ops [So 5 (.assign (.const (.int .i64 0))) 3] [1, 2, 5])
 (.seq (.seq (.ops [So 8 (.fieldAddr 42 (.tmp 2) 0) 0,
 So 9 (.load 3 (.tmp 8)) 3,
 So 10 (.binOp .eql 3 (.tmp 9) (.const (.int .i64 1)) 3) 4,
 So 11 (.move (.tmp 10)) 4,
 Sg 12 (.fieldAddr 42 (.tmp 2) 1) 0 11 true,
 Sg 13 (.load 3 (.tmp 12)) 3 11 true,
 Sg 14 (.move (.tmp 1)) 3 11 true,
 Sg 15 (.binOp .eql 3 (.tmp 13) (.tmp 14) 3) 4 11 true,
 So 16 (.pick (.tmp 11) (.tmp 15) (.const (.bool false))) 4] [1, 2, 5, 16])
 (.cond (.tmp 16)
 (.ops [So 17 (.move (.tmp 5)) 3,
 So 18 (.binOp .add 3 (.tmp 17) (.const (.int .i64 1)) 3) 3,
 So 5 (.assign (.tmp 18)) 3] [1, 2, 5])
 (.skip)))
 (.seq (.seq (.ops [So 19 (.fieldAddr 42 (.tmp 2) 3) 0,
 So 20 (.load 31 (.tmp 19)) 31,
 So 21 (.call ⟨.builtin .len, #[.tmp 20], #[31]⟩) 3,
 So 22 (.move (.const (.int .i64 0))) 3] [1, 2, 5, 20, 21, 22])
 (.block 0
 (.loop
 (.seq (.ops [So 23 (.binOp .lss 3 (.tmp 22) (.tmp 21) 3) 0] [1, 2, 5, 20, 21, 22, 23])
 (.seq (.cond (.tmp 23)
 (.skip)
 (.exit 0))
 (.seq (.block 1
 (.seq (.ops [So 24 (.indexAddr 31 (.tmp 20) (.tmp 22)) 0,
 So 25 (.load 42 (.tmp 24)) 42,
 So 7 (.alloc 42) 0,
 Sn (.store 42 (.tmp 7) (.tmp 25)) 0] [1, 2, 5, 7, 20, 21, 22])
 (.draw [So 26 (.move (.tmp 5)) 3,
 So 27 (.load 42 (.tmp 7)) 42,
 So 28 (.move (.tmp 1)) 3,
 So 29 (.load 42 (.tmp 2)) 42,
 So 30 (.call ⟨.value (.func 106), #[.tmp 29], #[42]⟩) 3,
 So 31 (.binOp .add 3 (.tmp 28) (.tmp 30) 3) 3,
 So 32 (.call ⟨.value (.func 65), #[.tmp 27, .tmp 31], #[42, 3]⟩) 3,
 So 33 (.binOp .add 3 (.tmp 26) (.tmp 32) 3) 3,
 So 5 (.assign (.tmp 33)) 3] [false, true, false, false, true, false, false, false, false] [1, 2, 5, 20, 21, 22])))
 (.ops [So 34 (.binOp .add 3 (.tmp 22) (.const (.int .i64 1)) 3) 3,
 So 22 (.move (.tmp 34)) 3] [1, 2, 5, 20, 21, 22])))))))
 (.seq (.ops [So 35 (.move (.tmp 5)) 3,
 So 4 (.assign (.tmp 35)) 3] [4])
 (.ret)))))
theorem w65 : CW 65 s65 [.tmp 4] := fun hr h => callsV_of_p follows cfgT a65 (fn := Tryz.f65) (c := Tryz.f65.body.getD .skip) (by kernel_rfl) (by kernel_rfl) (by kernel_rfl) (by kernel_rfl) (by kernel_rfl) (sc := s65) (by kernel_rfl) [.tmp 4] (by kernel_rfl) hr h
def a105 : List Ann := [⟨[1], [], []⟩,
 ⟨[5], [], []⟩,
 ⟨[2], [], []⟩,
 ⟨[2], [], []⟩]
def s105 : SC := .seq (.ops [So 1 (.box 34 (.tmp 0)) 0,
 So 2 (.assign (.const (.int .i64 0))) 3] [1])
 (.seq (.seq (.ops [So 3 (.fieldAddr 34 (.tmp 1) 0) 0,
 So 4 (.load 3 (.tmp 3)) 3,
 So 5 (.call ⟨.value (.func 118), #[.tmp 4], #[3]⟩) 4] [5])
 (.cond (.tmp 5)
 (.seq (.ops [So 2 (.assign (.const (.int .i64 1))) 3] [2])
 (.ret))
 (.skip)))
 (.seq (.ops [So 2 (.assign (.const (.int .i64 0))) 3] [2])
 (.ret)))
theorem w105 : CW 105 s105 [.tmp 2] := fun hr h => callsV_of_p follows cfgT a105 (fn := Tryz.f105) (c := Tryz.f105.body.getD .skip) (by kernel_rfl) (by kernel_rfl) (by kernel_rfl) (by kernel_rfl) (by kernel_rfl) (sc := s105) (by kernel_rfl) [.tmp 2] (by kernel_rfl) hr h
def a61 : List Ann := [⟨[1, 2], [], []⟩,
 ⟨[1, 2, 5], [], []⟩,
 ⟨[1, 2, 5, 11, 12, 13], [], []⟩,
 ⟨[1, 2, 5, 11, 12, 13, 14], [], []⟩,
 ⟨[1, 2, 5, 7, 11, 12, 13], [], []⟩,
 ⟨[1, 2, 5, 11, 12, 13], [], []⟩,
 ⟨[1, 2, 5, 11, 12, 13], [], []⟩,
 ⟨[1, 2, 5, 24, 25, 26], [], []⟩,
 ⟨[1, 2, 5, 24, 25, 26, 27], [], []⟩,
 ⟨[1, 2, 5, 9, 24, 25, 26], [], []⟩,
 ⟨[1, 2, 5, 24, 25, 26], [0, 0, 0, 0, 8, 28, 62, 127, 255], [false, true, false, false, true, false, false, false, false]⟩,
 ⟨[1, 2, 5, 24, 25, 26], [], []⟩,
 ⟨[4], [], []⟩]
def s61 : SC := .seq (.ops [So 2 (.box 34 (.tmp 0)) 0,
 So 4 (.assign (.const (.int .i64 0))) 3] [1, 2])
 (.seq (.ops [So 5 (.assign (.const (.int .i64 0))) 3] [1, 2, 5])
 (.seq (.seq (.ops [So 10 (.fieldAddr 34 (.tmp 2) 2) 0,
 So 11 (.load 31 (.tmp 10)) 31,
 So 12 (.call ⟨.builtin .len, #[.tmp 11], #[31]⟩) 3,
 So 13 (.move (.const (.int .i64 0))) 3] [1, 2, 5, 11, 12, 13])
 (.block 0
 (.loop
 (.seq (.ops [So 14 (.binOp .lss 3 (.tmp 13) (.tmp 12) 3) 0] [1, 2, 5, 11, 12, 13, 14])
 (.seq (.cond (.tmp 14)
 (.skip)
 (.exit 0))
 (.seq (.block 1
 (.seq (.ops [So 15 (.indexAddr 31 (.tmp 11) (.tmp 13)) 0,
 So 16 (.load 42 (.tmp 15)) 42,
 So 7 (.alloc 42) 0,
 Sn (.store 42 (.tmp 7) (.tmp 16)) 0] [1, 2, 5, 7, 11, 12, 13])
 (.ops [So 17 (.move (.tmp 5)) 3,
 So 18 (.load 42 (.tmp 7)) 42,
 So 19 (.move (.tmp 1)) 3,
 So 20 (.call ⟨.value (.func 65), #[.tmp 18, .tmp 19], #[42, 3]⟩) 3,
 So 21 (.binOp .add 3 (.tmp 17) (.tmp 20) 3) 3,
 So 5 (.assign (.tmp 21)) 3] [1, 2, 5, 11, 12, 13])))
 (.ops [So 22 (.binOp .add 3 (.tmp 13) (.const (.int .i64 1)) 3) 3,
 So 13 (.move (.tmp 22)) 3] [1, 2, 5, 11, 12, 13])))))))
 (.seq (.seq (.ops [So 23 (.fieldAddr 34 (.tmp 2) 3) 0,
 So 24 (.load 32 (.tmp 23)) 32,
 So 25 (.call ⟨.builtin .len, #[.tmp 24], #[32]⟩) 3,
 So 26 (.move (.const (.int .i64 0))) 3] [1, 2, 5, 24, 25, 26])
 (.block 2
 (.loop
 (.seq (.ops [So 27 (.binOp .lss 3 (.tmp 26) (.tmp 25) 3) 0] [1, 2, 5, 24, 25, 26, 27])
 (.seq (.cond (.tmp 27)
 (.skip)
 (.exit 2))
 (.seq (.block 3
 (.seq (.ops [So 28 (.indexAddr 32 (.tmp 24) (.tmp 26)) 0,
 So 29 (.load 34 (.tmp 28)) 34,
 So 9 (.alloc 34) 0,
 Sn (.store 34 (.tmp 9) (.tmp 29)) 0] [1, 2, 5, 9, 24, 25, 26])
 (.draw [So 30 (.move (.tmp 5)) 3,
 So 31 (.load 34 (.tmp 9)) 34,
 So 32 (.move (.tmp 1)) 3,
 So 33 (.load 34 (.tmp 2)) 34,
 So 34 (.call ⟨.value (.func 105), #[.tmp 33], #[34]⟩) 3,
 So 35 (.binOp .add 3 (.tmp 32) (.tmp 34) 3) 3,
 So 36 (.call ⟨.value (.func 61), #[.tmp 31, .tmp 35], #[34, 3]⟩) 3,
 So 37 (.binOp .add 3 (.tmp 30) (.tmp 36) 3) 3,
 So 5 (.assign (.tmp 37)) 3] [false, true, false, false, true, false, false, false, false] [1, 2, 5, 24, 25, 26])))
 (.ops [So 38 (.binOp .add 3 (.tmp 26) (.const (.int .i64 1)) 3) 3,
 So 26 (.move (.tmp 38)) 3] [1, 2, 5, 24, 25, 26])))))))
 (.seq (.ops [So 39 (.move (.tmp 5)) 3,
 So 4 (.assign (.tmp 39)) 3] [4])
 (.ret)))))
theorem w61 : CW 61 s61 [.tmp 4] := fun hr h => callsV_of_p follows cfgT a61 (fn := Tryz.f61) (c := Tryz.f61.body.getD .skip) (by kernel_rfl) (by kernel_rfl) (by kernel_rfl) (by kernel_rfl) (by kernel_rfl) (sc := s61) (by kernel_rfl) [.tmp 4] (by kernel_rfl) hr h
def a107 : List Ann := [⟨[1, 2, 3, 6], [], []⟩,
 ⟨[1, 2, 3, 6, 7], [], []⟩,
 ⟨[1, 2, 3, 6, 7, 25], [], []⟩,
 ⟨[1, 2, 3, 6, 7], [], []⟩,
 ⟨[1, 2, 3, 6, 7, 32, 33, 34], [], []⟩,
 ⟨[1, 2, 3, 6, 7, 32, 33, 34, 35], [], []⟩,
 ⟨[1, 2, 3, 6, 7, 9, 32, 33, 34], [], []⟩,
 ⟨[1, 2, 3, 6, 7, 32, 33, 34], [0, 1, 0, 0, 0, 16, 56, 0, 252, 508, 1023, 2047, 4095], [false, true, true, false, false, true, false, false, true, false, false, false, false]⟩,
 ⟨[1, 2, 3, 6, 7, 32, 33, 34], [], []⟩,
 ⟨[6], [], []⟩]
def s107 : SC := .seq (.ops [So 3 (.box 42 (.tmp 0)) 0,
 So 6 (.alloc 42) 0] [1, 2, 3, 6])
 (.seq (.ops [So 10 (.fieldAddr 42 (.tmp 3) 0) 0,
 So 11 (.load 3 (.tmp 10)) 3,
 So 12 (.fieldAddr 42 (.tmp 3) 1) 0,
 So 13 (.load 3 (.tmp 12)) 3,
 So 14 (.fieldAddr 42 (.tmp 3) 2) 0,
 So 15 (.load 30 (.tmp 14)) 30,
 So 16 (.build 42 #[(0, .tmp 11), (1, .tmp 13), (2, .tmp 15)]) 42,
 So 7 (.alloc 42) 0,
 Sn (.store 42 (.tmp 7) (.tmp 16)) 0] [1, 2, 3, 6, 7])
 (.seq (.seq (.ops [So 17 (.fieldAddr 42 (.tmp 3) 0) 0,
 So 18 (.load 3 (.tmp 17)) 3,
 So 19 (.binOp .eql 3 (.tmp 18) (.const (.int .i64 1)) 3) 4,
 So 20 (.move (.tmp 19)) 4,
 Sg 21 (.fieldAddr 42 (.tmp 3) 1) 0 20 true,
 Sg 22 (.load 3 (.tmp 21)) 3 20 true,
 Sg 23 (.move (.tmp 1)) 3 20 true,
 Sg 24 (.binOp .geq 3 (.tmp 22) (.tmp 23) 3) 4 20 true,
 So 25 (.pick (.tmp 20) (.tmp 24) (.const (.bool false))) 4] [1, 2, 3, 6, 7, 25])
 (.cond (.tmp 25)
 (.ops [So 26 (.fieldAddr 42 (.tmp 7) 1) 0,
 So 27 (.load 3 (.tmp 26)) 3,
 So 28 (.move (.tmp 2)) 3,
 So 29 (.binOp .add 3 (.tmp 27) (.tmp 28) 3) 3,
 So 30 (.fieldAddr 42 (.tmp 7) 1) 0,
 Sn (.store 3 (.tmp 30) (.tmp 29)) 0] [1, 2, 3, 6, 7])
 (.skip)))
 (.seq (.seq (.ops [So 31 (.fieldAddr 42 (.tmp 3) 3) 0,
 So 32 (.load 31 (.tmp 31)) 31,
 So 33 (.call ⟨.builtin .len, #[.tmp 32], #[31]⟩) 3,
 So 34 (.move (.const (.int .i64 0))) 3] [1, 2, 3, 6, 7, 32, 33, 34])
 (.block 0
 (.loop
 (.seq (.ops [So 35 (.binOp .lss 3 (.tmp 34) (.tmp 33) 3) 0] [1, 2, 3, 6, 7, 32, 33, 34, 35])
 (.seq (.cond (.tmp 35)
 (.skip)
 (.exit 0))
 (.seq (.block 1
 (.seq (.ops [So 36 (.indexAddr 31 (.tmp 32) (.tmp 34)) 0,
 So 37 (.load 42 (.tmp 36)) 42,
 So 9 (.alloc 42) 0,
 Sn (.store 42 (.tmp 9) (.tmp 37)) 0] [1, 2, 3, 6, 7, 9, 32, 33, 34])
 (.draw [So 38 (.fieldAddr 42 (.tmp 7) 3) 0,
 So 39 (.load 31 (.tmp 38)) 31,
 So 40 (.load 42 (.tmp 9)) 42,
 So 41 (.move (.tmp 1)) 3,
 So 42 (.load 42 (.tmp 3)) 42,
 So 43 (.call ⟨.value (.func 106), #[.tmp 42], #[42]⟩) 3,
 So 44 (.binOp .add 3 (.tmp 41) (.tmp 43) 3) 3,
 So 45 (.move (.tmp 2)) 3,
 So 46 (.call ⟨.value (.func 107), #[.tmp 40, .tmp 44, .tmp 45], #[42, 3, 3]⟩) 42,
 So 47 (.buildSlice 31 1 #[(0, .tmp 46)]) 31,
 So 48 (.call ⟨.builtin .append, #[.tmp 39, .tmp 47], #[31, 31]⟩) 31,
 So 49 (.fieldAddr 42 (.tmp 7) 3) 0,
 Sn (.store 31 (.tmp 49) (.tmp 48)) 0] [false, true, true, false, false, true, false, false, true, false, false, false, false] [1, 2, 3, 6, 7, 32, 33, 34])))
 (.ops [So 50 (.binOp .add 3 (.tmp 34) (.const (.int .i64 1)) 3) 3,
 So 34 (.move (.tmp 50)) 3] [1, 2, 3, 6, 7, 32, 33, 34])))))))
 (.seq (.ops [So 51 (.load 42 (.tmp 7)) 42,
 Sn (.store 42 (.tmp 6) (.tmp 51)) 0] [6])
 (.ret)))))
theorem w107 : CW 107 s107 [.cell 6 42] := fun hr h => callsV_of_p follows cfgT a107 (fn := Tryz.f107) (c := Tryz.f107.body.getD .skip) (by kernel_rfl) (by kernel_rfl) (by kernel_rfl) (by kernel_rfl) (by kernel_rfl) (sc := s107) (by kernel_rfl) [.cell 6 42] (by kernel_rfl) hr h
def a67 : List Ann := [⟨[1, 2, 4, 7, 8], [], []⟩,
 ⟨[1, 2, 4, 7, 8, 14], [], []⟩,
 ⟨[1, 2, 4, 7, 8, 20], [], []⟩,
 ⟨[8], [], []⟩,
 ⟨[4, 8, 31], [], []⟩,
 ⟨[8], [], []⟩,
 ⟨[8], [], []⟩,
 ⟨[1, 2, 4, 7, 8, 9], [], []⟩,
 ⟨[1, 2, 4, 7, 8, 9, 45, 46, 47], [], []⟩,
 ⟨[1, 2, 4, 7, 8, 9, 45, 46, 47, 48], [], []⟩,
 ⟨[1, 2, 4, 7, 8, 9, 11, 45, 46, 47], [], []⟩,
 ⟨[1, 2, 4, 7, 8, 9, 45, 46, 47], [0, 1, 0, 0, 0, 0, 32, 112, 0, 508, 1020, 2047, 4095, 8191], [false, true, true, false, false, false, true, false, true, true, false, false, false, false]⟩,
 ⟨[1, 2, 4, 7, 8, 9, 45, 46, 47], [], []⟩,
 ⟨[8], [], []⟩]
def s67 : SC := .seq (.ops [So 4 (.box 42 (.tmp 0)) 0,
 So 7 (.box 42 (.tmp 3)) 0,
 So 8 (.alloc 42) 0] [1, 2, 4, 7, 8])
 (.seq (.seq (.ops [So 12 (.fieldAddr 42 (.tmp 4) 0) 0,
 So 13 (.load 3 (.tmp 12)) 3,
 So 14 (.binOp .eql 3 (.tmp 13) (.const (.int .i64 1)) 3) 4] [1, 2, 4, 7, 8, 14])
 (.cond (.tmp 14)
 (.seq (.seq (.ops [So 15 (.fieldAddr 42 (.tmp 4) 1) 0,
 So 16 (.load 3 (.tmp 15)) 3,
 So 17 (.move (.tmp 1)) 3,
 So 18 (.move (.tmp 2)) 3,
 So 19 (.binOp .add 3 (.tmp 17) (.tmp 18) 3) 3,
 So 20 (.binOp .eql 3 (.tmp 16) (.tmp 19) 3) 4] [1, 2, 4, 7, 8, 20])
 (.cond (.tmp 20)
 (.seq (.ops [So 21 (.load 42 (.tmp 7)) 42,
 So 22 (.move (.tmp 1)) 3,
 So 23 (.move (.tmp 2)) 3,
 So 24 (.binOp .add 3 (.tmp 22) (.tmp 23) 3) 3,
 So 25 (.call ⟨.value (.func 107), #[.tmp 21, .const (.int .i64 0), .tmp 24], #[42, 3, 3]⟩) 42,
 Sn (.store 42 (.tmp 8) (.tmp 25)) 0] [8])
 (.ret))
 (.skip)))
 (.seq (.seq (.ops [So 26 (.fieldAddr 42 (.tmp 4) 1) 0,
 So 27 (.load 3 (.tmp 26)) 3,
 So 28 (.move (.tmp 1)) 3,
 So 29 (.move (.tmp 2)) 3,
 So 30 (.binOp .add 3 (.tmp 28) (.tmp 29) 3) 3,
 So 31 (.binOp .gtr 3 (.tmp 27) (.tmp 30) 3) 4] [4, 8, 31])
 (.cond (.tmp 31)
 (.seq (.ops [So 32 (.fieldAddr 42 (.tmp 4) 1) 0,
 So 33 (.load 3 (.tmp 32)) 3,
 So 34 (.binOp .sub 3 (.tmp 33) (.const (.int .i64 1)) 3) 3,
 So 35 (.call ⟨.value (.func 44), #[.tmp 34], #[3]⟩) 42,
 Sn (.store 42 (.tmp 8) (.tmp 35)) 0] [8])
 (.ret))
 (.skip)))
 (.seq (.ops [So 36 (.load 42 (.tmp 4)) 42,
 Sn (.store 42 (.tmp 8) (.tmp 36)) 0] [8])
 (.ret))))
 (.skip)))
 (.seq (.ops [So 37 (.fieldAddr 42 (.tmp 4) 0) 0,
 So 38 (.load 3 (.tmp 37)) 3,
 So 39 (.fieldAddr 42 (.tmp 4) 1) 0,
 So 40 (.load 3 (.tmp 39)) 3,
 So 41 (.fieldAddr 42 (.tmp 4) 2) 0,
 So 42 (.load 30 (.tmp 41)) 30,
 So 43 (.build 42 #[(0, .tmp 38), (1, .tmp 40), (2, .tmp 42)]) 42,
 So 9 (.alloc 42) 0,
 Sn (.store 42 (.tmp 9) (.tmp 43)) 0] [1, 2, 4, 7, 8, 9])
 (.seq (.seq (.ops [So 44 (.fieldAddr 42 (.tmp 4) 3) 0,
 So 45 (.load 31 (.tmp 44)) 31,
 So 46 (.call ⟨.builtin .len, #[.tmp 45], #[31]⟩) 3,
 So 47 (.move (.const (.int .i64 0))) 3] [1, 2, 4, 7, 8, 9, 45, 46, 47])
 (.block 0
 (.loop
 (.seq (.ops [So 48 (.binOp .lss 3 (.tmp 47) (.tmp 46) 3) 0] [1, 2, 4, 7, 8, 9, 45, 46, 47, 48])
 (.seq (.cond (.tmp 48)
 (.skip)
 (.exit 0))
 (.seq (.block 1
 (.seq (.ops [So 49 (.indexAddr 31 (.tmp 45) (.tmp 47)) 0,
 So 50 (.load 42 (.tmp 49)) 42,
 So 11 (.alloc 42) 0,
 Sn (.store 42 (.tmp 11) (.tmp 50)) 0] [1, 2, 4, 7, 8, 9, 11, 45, 46, 47])
 (.draw [So 51 (.fieldAddr 42 (.tmp 9) 3) 0,
 So 52 (.load 31 (.tmp 51)) 31,
 So 53 (.load 42 (.tmp 11)) 42,
 So 54 (.move (.tmp 1)) 3,
 So 55 (.move (.tmp 2)) 3,
 So 56 (.load 42 (.tmp 4)) 42,
 So 57 (.call ⟨.value (.func 106), #[.tmp 56], #[42]⟩) 3,
 So 58 (.binOp .add 3 (.tmp 55) (.tmp 57) 3) 3,
 So 59 (.load 42 (.tmp 7)) 42,
 So 60 (.call ⟨.value (.func 67), #[.tmp 53, .tmp 54, .tmp 58, .tmp 59], #[42, 3, 3, 42]⟩) 42,
 So 61 (.buildSlice 31 1 #[(0, .tmp 60)]) 31,
 So 62 (.call ⟨.builtin .append, #[.tmp 52, .tmp 61], #[31, 31]⟩) 31,
 So 63 (.fieldAddr 42 (.tmp 9) 3) 0,
 Sn (.store 31 (.tmp 63) (.tmp 62)) 0] [false, true, true, false, false, false, true, false, true, true, false, false, false, false] [1, 2, 4, 7, 8, 9, 45, 46, 47])))
 (.ops [So 64 (.binOp .add 3 (.tmp 47) (.const (.int .i64 1)) 3) 3,
 So 47 (.move (.tmp 64)) 3] [1, 2, 4, 7, 8, 9, 45, 46, 47])))))))
 (.seq (.ops [So 65 (.load 42 (.tmp 9)) 42,
 Sn (.store 42 (.tmp 8) (.tmp 65)) 0] [8])
 (.ret)))))
theorem w67 : CW 67 s67 [.cell 8 42] := fun hr h => callsV_of_p follows cfgT a67 (fn := Tryz.f67) (c := Tryz.f67.body.getD .skip) (by kernel_rfl) (by kernel_rfl) (by kernel_rfl) (by kernel_rfl) (by kernel_rfl) (sc := s67) (by kernel_rfl) [.cell 8 42] (by kernel_rfl) hr h
def a64 : List Ann := [⟨[1, 2, 4, 7, 8], [], []⟩,
 ⟨[1, 2, 4, 7, 8, 9], [], []⟩,
 ⟨[1, 2, 4, 7, 8, 9, 20, 21, 22], [], []⟩,
 ⟨[1, 2, 4, 7, 8, 9, 20, 21, 22, 23], [], []⟩,
 ⟨[1, 2, 4, 7, 8, 9, 11, 20, 21, 22], [], []⟩,
 ⟨[1, 2, 4, 7, 8, 9, 20, 21, 22], [0, 1, 0, 0, 0, 0, 60, 124, 255, 511, 1023], [false, true, false, false, false, false, true, false, false, false, false]⟩,
 ⟨[1, 2, 4, 7, 8, 9, 20, 21, 22], [], []⟩,
 ⟨[1, 2, 4, 7, 8, 9, 38, 39, 40], [], []⟩,
 ⟨[1, 2, 4, 7, 8, 9, 38, 39, 40, 41], [], []⟩,
 ⟨[1, 2, 4, 7, 8, 9, 13, 38, 39, 40], [], []⟩,
 ⟨[1, 2, 4, 7, 8, 9, 38, 39, 40], [0, 1, 0, 0, 0, 0, 32, 112, 0, 508, 1020, 2047, 4095, 8191], [false, true, true, false, false, false, true, false, true, true, false, false, false, false]⟩,
 ⟨[1, 2, 4, 7, 8, 9, 38, 39, 40], [], []⟩,
 ⟨[8], [], []⟩]
def s64 : SC := .seq (.ops [So 4 (.box 34 (.tmp 0)) 0,
 So 7 (.box 42 (.tmp 3)) 0,
 So 8 (.alloc 34) 0] [1, 2, 4, 7, 8])
 (.seq (.ops [So 14 (.fieldAddr 34 (.tmp 4) 0) 0,
 So 15 (.load 3 (.tmp 14)) 3,
 So 16 (.fieldAddr 34 (.tmp 4) 1) 0,
 So 17 (.load 30 (.tmp 16)) 30,
 So 18 (.build 34 #[(0, .tmp 15), (1, .tmp 17)]) 34,
 So 9 (.alloc 34) 0,
 Sn (.store 34 (.tmp 9) (.tmp 18)) 0] [1, 2, 4, 7, 8, 9])
 (.seq (.seq (.ops [So 19 (.fieldAddr 34 (.tmp 4) 2) 0,
 So 20 (.load 31 (.tmp 19)) 31,
 So 21 (.call ⟨.builtin .len, #[.tmp 20], #[31]⟩) 3,
 So 22 (.move (.const (.int .i64 0))) 3] [1, 2, 4, 7, 8, 9, 20, 21, 22])
 (.block 0
 (.loop
 (.seq (.ops [So 23 (.binOp .lss 3 (.tmp 22) (.tmp 21) 3) 0] [1, 2, 4, 7, 8, 9, 20, 21, 22, 23])
 (.seq (.cond (.tmp 23)
 (.skip)
 (.exit 0))
 (.seq (.block 1
 (.seq (.ops [So 24 (.indexAddr 31 (.tmp 20) (.tmp 22)) 0,
 So 25 (.load 42 (.tmp 24)) 42,
 So 11 (.alloc 42) 0,
 Sn (.store 42 (.tmp 11) (.tmp 25)) 0] [1, 2, 4, 7, 8, 9, 11, 20, 21, 22])
 (.draw [So 26 (.fieldAddr 34 (.tmp 9) 2) 0,
 So 27 (.load 31 (.tmp 26)) 31,
 So 28 (.load 42 (.tmp 11)) 42,
 So 29 (.move (.tmp 1)) 3,
 So 30 (.move (.tmp 2)) 3,
 So 31 (.load 42 (.tmp 7)) 42,
 So 32 (.call ⟨.value (.func 67), #[.tmp 28, .tmp 29, .tmp 30, .tmp 31], #[42, 3, 3, 42]⟩) 42,
 So 33 (.buildSlice 31 1 #[(0, .tmp 32)]) 31,
 So 34 (.call ⟨.builtin .append, #[.tmp 27, .tmp 33], #[31, 31]⟩) 31,
 So 35 (.fieldAddr 34 (.tmp 9) 2) 0,
 Sn (.store 31 (.tmp 35) (.tmp 34)) 0] [false, true, false, false, false, false, true, false, false, false, false] [1, 2, 4, 7, 8, 9, 20, 21, 22])))
 (.ops [So 36 (.binOp .add 3 (.tmp 22) (.const (.int .i64 1)) 3) 3,
 So 22 (.move (.tmp 36)) 3] [1, 2, 4, 7, 8, 9, 20, 21, 22])))))))
 (.seq (.seq (.ops [So 37 (.fieldAddr 34 (.tmp 4) 3) 0,
 So 38 (.load 32 (.tmp 37)) 32,
 So 39 (.call ⟨.builtin .len, #[.tmp 38], #[32]⟩) 3,
 So 40 (.move (.const (.int .i64 0))) 3] [1, 2, 4, 7, 8, 9, 38, 39, 40])
 (.block 2
 (.loop
 (.seq (.ops [So 41 (.binOp .lss 3 (.tmp 40) (.tmp 39) 3) 0] [1, 2, 4, 7, 8, 9, 38, 39, 40, 41])
 (.seq (.cond (.tmp 41)
 (.skip)
 (.exit 2))
 (.seq (.block 3
 (.seq (.ops [So 42 (.indexAddr 32 (.tmp 38) (.tmp 40)) 0,
 So 43 (.load 34 (.tmp 42)) 34,
 So 13 (.alloc 34) 0,
 Sn (.store 34 (.tmp 13) (.tmp 43)) 0] [1, 2, 4, 7, 8, 9, 13, 38, 39, 40])
 (.draw [So 44 (.fieldAddr 34 (.tmp 9) 3) 0,
 So 45 (.load 32 (.tmp 44)) 32,
 So 46 (.load 34 (.tmp 13)) 34,
 So 47 (.move (.tmp 1)) 3,
 So 48 (.move (.tmp 2)) 3,
 So 49 (.load 34 (.tmp 4)) 34,
 So 50 (.call ⟨.value (.func 105), #[.tmp 49], #[34]⟩) 3,
 So 51 (.binOp .add 3 (.tmp 48) (.tmp 50) 3) 3,
 So 52 (.load 42 (.tmp 7)) 42,
 So 53 (.call ⟨.value (.func 64), #[.tmp 46, .tmp 47, .tmp 51, .tmp 52], #[34, 3, 3, 42]⟩) 34,
 So 54 (.buildSlice 32 1 #[(0, .tmp 53)]) 32,
 So 55 (.call ⟨.builtin .append, #[.tmp 45, .tmp 54], #[32, 32]⟩) 32,
 So 56 (.fieldAddr 34 (.tmp 9) 3) 0,
 Sn (.store 32 (.tmp 56) (.tmp 55)) 0] [false, true, true, false, false, false, true, false, true, true, false, false, false, false] [1, 2, 4, 7, 8, 9, 38, 39, 40])))
 (.ops [So 57 (.binOp .add 3 (.tmp 40) (.const (.int .i64 1)) 3) 3,
 So 40 (.move (.tmp 57)) 3] [1, 2, 4, 7, 8, 9, 38, 39, 40])))))))
 (.seq (.ops [So 58 (.load 34 (.tmp 9)) 34,
 Sn (.store 34 (.tmp 8) (.tmp 58)) 0] [8])
 (.ret)))))
theorem w64 : CW 64 s64 [.cell 8 34] := fun hr h => callsV_of_p follows cfgT a64 (fn := Tryz.f64) (c := Tryz.f64.body.getD .skip) (by kernel_rfl) (by kernel_rfl) (by kernel_rfl) (by kernel_rfl) (by kernel_rfl) (sc := s64) (by kernel_rfl) [.cell 8 34] (by kernel_rfl) hr h
def a19 : List Ann := [⟨[1, 3, 5, 6], [], []⟩,
 ⟨[1, 3, 5, 6, 8], [], []⟩,
 ⟨[1, 3, 5, 6, 8, 13], [], []⟩,
 ⟨[6, 7], [], []⟩,
 ⟨[1, 3, 5, 6, 21], [], []⟩,
 ⟨[6, 7], [], []⟩,
 ⟨[1, 3, 5, 6, 9], [], []⟩,
 ⟨[1, 3, 5, 6, 9, 26], [], []⟩,
 ⟨[6, 7], [], []⟩,
 ⟨[1, 3, 5, 6, 36], [], []⟩,
 ⟨[6, 7], [], []⟩,
 ⟨[1, 3, 5, 6, 48], [0, 1, 0, 0, 15, 0, 63, 127, 255, 511, 1023], [false, true, true, false, true, true, false, false, false, false, false]⟩,
 ⟨[6, 7], [], []⟩,
 ⟨[6, 7], [], []⟩]
def s19 : SC := .seq (.ops [So 3 (.box 34 (.tmp 0)) 0,
 So 5 (.box 42 (.tmp 2)) 0,
 So 6 (.alloc 34) 0,
 So 7 (.assign (.const (.int .i64 0))) 36] [1, 3, 5, 6])
 (.seq (.seq (.ops [So 10 (.load 34 (.tmp 3)) 34,
 So 11 (.call ⟨.value (.func 34), #[.tmp 10], #[34]⟩) 36,
 So 8 (.assign (.tmp 11)) 36] [1, 3, 5, 6, 8])
 (.seq (.ops [So 12 (.move (.tmp 8)) 36,
 So 13 (.binOp .neq 36 (.tmp 12) (.const (.int .i64 0)) 36) 4] [1, 3, 5, 6, 8, 13])
 (.cond (.tmp 13)
 (.seq (.ops [So 14 (.build 34 #[]) 34,
 So 15 (.move (.tmp 8)) 36,
 Sn (.store 34 (.tmp 6) (.tmp 14)) 0,
 So 7 (.assign (.tmp 15)) 36] [6, 7])
 (.ret))
 (.skip))))
 (.seq (.seq (.ops [So 16 (.move (.tmp 1)) 3,
 So 17 (.binOp .lss 3 (.tmp 16) (.const (.int .i64 0)) 3) 4,
 So 18 (.move (.tmp 17)) 4,
 Sg 19 (.move (.tmp 1)) 3 18 false,
 Sg 20 (.binOp .gtr 3 (.tmp 19) (.const (.int .i64 4096)) 3) 4 18 false,
 So 21 (.pick (.tmp 18) (.const (.bool true)) (.tmp 20)) 4] [1, 3, 5, 6, 21])
 (.cond (.tmp 21)
 (.seq (.ops [So 22 (.build 34 #[]) 34,
 Sn (.store 34 (.tmp 6) (.tmp 22)) 0,
 So 7 (.assign (.const (.int .i64 1))) 36] [6, 7])
 (.ret))
 (.skip)))
 (.seq (.seq (.ops [So 23 (.load 42 (.tmp 5)) 42,
 So 24 (.call ⟨.value (.func 57), #[.tmp 23], #[42]⟩) 36,
 So 9 (.assign (.tmp 24)) 36] [1, 3, 5, 6, 9])
 (.seq (.ops [So 25 (.move (.tmp 9)) 36,
 So 26 (.binOp .neq 36 (.tmp 25) (.const (.int .i64 0)) 36) 4] [1, 3, 5, 6, 9, 26])
 (.cond (.tmp 26)
 (.seq (.ops [So 27 (.build 34 #[]) 34,
 So 28 (.move (.tmp 9)) 36,
 Sn (.store 34 (.tmp 6) (.tmp 27)) 0,
 So 7 (.assign (.tmp 28)) 36] [6, 7])
 (.ret))
 (.skip))))
 (.seq (.seq (.ops [So 29 (.load 34 (.tmp 3)) 34,
 So 30 (.call ⟨.value (.func 58), #[.tmp 29, .const (.int .i64 536870912)], #[34, 3]⟩) 4,
 So 31 (.unOp .not 4 (.tmp 30)) 4,
 So 32 (.move (.tmp 31)) 4,
 Sg 33 (.load 42 (.tmp 5)) 42 32 false,
 Sg 34 (.call ⟨.value (.func 59), #[.tmp 33, .const (.int .i64 536870912)], #[42, 3]⟩) 4 32 false,
 Sg 35 (.unOp .not 4 (.tmp 34)) 4 32 false,
 So 36 (.pick (.tmp 32) (.const (.bool true)) (.tmp 35)) 4] [1, 3, 5, 6, 36])
 (.cond (.tmp 36)
 (.seq (.ops [So 37 (.build 34 #[]) 34,
 Sn (.store 34 (.tmp 6) (.tmp 37)) 0,
 So 7 (.assign (.const (.int .i64 1))) 36] [6, 7])
 (.ret))
 (.skip)))
 (.seq (.seq (.draw [So 38 (.load 34 (.tmp 3)) 34,
 So 39 (.call ⟨.value (.func 60), #[.tmp 38], #[34]⟩) 3,
 So 40 (.load 34 (.tmp 3)) 34,
 So 41 (.move (.tmp 1)) 3,
 So 42 (.call ⟨.value (.func 61), #[.tmp 40, .tmp 41], #[34, 3]⟩) 3,
 So 43 (.load 42 (.tmp 5)) 42,
 So 44 (.call ⟨.value (.func 62), #[.tmp 43], #[42]⟩) 3,
 So 45 (.binOp .sub 3 (.tmp 44) (.const (.int .i64 1)) 3) 3,
 So 46 (.binOp .mul 3 (.tmp 42) (.tmp 45) 3) 3,
 So 47 (.binOp .add 3 (.tmp 39) (.tmp 46) 3) 3,
 So 48 (.binOp .gtr 3 (.tmp 47) (.const (.int .i64 4096)) 3) 4] [false, true, true, false, true, true, false, false, false, false, false] [1, 3, 5, 6, 48])
 (.cond (.tmp 48)
 (.seq (.ops [So 49 (.build 34 #[]) 34,
 Sn (.store 34 (.tmp 6) (.tmp 49)) 0,
 So 7 (.assign (.const (.int .i64 4))) 36] [6, 7])
 (.ret))
 (.skip)))
 (.seq (.ops [So 50 (.load 34 (.tmp 3)) 34,
 So 51 (.move (.tmp 1)) 3,
 So 52 (.load 42 (.tmp 5)) 42,
 So 53 (.call ⟨.value (.func 64), #[.tmp 50, .tmp 51, .const (.int .i64 0), .tmp 52], #[34, 3, 3, 42]⟩) 34,
 So 54 (.call ⟨.value (.func 63), #[.tmp 53], #[34]⟩) 34,
 Sn (.store 34 (.tmp 6) (.tmp 54)) 0,
 So 7 (.assign (.const (.int .i64 0))) 36] [6, 7])
 (.ret)))))))
theorem w19 : CW 19 s19 [.cell 6 34, .tmp 7] := fun hr h => callsV_of_p follows cfgT a19 (fn := Tryz.f19) (c := Tryz.f19.body.getD .skip) (by kernel_rfl) (by kernel_rfl) (by kernel_rfl) (by kernel_rfl) (by kernel_rfl) (sc := s19) (by kernel_rfl) [.cell 6 34, .tmp 7] (by kernel_rfl) hr h
def a20 : List Ann := [⟨[1, 3, 5, 6], [], []⟩,
 ⟨[1, 3, 5, 6, 8], [], []⟩,
 ⟨[1, 3, 5, 6, 8, 13], [], []⟩,
 ⟨[6, 7], [], []⟩,
 ⟨[1, 3, 5, 6, 21], [], []⟩,
 ⟨[6, 7], [], []⟩,
 ⟨[1, 3, 5, 6, 9], [], []⟩,
 ⟨[1, 3, 5, 6, 9, 26], [], []⟩,
 ⟨[6, 7], [], []⟩,
 ⟨[1, 3, 5, 6, 36], [], []⟩,
 ⟨[6, 7], [], []⟩,
 ⟨[1, 3, 5, 6, 48], [0, 1, 0, 0, 15, 0, 63, 127, 255, 511, 1023], [false, true, true, false, true, true, false, false, false, false, false]⟩,
 ⟨[6, 7], [], []⟩,
 ⟨[6, 7], [], []⟩]
def s20 : SC := .seq (.ops [So 3 (.box 42 (.tmp 0)) 0,
 So 5 (.box 42 (.tmp 2)) 0,
 So 6 (.alloc 42) 0,
 So 7 (.assign (.const (.int .i64 0))) 36] [1, 3, 5, 6])
 (.seq (.seq (.ops [So 10 (.load 42 (.tmp 3)) 42,
 So 11 (.call ⟨.value (.func 57), #[.tmp 10], #[42]⟩) 36,
 So 8 (.assign (.tmp 11)) 36] [1, 3, 5, 6, 8])
 (.seq (.ops [So 12 (.move (.tmp 8)) 36,
 So 13 (.binOp .neq 36 (.tmp 12) (.const (.int .i64 0)) 36) 4] [1, 3, 5, 6, 8, 13])
 (.cond (.tmp 13)
 (.seq (.ops [So 14 (.build 42 #[]) 42,
 So 15 (.move (.tmp 8)) 36,
 Sn (.store 42 (.tmp 6) (.tmp 14)) 0,
 So 7 (.assign (.tmp 15)) 36] [6, 7])
 (.ret))
 (.skip))))
 (.seq (.seq (.ops [So 16 (.move (.tmp 1)) 3,
 So 17 (.binOp .lss 3 (.tmp 16) (.const (.int .i64 0)) 3) 4,
 So 18 (.move (.tmp 17)) 4,
 Sg 19 (.move (.tmp 1)) 3 18 false,
 Sg 20 (.binOp .gtr 3 (.tmp 19) (.const (.int .i64 4096)) 3) 4 18 false,
 So 21 (.pick (.tmp 18) (.const (.bool true)) (.tmp 20)) 4] [1, 3, 5, 6, 21])
 (.cond (.tmp 21)
 (.seq (.ops [So 22 (.build 42 #[]) 42,
 Sn (.store 42 (.tmp 6) (.tmp 22)) 0,
 So 7 (.assign (.const (.int .i64 1))) 36] [6, 7])
 (.ret))
 (.skip)))
 (.seq (.seq (.ops [So 23 (.load 42 (.tmp 5)) 42,
 So 24 (.call ⟨.value (.func 57), #[.tmp 23], #[42]⟩) 36,
 So 9 (.assign (.tmp 24)) 36] [1, 3, 5, 6, 9])
 (.seq (.ops [So 25 (.move (.tmp 9)) 36,
 So 26 (.binOp .neq 36 (.tmp 25) (.const (.int .i64 0)) 36) 4] [1, 3, 5, 6, 9, 26])
 (.cond (.tmp 26)
 (.seq (.ops [So 27 (.build 42 #[]) 42,
 So 28 (.move (.tmp 9)) 36,
 Sn (.store 42 (.tmp 6) (.tmp 27)) 0,
 So 7 (.assign (.tmp 28)) 36] [6, 7])
 (.ret))
 (.skip))))
 (.seq (.seq (.ops [So 29 (.load 42 (.tmp 3)) 42,
 So 30 (.call ⟨.value (.func 59), #[.tmp 29, .const (.int .i64 536870912)], #[42, 3]⟩) 4,
 So 31 (.unOp .not 4 (.tmp 30)) 4,
 So 32 (.move (.tmp 31)) 4,
 Sg 33 (.load 42 (.tmp 5)) 42 32 false,
 Sg 34 (.call ⟨.value (.func 59), #[.tmp 33, .const (.int .i64 536870912)], #[42, 3]⟩) 4 32 false,
 Sg 35 (.unOp .not 4 (.tmp 34)) 4 32 false,
 So 36 (.pick (.tmp 32) (.const (.bool true)) (.tmp 35)) 4] [1, 3, 5, 6, 36])
 (.cond (.tmp 36)
 (.seq (.ops [So 37 (.build 42 #[]) 42,
 Sn (.store 42 (.tmp 6) (.tmp 37)) 0,
 So 7 (.assign (.const (.int .i64 1))) 36] [6, 7])
 (.ret))
 (.skip)))
 (.seq (.seq (.draw [So 38 (.load 42 (.tmp 3)) 42,
 So 39 (.call ⟨.value (.func 62), #[.tmp 38], #[42]⟩) 3,
 So 40 (.load 42 (.tmp 3)) 42,
 So 41 (.move (.tmp 1)) 3,
 So 42 (.call ⟨.value (.func 65), #[.tmp 40, .tmp 41], #[42, 3]⟩) 3,
 So 43 (.load 42 (.tmp 5)) 42,
 So 44 (.call ⟨.value (.func 62), #[.tmp 43], #[42]⟩) 3,
 So 45 (.binOp .sub 3 (.tmp 44) (.const (.int .i64 1)) 3) 3,
 So 46 (.binOp .mul 3 (.tmp 42) (.tmp 45) 3) 3,
 So 47 (.binOp .add 3 (.tmp 39) (.tmp 46) 3) 3,
 So 48 (.binOp .gtr 3 (.tmp 47) (.const (.int .i64 4096)) 3) 4] [false, true, true, false, true, true, false, false, false, false, false] [1, 3, 5, 6, 48])
 (.cond (.tmp 48)
 (.seq (.ops [So 49 (.build 42 #[]) 42,
 Sn (.store 42 (.tmp 6) (.tmp 49)) 0,
 So 7 (.assign (.const (.int .i64 4))) 36] [6, 7])
 (.ret))
 (.skip)))
 (.seq (.ops [So 50 (.load 42 (.tmp 3)) 42,
 So 51 (.move (.tmp 1)) 3,
 So 52 (.load 42 (.tmp 5)) 42,
 So 53 (.call ⟨.value (.func 67), #[.tmp 50, .tmp 51, .const (.int .i64 0), .tmp 52], #[42, 3, 3, 42]⟩) 42,
 So 54 (.call ⟨.value (.func 66), #[.tmp 53], #[42]⟩) 42,
 Sn (.store 42 (.tmp 6) (.tmp 54)) 0,
 So 7 (.assign (.const (.int .i64 0))) 36] [6, 7])
 (.ret)))))))
theorem w20 : CW 20 s20 [.cell 6 42, .tmp 7] := fun hr h => callsV_of_p follows cfgT a20 (fn := Tryz.f20) (c := Tryz.f20.body.getD .skip) (by kernel_rfl) (by kernel_rfl) (by kernel_rfl) (by kernel_rfl) (by kernel_rfl) (sc := s20) (by kernel_rfl) [.cell 6 42, .tmp 7] (by kernel_rfl) hr h
def a108 : List Ann := [⟨[2, 3], [], []⟩,
 ⟨[2, 3, 34], [], []⟩,
 ⟨[4], [], []⟩,
 ⟨[2, 3, 37, 38], [], []⟩,
 ⟨[2, 3, 37, 38, 39], [], []⟩,
 ⟨[2, 3, 5, 37, 38], [], []⟩,
 ⟨[2, 3, 37, 38, 52], [0, 1, 0, 7, 15, 0, 32, 0, 224, 480, 1023, 2047], [false, false, false, false, false, false, false, false, false, false, false, false]⟩,
 ⟨[4], [], []⟩,
 ⟨[2, 3, 37, 38], [], []⟩,
 ⟨[4], [], []⟩]
def s108 : SC := .seq (.ops [So 2 (.box 42 (.tmp 0)) 0,
 So 3 (.box 42 (.tmp 1)) 0,
 So 4 (.assign (.const (.bool false))) 4] [2, 3])
 (.seq (.seq (.ops [So 6 (.fieldAddr 42 (.tmp 2) 0) 0,
 So 7 (.load 3 (.tmp 6)) 3,
 So 8 (.fieldAddr 42 (.tmp 3) 0) 0,
 So 9 (.load 3 (.tmp 8)) 3,
 So 10 (.binOp .neq 3 (.tmp 7) (.tmp 9) 3) 4,
 So 11 (.move (.tmp 10)) 4,
 Sg 12 (.fieldAddr 42 (.tmp 2) 1) 0 11 false,
 Sg 13 (.load 3 (.tmp 12)) 3 11 false,
 Sg 14 (.fieldAddr 42 (.tmp 3) 1) 0 11 false,
 Sg 15 (.load 3 (.tmp 14)) 3 11 false,
 Sg 16 (.binOp .neq 3 (.tmp 13) (.tmp 15) 3) 4 11 false,
 So 17 (.pick (.tmp 11) (.const (.bool true)) (.tmp 16)) 4,
 So 18 (.move (.tmp 17)) 4,
 Sg 19 (.fieldAddr 42 (.tmp 2) 2) 0 18 false,
 Sg 20 (.load 30 (.tmp 19)) 30 18 false,
 Sg 21 (.fieldAddr 42 (.tmp 3) 2) 0 18 false,
 Sg 22 (.load 30 (.tmp 21)) 30 18 false,
 Sg 23 (.call ⟨.value (.func 49), #[.tmp 20, .tmp 22], #[30, 30]⟩) 4 18 false,
 Sg 24 (.unOp .not 4 (.tmp 23)) 4 18 false,
 So 25 (.pick (.tmp 18) (.const (.bool true)) (.tmp 24)) 4,
 So 26 (.move (.tmp 25)) 4,
 Sg 27 (.fieldAddr 42 (.tmp 2) 3) 0 26 false,
 Sg 28 (.load 31 (.tmp 27)) 31 26 false,
 Sg 29 (.call ⟨.builtin .len, #[.tmp 28], #[31]⟩) 3 26 false,
 Sg 30 (.fieldAddr 42 (.tmp 3) 3) 0 26 false,
 Sg 31 (.load 31 (.tmp 30)) 31 26 false,
 Sg 32 (.call ⟨.builtin .len, #[.tmp 31], #[31]⟩) 3 26 false,
 Sg 33 (.binOp .neq 3 (.tmp 29) (.tmp 32) 3) 4 26 false,
 So 34 (.pick (.tmp 26) (.const (.bool true)) (.tmp 33)) 4] [2, 3, 34])
 (.cond (.tmp 34)
 (.seq (.ops [So 4 (.assign (.const (.bool false))) 4] [4])
 (.ret))
 (.skip)))
 (.seq (.seq (.ops [So 35 (.fieldAddr 42 (.tmp 2) 3) 0,
 So 36 (.load 31 (.tmp 35)) 31,
 So 37 (.call ⟨.builtin .len, #[.tmp 36], #[31]⟩) 3,
 So 38 (.move (.const (.int .i64 0))) 3] [2, 3, 37, 38])
 (.block 0
 (.loop
 (.seq (.ops [So 39 (.binOp .lss 3 (.tmp 38) (.tmp 37) 3) 0] [2, 3, 37, 38, 39])
 (.seq (.cond (.tmp 39)
 (.skip)
 (.exit 0))
 (.seq (.block 1
 (.seq (.ops [So 40 (.move (.tmp 38)) 3,
 So 5 (.assign (.tmp 40)) 3] [2, 3, 5, 37, 38])
 (.seq (.draw [So 41 (.fieldAddr 42 (.tmp 2) 3) 0,
 So 42 (.load 31 (.tmp 41)) 31,
 So 43 (.move (.tmp 5)) 3,
 So 44 (.indexAddr 31 (.tmp 42) (.tmp 43)) 0,
 So 45 (.load 42 (.tmp 44)) 42,
 So 46 (.fieldAddr 42 (.tmp 3) 3) 0,
 So 47 (.load 31 (.tmp 46)) 31,
 So 48 (.move (.tmp 5)) 3,
 So 49 (.indexAddr 31 (.tmp 47) (.tmp 48)) 0,
 So 50 (.load 42 (.tmp 49)) 42,
 So 51 (.call ⟨.value (.func 108), #[.tmp 45, .tmp 50], #[42, 42]⟩) 4,
 So 52 (.unOp .not 4 (.tmp 51)) 4] [false, false, false, false, false, false, false, false, false, false, false, false] [2, 3, 37, 38, 52])
 (.cond (.tmp 52)
 (.seq (.ops [So 4 (.assign (.const (.bool false))) 4] [4])
 (.ret))
 (.skip)))))
 (.ops [So 53 (.binOp .add 3 (.tmp 38) (.const (.int .i64 1)) 3) 3,
 So 38 (.move (.tmp 53)) 3] [2, 3, 37, 38])))))))
 (.seq (.ops [So 4 (.assign (.const (.bool true))) 4] [4])
 (.ret))))
theorem w108 : CW 108 s108 [.tmp 4] := fun hr h => callsV_of_p follows cfgT a108 (fn := Tryz.f108) (c := Tryz.f108.body.getD .skip) (by kernel_rfl) (by kernel_rfl) (by kernel_rfl) (by kernel_rfl) (by kernel_rfl) (sc := s108) (by kernel_rfl) [.tmp 4] (by kernel_rfl) hr h
def a68 : List Ann := [⟨[0, 1], [], []⟩,
 ⟨[0, 1, 10], [], []⟩,
 ⟨[4], [], []⟩,
 ⟨[0, 1, 12, 13], [], []⟩,
 ⟨[0, 1, 12, 13, 14], [], []⟩,
 ⟨[0, 1, 5, 12, 13], [], []⟩,
 ⟨[0, 1, 12, 13, 25], [0, 0, 3, 7, 0, 0, 48, 112, 255, 511], [false, false, false, false, false, false, false, false, false, false]⟩,
 ⟨[4], [], []⟩,
 ⟨[0, 1, 12, 13], [], []⟩,
 ⟨[4], [], []⟩]
def s68 : SC := .seq (.ops [So 4 (.assign (.const (.bool false))) 4] [0, 1])
 (.seq (.seq (.ops [So 6 (.move (.tmp 0)) 31,
 So 7 (.call ⟨.builtin .len, #[.tmp 6], #[31]⟩) 3,
 So 8 (.move (.tmp 1)) 31,
 So 9 (.call ⟨.builtin .len, #[.tmp 8], #[31]⟩) 3,
 So 10 (.binOp .neq 3 (.tmp 7) (.tmp 9) 3) 4] [0, 1, 10])
 (.cond (.tmp 10)
 (.seq (.ops [So 4 (.assign (.const (.bool false))) 4] [4])
 (.ret))
 (.skip)))
 (.seq (.seq (.ops [So 11 (.move (.tmp 0)) 31,
 So 12 (.call ⟨.builtin .len, #[.tmp 11], #[31]⟩) 3,
 So 13 (.move (.const (.int .i64 0))) 3] [0, 1, 12, 13])
 (.block 0
 (.loop
 (.seq (.ops [So 14 (.binOp .lss 3 (.tmp 13) (.tmp 12) 3) 0] [0, 1, 12, 13, 14])
 (.seq (.cond (.tmp 14)
 (.skip)
 (.exit 0))
 (.seq (.block 1
 (.seq (.ops [So 15 (.move (.tmp 13)) 3,
 So 5 (.assign (.tmp 15)) 3] [0, 1, 5, 12, 13])
 (.seq (.draw [So 16 (.move (.tmp 0)) 31,
 So 17 (.move (.tmp 5)) 3,
 So 18 (.indexAddr 31 (.tmp 16) (.tmp 17)) 0,
 So 19 (.load 42 (.tmp 18)) 42,
 So 20 (.move (.tmp 1)) 31,
 So 21 (.move (.tmp 5)) 3,
 So 22 (.indexAddr 31 (.tmp 20) (.tmp 21)) 0,
 So 23 (.load 42 (.tmp 22)) 42,
 So 24 (.call ⟨.value (.func 108), #[.tmp 19, .tmp 23], #[42, 42]⟩) 4,
 So 25 (.unOp .not 4 (.tmp 24)) 4] [false, false, false, false, false, false, false, false, false, false] [0, 1, 12, 13, 25])
 (.cond (.tmp 25)
 (.seq (.ops [So 4 (.assign (.const (.bool false))) 4] [4])
 (.ret))
 (.skip)))))
 (.ops [So 26 (.binOp .add 3 (.tmp 13) (.const (.int .i64 1)) 3) 3,
 So 13 (.move (.tmp 26)) 3] [0, 1, 12, 13])))))))
 (.seq (.ops [So 4 (.assign (.const (.bool true))) 4] [4])
 (.ret))))
theorem w68 : CW 68 s68 [.tmp 4] := fun hr h => callsV_of_p follows cfgT a68 (fn := Tryz.f68) (c := Tryz.f68.body.getD .skip) (by kernel_rfl) (by kernel_rfl) (by kernel_rfl) (by kernel_rfl) (by kernel_rfl) (sc := s68) (by kernel_rfl) [.tmp 4] (by kernel_rfl) hr h
def a21 : List Ann := [⟨[2, 3], [], []⟩,
 ⟨[2, 3, 35], [], []⟩,
 ⟨[4], [], []⟩,
 ⟨[2, 3, 38, 39], [], []⟩,
 ⟨[2, 3, 38, 39, 40], [], []⟩,
 ⟨[2, 3, 5, 38, 39], [], []⟩,
 ⟨[2, 3, 38, 39, 53], [0, 1, 0, 7, 15, 0, 32, 0, 224, 480, 1023, 2047], [false, false, false, false, false, false, false, false, false, false, false, false]⟩,
 ⟨[4], [], []⟩,
 ⟨[2, 3, 38, 39], [], []⟩,
 ⟨[4], [], []⟩]
def s21 : SC := .seq (.ops [So 2 (.box 34 (.tmp 0)) 0,
 So 3 (.box 34 (.tmp 1)) 0,
 So 4 (.assign (.const (.bool false))) 4] [2, 3])
 (.seq (.seq (.ops [So 6 (.fieldAddr 34 (.tmp 2) 0) 0,
 So 7 (.load 3 (.tmp 6)) 3,
 So 8 (.fieldAddr 34 (.tmp 3) 0) 0,
 So 9 (.load 3 (.tmp 8)) 3,
 So 10 (.binOp .neq 3 (.tmp 7) (.tmp 9) 3) 4,
 So 11 (.move (.tmp 10)) 4,
 Sg 12 (.fieldAddr 34 (.tmp 2) 1) 0 11 false,
 Sg 13 (.load 30 (.tmp 12)) 30 11 false,
 Sg 14 (.fieldAddr 34 (.tmp 3) 1) 0 11 false,
 Sg 15 (.load 30 (.tmp 14)) 30 11 false,
 Sg 16 (.call ⟨.value (.func 49), #[.tmp 13, .tmp 15], #[30, 30]⟩) 4 11 false,
 Sg 17 (.unOp .not 4 (.tmp 16)) 4 11 false,
 So 18 (.pick (.tmp 11) (.const (.bool true)) (.tmp 17)) 4,
 So 19 (.move (.tmp 18)) 4,
 Sg 20 (.fieldAddr 34 (.tmp 2) 2) 0 19 false,
 Sg 21 (.load 31 (.tmp 20)) 31 19 false,
 Sg 22 (.fieldAddr 34 (.tmp 3) 2) 0 19 false,
 Sg 23 (.load 31 (.tmp 22)) 31 19 false,
 Sg 24 (.call ⟨.value (.func 68), #[.tmp 21, .tmp 23], #[31, 31]⟩) 4 19 false,
 Sg 25 (.unOp .not 4 (.tmp 24)) 4 19 false,
 So 26 (.pick (.tmp 19) (.const (.bool true)) (.tmp 25)) 4,
 So 27 (.move (.tmp 26)) 4,
 Sg 28 (.fieldAddr 34 (.tmp 2) 3) 0 27 false,
 Sg 29 (.load 32 (.tmp 28)) 32 27 false,
 Sg 30 (.call ⟨.builtin .len, #[.tmp 29], #[32]⟩) 3 27 false,
 Sg 31 (.fieldAddr 34 (.tmp 3) 3) 0 27 false,
 Sg 32 (.load 32 (.tmp 31)) 32 27 false,
 Sg 33 (.call ⟨.builtin .len, #[.tmp 32], #[32]⟩) 3 27 false,
 Sg 34 (.binOp .neq 3 (.tmp 30) (.tmp 33) 3) 4 27 false,
 So 35 (.pick (.tmp 27) (.const (.bool true)) (.tmp 34)) 4] [2, 3, 35])
 (.cond (.tmp 35)
 (.seq (.ops [So 4 (.assign (.const (.bool false))) 4] [4])
 (.ret))
 (.skip)))
 (.seq (.seq (.ops [So 36 (.fieldAddr 34 (.tmp 2) 3) 0,
 So 37 (.load 32 (.tmp 36)) 32,
 So 38 (.call ⟨.builtin .len, #[.tmp 37], #[32]⟩) 3,
 So 39 (.move (.const (.int .i64 0))) 3] [2, 3, 38, 39])
 (.block 0
 (.loop
 (.seq (.ops [So 40 (.binOp .lss 3 (.tmp 39) (.tmp 38) 3) 0] [2, 3, 38, 39, 40])
 (.seq (.cond (.tmp 40)
 (.skip)
 (.exit 0))
 (.seq (.block 1
 (.seq (.ops [So 41 (.move (.tmp 39)) 3,
 So 5 (.assign (.tmp 41)) 3] [2, 3, 5, 38, 39])
 (.seq (.draw [So 42 (.fieldAddr 34 (.tmp 2) 3) 0,
 So 43 (.load 32 (.tmp 42)) 32,
 So 44 (.move (.tmp 5)) 3,
 So 45 (.indexAddr 32 (.tmp 43) (.tmp 44)) 0,
 So 46 (.load 34 (.tmp 45)) 34,
 So 47 (.fieldAddr 34 (.tmp 3) 3) 0,
 So 48 (.load 32 (.tmp 47)) 32,
 So 49 (.move (.tmp 5)) 3,
 So 50 (.indexAddr 32 (.tmp 48) (.tmp 49)) 0,
 So 51 (.load 34 (.tmp 50)) 34,
 So 52 (.call ⟨.value (.func 21), #[.tmp 46, .tmp 51], #[34, 34]⟩) 4,
 So 53 (.unOp .not 4 (.tmp 52)) 4] [false, false, false, false, false, false, false, false, false, false, false, false] [2, 3, 38, 39, 53])
 (.cond (.tmp 53)
 (.seq (.ops [So 4 (.assign (.const (.bool false))) 4] [4])
 (.ret))
 (.skip)))))
 (.ops [So 54 (.binOp .add 3 (.tmp 39) (.const (.int .i64 1)) 3) 3,
 So 39 (.move (.tmp 54)) 3] [2, 3, 38, 39])))))))
 (.seq (.ops [So 4 (.assign (.const (.bool true))) 4] [4])
 (.ret))))
theorem w21 : CW 21 s21 [.tmp 4] := fun hr h => callsV_of_p follows cfgT a21 (fn := Tryz.f21) (c := Tryz.f21.body.getD .skip) (by kernel_rfl) (by kernel_rfl) (by kernel_rfl) (by kernel_rfl) (by kernel_rfl) (sc := s21) (by kernel_rfl) [.tmp 4] (by kernel_rfl) hr h
def a4 : List Ann := [⟨[0], [], []⟩,
 ⟨[0, 26], [], []⟩,
 ⟨[2], [], []⟩,
 ⟨[3], [], []⟩,
 ⟨[3, 4], [], []⟩,
 ⟨[3, 4, 5], [], []⟩,
 ⟨[3, 4, 5, 6], [], []⟩,
 ⟨[3, 4, 5, 6, 7, 8], [], []⟩,
 ⟨[3, 4, 5, 6, 7, 46], [], []⟩,
 ⟨[2], [], []⟩,
 ⟨[6, 9, 10], [], []⟩,
 ⟨[6, 8, 9, 10, 11], [], []⟩,
 ⟨[6, 8, 9, 10, 11, 62], [], []⟩,
 ⟨[2], [], []⟩,
 ⟨[6, 9, 10, 12, 13], [], []⟩,
 ⟨[9, 10, 12, 13, 14, 15], [], []⟩,
 ⟨[12, 13, 14, 15, 16, 17], [], []⟩,
 ⟨[12, 14, 16, 92], [], []⟩,
 ⟨[2], [], []⟩,
 ⟨[12, 18, 19], [], []⟩,
 ⟨[2], [], []⟩]
def s4 : SC := .seq (.ops [So 2 (.assign (.const (.bool false))) 4] [0])
 (.seq (.seq (.ops [So 20 (.call ⟨.value (.func 8), #[], #[]⟩) 4,
 So 21 (.unOp .not 4 (.tmp 20)) 4,
 So 22 (.move (.tmp 21)) 4,
 Sg 23 (.move (.tmp 0)) 22 22 false,
 Sg 24 (.call ⟨.value (.func 9), #[.tmp 23], #[22]⟩) 4 22 false,
 Sg 25 (.unOp .not 4 (.tmp 24)) 4 22 false,
 So 26 (.pick (.tmp 22) (.const (.bool true)) (.tmp 25)) 4] [0, 26])
 (.cond (.tmp 26)
 (.seq (.ops [So 27 (.call ⟨.value (.func 8), #[], #[]⟩) 4,
 So 2 (.assign (.tmp 27)) 4] [2])
 (.ret))
 (.skip)))
 (.seq (.ops [So 28 (.move (.tmp 0)) 22,
 So 29 (.call ⟨.value (.func 10), #[.tmp 28], #[22]⟩) 25,
 So 3 (.assign (.tmp 29)) 25] [3])
 (.seq (.ops [So 30 (.move (.tmp 3)) 25,
 So 31 (.call ⟨.value (.func 11), #[.tmp 30], #[25]⟩) 27,
 So 4 (.assign (.tmp 31)) 27] [3, 4])
 (.seq (.ops [So 32 (.move (.tmp 4)) 27,
 So 33 (.call ⟨.builtin .append, #[.const (.slice none 0 0), .tmp 32], #[27, 27]⟩) 27,
 So 34 (.call ⟨.value (.func 18), #[], #[]⟩) 30,
 So 35 (.buildSlice 27 1 #[(0, .tmp 34)]) 27,
 So 36 (.call ⟨.builtin .append, #[.tmp 33, .tmp 35], #[27, 27]⟩) 27,
 So 5 (.assign (.tmp 36)) 27] [3, 4, 5])
 (.seq (.ops [So 37 (.move (.tmp 3)) 25,
 So 38 (.move (.tmp 5)) 27,
 So 39 (.call ⟨.value (.func 12), #[.tmp 37, .tmp 38, .const (.int .i64 3)], #[25, 27, 3]⟩) 34,
 So 6 (.alloc 34) 0,
 Sn (.store 34 (.tmp 6) (.tmp 39)) 0] [3, 4, 5, 6])
 (.seq (.ops [So 41 (.load 34 (.tmp 6)) 34,
 So 42 (.call ⟨.value (.func 13), #[.tmp 41], #[34]⟩) 37,
 So 40 (.move (.tmp 42)) 37,
 So 43 (.extract (.tmp 40) 0) 30,
 So 44 (.extract (.tmp 40) 1) 36,
 So 7 (.alloc 30) 0,
 Sn (.store 30 (.tmp 7) (.tmp 43)) 0,
 So 8 (.assign (.tmp 44)) 36] [3, 4, 5, 6, 7, 8])
 (.seq (.seq (.ops [So 45 (.move (.tmp 8)) 36,
 So 46 (.binOp .neq 36 (.tmp 45) (.const (.int .i64 0)) 36) 4] [3, 4, 5, 6, 7, 46])
 (.cond (.tmp 46)
 (.seq (.ops [So 2 (.assign (.const (.bool true))) 4] [2])
 (.ret))
 (.skip)))
 (.seq (.ops [So 47 (.move (.tmp 3)) 25,
 So 48 (.move (.tmp 5)) 27,
 So 49 (.load 30 (.tmp 7)) 30,
 So 50 (.call ⟨.value (.func 15), #[.tmp 47, .tmp 48, .tmp 49, .const (.int .i64 2)], #[25, 27, 30, 3]⟩) 42,
 So 51 (.move (.tmp 3)) 25,
 So 52 (.move (.tmp 4)) 27,
 So 53 (.call ⟨.value (.func 18), #[], #[]⟩) 30,
 So 54 (.call ⟨.value (.func 15), #[.tmp 51, .tmp 52, .tmp 53, .const (.int .i64 2)], #[25, 27, 30, 3]⟩) 42,
 So 9 (.alloc 42) 0,
 So 10 (.alloc 42) 0,
 Sn (.store 42 (.tmp 9) (.tmp 50)) 0,
 Sn (.store 42 (.tmp 10) (.tmp 54)) 0] [6, 9, 10])
 (.seq (.ops [So 56 (.load 34 (.tmp 6)) 34,
 So 57 (.load 42 (.tmp 9)) 42,
 So 58 (.call ⟨.value (.func 14), #[.tmp 56, .tmp 57], #[34, 42]⟩) 39,
 So 55 (.move (.tmp 58)) 39,
 So 59 (.extract (.tmp 55) 0) 34,
 So 60 (.extract (.tmp 55) 1) 36,
 So 11 (.alloc 34) 0,
 Sn (.store 34 (.tmp 11) (.tmp 59)) 0,
 So 8 (.assign (.tmp 60)) 36] [6, 8, 9, 10, 11])
 (.seq (.seq (.ops [So 61 (.move (.tmp 8)) 36,
 So 62 (.binOp .neq 36 (.tmp 61) (.const (.int .i64 0)) 36) 4] [6, 8, 9, 10, 11, 62])
 (.cond (.tmp 62)
 (.seq (.ops [So 63 (.move (.tmp 8)) 36,
 So 64 (.binOp .eql 36 (.tmp 63) (.const (.int .i64 4)) 36) 4,
 So 2 (.assign (.tmp 64)) 4] [2])
 (.ret))
 (.skip)))
 (.seq (.ops [So 66 (.load 34 (.tmp 11)) 34,
 So 67 (.load 42 (.tmp 10)) 42,
 So 68 (.call ⟨.value (.func 19), #[.tmp 66, .const (.int .i64 0), .tmp 67], #[34, 3, 42]⟩) 39,
 So 65 (.move (.tmp 68)) 39,
 So 69 (.extract (.tmp 65) 0) 34,
 So 70 (.extract (.tmp 65) 1) 36,
 So 12 (.alloc 34) 0,
 Sn (.store 34 (.tmp 12) (.tmp 69)) 0,
 So 13 (.assign (.tmp 70)) 36] [6, 9, 10, 12, 13])
 (.seq (.ops [So 72 (.load 34 (.tmp 6)) 34,
 So 73 (.load 42 (.tmp 10)) 42,
 So 74 (.call ⟨.value (.func 19), #[.tmp 72, .const (.int .i64 0), .tmp 73], #[34, 3, 42]⟩) 39,
 So 71 (.move (.tmp 74)) 39,
 So 75 (.extract (.tmp 71) 0) 34,
 So 76 (.extract (.tmp 71) 1) 36,
 So 14 (.alloc 34) 0,
 Sn (.store 34 (.tmp 14) (.tmp 75)) 0,
 So 15 (.assign (.tmp 76)) 36] [9, 10, 12, 13, 14, 15])
 (.seq (.ops [So 78 (.load 42 (.tmp 9)) 42,
 So 79 (.load 42 (.tmp 10)) 42,
 So 80 (.call ⟨.value (.func 20), #[.tmp 78, .const (.int .i64 0), .tmp 79], #[42, 3, 42]⟩) 49,
 So 77 (.move (.tmp 80)) 49,
 So 81 (.extract (.tmp 77) 0) 42,
 So 82 (.extract (.tmp 77) 1) 36,
 So 16 (.alloc 42) 0,
 Sn (.store 42 (.tmp 16) (.tmp 81)) 0,
 So 17 (.assign (.tmp 82)) 36] [12, 13, 14, 15, 16, 17])
 (.seq (.seq (.ops [So 83 (.move (.tmp 13)) 36,
 So 84 (.binOp .neq 36 (.tmp 83) (.const (.int .i64 0)) 36) 4,
 So 85 (.move (.tmp 84)) 4,
 Sg 86 (.move (.tmp 15)) 36 85 false,
 Sg 87 (.binOp .neq 36 (.tmp 86) (.const (.int .i64 0)) 36) 4 85 false,
 So 88 (.pick (.tmp 85) (.const (.bool true)) (.tmp 87)) 4,
 So 89 (.move (.tmp 88)) 4,
 Sg 90 (.move (.tmp 17)) 36 89 false,
 Sg 91 (.binOp .neq 36 (.tmp 90) (.const (.int .i64 0)) 36) 4 89 false,
 So 92 (.pick (.tmp 89) (.const (.bool true)) (.tmp 91)) 4] [12, 14, 16, 92])
 (.cond (.tmp 92)
 (.seq (.ops [So 2 (.assign (.const (.bool true))) 4] [2])
 (.ret))
 (.skip)))
 (.seq (.ops [So 94 (.load 34 (.tmp 14)) 34,
 So 95 (.load 42 (.tmp 16)) 42,
 So 96 (.call ⟨.value (.func 14), #[.tmp 94, .tmp 95], #[34, 42]⟩) 39,
 So 93 (.move (.tmp 96)) 39,
 So 97 (.extract (.tmp 93) 0) 34,
 So 98 (.extract (.tmp 93) 1) 36,
 So 18 (.alloc 34) 0,
 Sn (.store 34 (.tmp 18) (.tmp 97)) 0,
 So 19 (.assign (.tmp 98)) 36] [12, 18, 19])
 (.seq (.ops [So 99 (.move (.tmp 19)) 36,
 So 100 (.binOp .eql 36 (.tmp 99) (.const (.int .i64 4)) 36) 4,
 So 101 (.move (.tmp 100)) 4,
 Sg 102 (.move (.tmp 19)) 36 101 false,
 Sg 103 (.binOp .eql 36 (.tmp 102) (.const (.int .i64 0)) 36) 4 101 false,
 Sg 104 (.move (.tmp 103)) 4 101 false,
 Sg 105 (.load 34 (.tmp 12)) 34 104 true,
 Sg 106 (.load 34 (.tmp 18)) 34 104 true,
 Sg 107 (.call ⟨.value (.func 21), #[.tmp 105, .tmp 106], #[34, 34]⟩) 4 104 true,
 Sg 108 (.pick (.tmp 104) (.tmp 107) (.const (.bool false))) 4 101 false,
 So 109 (.pick (.tmp 101) (.const (.bool true)) (.tmp 108)) 4,
 So 2 (.assign (.tmp 109)) 4] [2])
 (.ret)))))))))))))))))
theorem w4 : CW 4 s4 [.tmp 2] := fun hr h => callsV_of_p follows cfgT a4 (fn := Tryz.f4) (c := Tryz.f4.body.getD .skip) (by kernel_rfl) (by kernel_rfl) (by kernel_rfl) (by kernel_rfl) (by kernel_rfl) (sc := s4) (by kernel_rfl) [.tmp 2] (by kernel_rfl) hr h
def a5 : List Ann := [⟨[0], [], []⟩,
 ⟨[0, 17], [], []⟩,
 ⟨[2], [], []⟩,
 ⟨[3], [], []⟩,
 ⟨[4], [], []⟩,
 ⟨[4, 5, 6], [], []⟩,
 ⟨[4, 5, 6, 29], [], []⟩,
 ⟨[2], [], []⟩,
 ⟨[5, 51], [], []⟩,
 ⟨[2], [], []⟩,
 ⟨[5, 53, 54, 55], [], []⟩,
 ⟨[5, 53, 54, 55, 56], [], []⟩,
 ⟨[5, 8, 53, 54, 55], [], []⟩,
 ⟨[5, 8, 9, 10, 53, 54, 55], [], []⟩,
 ⟨[5, 53, 54, 55, 75], [], []⟩,
 ⟨[2], [], []⟩,
 ⟨[5, 53, 54, 55], [], []⟩,
 ⟨[2], [], []⟩]
def s5 : SC := .seq (.ops [So 2 (.assign (.const (.bool false))) 4] [0])
 (.seq (.seq (.ops [So 11 (.call ⟨.value (.func 8), #[], #[]⟩) 4,
 So 12 (.unOp .not 4 (.tmp 11)) 4,
 So 13 (.move (.tmp 12)) 4,
 Sg 14 (.move (.tmp 0)) 22 13 false,
 Sg 15 (.call ⟨.value (.func 9), #[.tmp 14], #[22]⟩) 4 13 false,
 Sg 16 (.unOp .not 4 (.tmp 15)) 4 13 false,
 So 17 (.pick (.tmp 13) (.const (.bool true)) (.tmp 16)) 4] [0, 17])
 (.cond (.tmp 17)
 (.seq (.ops [So 18 (.call ⟨.value (.func 8), #[], #[]⟩) 4,
 So 2 (.assign (.tmp 18)) 4] [2])
 (.ret))
 (.skip)))
 (.seq (.ops [So 19 (.move (.tmp 0)) 22,
 So 20 (.call ⟨.value (.func 10), #[.tmp 19], #[22]⟩) 25,
 So 3 (.assign (.tmp 20)) 25] [3])
 (.seq (.ops [So 21 (.move (.tmp 3)) 25,
 So 22 (.call ⟨.value (.func 22), #[.tmp 21], #[25]⟩) 53,
 So 4 (.alloc 53) 0,
 Sn (.store 53 (.tmp 4) (.tmp 22)) 0] [4])
 (.seq (.ops [So 24 (.load 53 (.tmp 4)) 53,
 So 25 (.call ⟨.value (.func 23), #[.tmp 24], #[53]⟩) 55,
 So 23 (.move (.tmp 25)) 55,
 So 26 (.extract (.tmp 23) 0) 53,
 So 27 (.extract (.tmp 23) 1) 36,
 So 5 (.alloc 53) 0,
 Sn (.store 53 (.tmp 5) (.tmp 26)) 0,
 So 6 (.assign (.tmp 27)) 36] [4, 5, 6])
 (.seq (.seq (.ops [So 28 (.move (.tmp 6)) 36,
 So 29 (.binOp .neq 36 (.tmp 28) (.const (.int .i64 0)) 36) 4] [4, 5, 6, 29])
 (.cond (.tmp 29)
 (.seq (.ops [So 30 (.move (.tmp 6)) 36,
 So 31 (.binOp .eql 36 (.tmp 30) (.const (.int .i64 4)) 36) 4,
 So 32 (.move (.tmp 31)) 4,
 Sg 33 (.move (.tmp 6)) 36 32 false,
 Sg 34 (.binOp .eql 36 (.tmp 33) (.const (.int .i64 3)) 36) 4 32 false,
 So 35 (.pick (.tmp 32) (.const (.bool true)) (.tmp 34)) 4,
 So 2 (.assign (.tmp 35)) 4] [2])
 (.ret))
 (.skip)))
 (.seq (.seq (.ops [So 36 (.fieldAddr 53 (.tmp 5) 1) 0,
 So 37 (.load 32 (.tmp 36)) 32,
 So 38 (.call ⟨.builtin .len, #[.tmp 37], #[32]⟩) 3,
 So 39 (.fieldAddr 53 (.tmp 4) 1) 0,
 So 40 (.load 32 (.tmp 39)) 32,
 So 41 (.call ⟨.builtin .len, #[.tmp 40], #[32]⟩) 3,
 So 42 (.binOp .neq 3 (.tmp 38) (.tmp 41) 3) 4,
 So 43 (.move (.tmp 42)) 4,
 Sg 44 (.fieldAddr 53 (.tmp 5) 0) 0 43 false,
 Sg 45 (.load 27 (.tmp 44)) 27 43 false,
 Sg 46 (.call ⟨.builtin .len, #[.tmp 45], #[27]⟩) 3 43 false,
 Sg 47 (.fieldAddr 53 (.tmp 4) 0) 0 43 false,
 Sg 48 (.load 27 (.tmp 47)) 27 43 false,
 Sg 49 (.call ⟨.builtin .len, #[.tmp 48], #[27]⟩) 3 43 false,
 Sg 50 (.binOp .lss 3 (.tmp 46) (.tmp 49) 3) 4 43 false,
 So 51 (.pick (.tmp 43) (.const (.bool true)) (.tmp 50)) 4] [5, 51])
 (.cond (.tmp 51)
 (.seq (.ops [So 2 (.assign (.const (.bool false))) 4] [2])
 (.ret))
 (.skip)))
 (.seq (.seq (.ops [So 52 (.fieldAddr 53 (.tmp 5) 1) 0,
 So 53 (.load 32 (.tmp 52)) 32,
 So 54 (.call ⟨.builtin .len, #[.tmp 53], #[32]⟩) 3,
 So 55 (.move (.const (.int .i64 0))) 3] [5, 53, 54, 55])
 (.block 0
 (.loop
 (.seq (.ops [So 56 (.binOp .lss 3 (.tmp 55) (.tmp 54) 3) 0] [5, 53, 54, 55, 56])
 (.seq (.cond (.tmp 56)
 (.skip)
 (.exit 0))
 (.seq (.block 1
 (.seq (.ops [So 57 (.indexAddr 32 (.tmp 53) (.tmp 55)) 0,
 So 58 (.load 34 (.tmp 57)) 34,
 So 8 (.alloc 34) 0,
 Sn (.store 34 (.tmp 8) (.tmp 58)) 0] [5, 8, 53, 54, 55])
 (.seq (.ops [So 60 (.load 34 (.tmp 8)) 34,
 So 61 (.call ⟨.value (.func 16), #[.tmp 60], #[34]⟩) 44,
 So 59 (.move (.tmp 61)) 44,
 So 62 (.extract (.tmp 59) 0) 4,
 So 63 (.extract (.tmp 59) 1) 36,
 So 9 (.assign (.tmp 62)) 4,
 So 10 (.assign (.tmp 63)) 36] [5, 8, 9, 10, 53, 54, 55])
 (.seq (.ops [So 64 (.move (.tmp 10)) 36,
 So 65 (.binOp .neq 36 (.tmp 64) (.const (.int .i64 0)) 36) 4,
 So 66 (.move (.tmp 65)) 4,
 Sg 67 (.move (.tmp 9)) 4 66 false,
 So 68 (.pick (.tmp 66) (.const (.bool true)) (.tmp 67)) 4,
 So 69 (.move (.tmp 68)) 4,
 Sg 70 (.fieldAddr 53 (.tmp 5) 0) 0 69 false,
 Sg 71 (.load 27 (.tmp 70)) 27 69 false,
 Sg 72 (.load 34 (.tmp 8)) 34 69 false,
 Sg 73 (.call ⟨.value (.func 17), #[.tmp 71, .tmp 72], #[27, 34]⟩) 36 69 false,
 Sg 74 (.binOp .neq 36 (.tmp 73) (.const (.int .i64 0)) 36) 4 69 false,
 So 75 (.pick (.tmp 69) (.const (.bool true)) (.tmp 74)) 4] [5, 53, 54, 55, 75])
 (.cond (.tmp 75)
 (.seq (.ops [So 2 (.assign (.const (.bool false))) 4] [2])
 (.ret))
 (.skip))))))
 (.ops [So 76 (.binOp .add 3 (.tmp 55) (.const (.int .i64 1)) 3) 3,
 So 55 (.move (.tmp 76)) 3] [5, 53, 54, 55])))))))
 (.seq (.ops [So 2 (.assign (.const (.bool true))) 4] [2])
 (.ret)))))))))
theorem w5 : CW 5 s5 [.tmp 2] := fun hr h => callsV_of_p follows cfgT a5 (fn := Tryz.f5) (c := Tryz.f5.body.getD .skip) (by kernel_rfl) (by kernel_rfl) (by kernel_rfl) (by kernel_rfl) (by kernel_rfl) (sc := s5) (by kernel_rfl) [.tmp 2] (by kernel_rfl) hr h
end
end Go.Proofs.YtnpgbkldpdogjaaGreatDoor.V

set_option maxRecDepth 100000
namespace Go.Proofs.YtnpgbkldpdogjaaGreatDoor.V
open Go Go.Proofs
noncomputable section
def a6 : List Ann := [⟨[0], [], []⟩,
 ⟨[0, 22], [], []⟩,
 ⟨[2], [], []⟩,
 ⟨[3], [], []⟩,
 ⟨[3, 4], [], []⟩,
 ⟨[3, 4, 5, 6], [], []⟩,
 ⟨[3, 4, 5, 34], [], []⟩,
 ⟨[2], [], []⟩,
 ⟨[4, 7], [], []⟩,
 ⟨[4, 7, 8, 10], [], []⟩,
 ⟨[4, 7, 8, 45], [], []⟩,
 ⟨[2], [], []⟩,
 ⟨[4, 8, 11, 12], [], []⟩,
 ⟨[11, 12, 13, 14], [], []⟩,
 ⟨[11, 12, 13, 14, 63], [], []⟩,
 ⟨[2], [], []⟩,
 ⟨[15], [], []⟩,
 ⟨[2], [], []⟩]
end
end Go.Proofs.YtnpgbkldpdogjaaGreatDoor.V
