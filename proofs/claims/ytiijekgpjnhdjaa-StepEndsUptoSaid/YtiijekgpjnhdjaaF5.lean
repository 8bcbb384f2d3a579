/- Contracts of the program's functions. -/
import Derived.Test.YtiijekgpjnhdjaaF4
import Derived.KernelRfl
import Derived.Test.YtiijekgpjnhdjaaAm4
namespace Go.AM
open Go.Proofs
set_option maxRecDepth 100000
set_option linter.unusedVariables false
set_option linter.unusedSimpArgs false
def c5 : AFn := ⟨69, .seq (.reg false [⟨some 1, .box (.tmp 0), none⟩, ⟨some 2, .mov (.lit (.bool false)), none⟩]) (.seq (.reg false [⟨some 11, .fa 0 (.tmp 1), none⟩, ⟨some 12, .load 1 false (.tmp 11), none⟩, ⟨some 3, .mov (.tmp 12), none⟩]) (.seq (.reg false [⟨some 13, .fa 1 (.tmp 1), none⟩, ⟨some 14, .load 2 true (.tmp 13), none⟩, ⟨some 4, .alloc [.nilS, .nilS], none⟩, ⟨none, .store 2 (.tmp 4) (.tmp 14), none⟩]) (.seq (.reg false [⟨some 15, .fa 3 (.tmp 1), none⟩, ⟨some 16, .load 1 false (.tmp 15), none⟩, ⟨some 5, .mov (.tmp 16), none⟩]) (.seq (.reg false [⟨some 17, .fa 4 (.tmp 1), none⟩, ⟨some 18, .load 1 false (.tmp 17), none⟩, ⟨some 6, .mov (.tmp 18), none⟩]) (.seq (.reg false [⟨some 19, .fa 5 (.tmp 1), none⟩, ⟨some 20, .load 1 false (.tmp 19), none⟩, ⟨some 7, .mov (.tmp 20), none⟩]) (.seq (.reg false [⟨some 21, .call (.lit (.fn (.func 9) [] [])) [], none⟩, ⟨some 8, .mov (.tmp 21), none⟩]) (.seq (.seq (.reg false [⟨some 22, .mov (.tmp 3), none⟩, ⟨some 23, .load 2 true (.tmp 4), none⟩, ⟨some 24, .call (.lit (.fn (.func 10) [] [])) [.tmp 22, .tmp 23], none⟩, ⟨some 25, .not (.tmp 24), none⟩]) (.cond (.tmp 25) (.seq (.reg false [⟨some 26, .mov (.tmp 8), none⟩, ⟨some 2, .mov (.tmp 26), none⟩]) .ret) .skip)) (.seq (.reg false [⟨some 27, .mov (.tmp 3), none⟩, ⟨some 28, .load 2 true (.tmp 4), none⟩, ⟨some 29, .mov (.tmp 5), none⟩, ⟨some 30, .mov (.tmp 6), none⟩, ⟨some 31, .call (.lit (.fn (.func 11) [] [])) [.tmp 27, .tmp 28, .tmp 29, .tmp 30], none⟩, ⟨some 9, .alloc [.int .i64 0, .nilS], none⟩, ⟨none, .store 2 (.tmp 9) (.tmp 31), none⟩]) (.seq (.reg false [⟨some 32, .mov (.tmp 3), none⟩, ⟨some 33, .load 2 true (.tmp 4), none⟩, ⟨some 34, .mov (.tmp 6), none⟩, ⟨some 35, .mov (.tmp 5), none⟩, ⟨some 36, .call (.lit (.fn (.func 11) [] [])) [.tmp 32, .tmp 33, .tmp 34, .tmp 35], none⟩, ⟨some 10, .alloc [.int .i64 0, .nilS], none⟩, ⟨none, .store 2 (.tmp 10) (.tmp 36), none⟩]) (.seq (.reg true [⟨some 37, .mov (.tmp 8), none⟩, ⟨some 38, .mov (.tmp 37), none⟩, ⟨some 39, .load 2 true (.tmp 9), some ((38, true))⟩, ⟨some 40, .mov (.tmp 3), some ((38, true))⟩, ⟨some 41, .load 2 true (.tmp 4), some ((38, true))⟩, ⟨some 42, .mov (.tmp 5), some ((38, true))⟩, ⟨some 43, .mov (.tmp 6), some ((38, true))⟩, ⟨some 44, .call (.lit (.fn (.func 14) [] [])) [.tmp 40, .tmp 41, .tmp 42, .tmp 43], some ((38, true))⟩, ⟨some 45, .call (.lit (.fn (.func 13) [] [])) [.tmp 39, .tmp 44], some ((38, true))⟩, ⟨some 46, .pick (.tmp 38) (.tmp 45) (.lit (.bool false)), none⟩, ⟨some 47, .mov (.tmp 46), none⟩, ⟨some 48, .mov (.tmp 3), some ((47, true))⟩, ⟨some 49, .load 2 true (.tmp 4), some ((47, true))⟩, ⟨some 50, .mov (.tmp 5), some ((47, true))⟩, ⟨some 51, .mov (.tmp 7), some ((47, true))⟩, ⟨some 52, .call (.lit (.fn (.func 12) [] [])) [.tmp 48, .tmp 49, .tmp 50, .tmp 51], some ((47, true))⟩, ⟨some 53, .mov (.tmp 3), some ((47, true))⟩, ⟨some 54, .load 2 true (.tmp 4), some ((47, true))⟩, ⟨some 55, .mov (.tmp 5), some ((47, true))⟩, ⟨some 56, .mov (.tmp 7), some ((47, true))⟩, ⟨some 57, .call (.lit (.fn (.func 15) [] [])) [.tmp 53, .tmp 54, .tmp 55, .tmp 56], some ((47, true))⟩, ⟨some 58, .eqa false false [.bool] (.tmp 52) (.tmp 57), some ((47, true))⟩, ⟨some 59, .pick (.tmp 47) (.tmp 58) (.lit (.bool false)), none⟩, ⟨some 60, .mov (.tmp 59), none⟩, ⟨some 61, .load 2 true (.tmp 9), some ((60, true))⟩, ⟨some 62, .load 2 true (.tmp 10), some ((60, true))⟩, ⟨some 63, .call (.lit (.fn (.func 16) [] [])) [.tmp 61, .tmp 62], some ((60, true))⟩, ⟨some 64, .load 2 true (.tmp 9), some ((60, true))⟩, ⟨some 65, .load 2 true (.tmp 10), some ((60, true))⟩, ⟨some 66, .call (.lit (.fn (.func 13) [] [])) [.tmp 64, .tmp 65], some ((60, true))⟩, ⟨some 67, .eqa false false [.bool] (.tmp 63) (.tmp 66), some ((60, true))⟩, ⟨some 68, .pick (.tmp 60) (.tmp 67) (.lit (.bool false)), none⟩, ⟨some 2, .mov (.tmp 68), none⟩]) .ret)))))))))), [.tmp 2]⟩
def c13 : AFn := ⟨17, .seq (.reg false [⟨some 2, .box (.tmp 0), none⟩, ⟨some 3, .box (.tmp 1), none⟩, ⟨some 4, .mov (.lit (.bool false)), none⟩]) (.seq (.reg false [⟨some 5, .fa 0 (.tmp 2), none⟩, ⟨some 6, .load 1 false (.tmp 5), none⟩, ⟨some 7, .fa 0 (.tmp 3), none⟩, ⟨some 8, .load 1 false (.tmp 7), none⟩, ⟨some 9, .bin .eql (.tmp 6) (.tmp 8), none⟩, ⟨some 10, .mov (.tmp 9), none⟩, ⟨some 11, .fa 1 (.tmp 2), some ((10, true))⟩, ⟨some 12, .load 1 false (.tmp 11), some ((10, true))⟩, ⟨some 13, .fa 1 (.tmp 3), some ((10, true))⟩, ⟨some 14, .load 1 false (.tmp 13), some ((10, true))⟩, ⟨some 15, .call (.lit (.fn (.func 19) [] [])) [.tmp 12, .tmp 14], some ((10, true))⟩, ⟨some 16, .pick (.tmp 10) (.tmp 15) (.lit (.bool false)), none⟩, ⟨some 4, .mov (.tmp 16), none⟩]) .ret), [.tmp 4]⟩
def c16 : AFn := ⟨17, .seq (.reg false [⟨some 2, .box (.tmp 0), none⟩, ⟨some 3, .box (.tmp 1), none⟩, ⟨some 4, .mov (.lit (.bool false)), none⟩]) (.seq (.reg false [⟨some 5, .fa 0 (.tmp 2), none⟩, ⟨some 6, .load 1 false (.tmp 5), none⟩, ⟨some 7, .fa 0 (.tmp 3), none⟩, ⟨some 8, .load 1 false (.tmp 7), none⟩, ⟨some 9, .bin .eql (.tmp 6) (.tmp 8), none⟩, ⟨some 10, .mov (.tmp 9), none⟩, ⟨some 11, .fa 1 (.tmp 2), some ((10, true))⟩, ⟨some 12, .load 1 false (.tmp 11), some ((10, true))⟩, ⟨some 13, .fa 1 (.tmp 3), some ((10, true))⟩, ⟨some 14, .load 1 false (.tmp 13), some ((10, true))⟩, ⟨some 15, .call (.lit (.fn (.func 35) [] [])) [.tmp 12, .tmp 14], some ((10, true))⟩, ⟨some 16, .pick (.tmp 10) (.tmp 15) (.lit (.bool false)), none⟩, ⟨some 4, .mov (.tmp 16), none⟩]) .ret), [.tmp 4]⟩
def c19 : AFn := ⟨26, .seq (.reg false [⟨some 4, .mov (.lit (.bool false)), none⟩]) (.seq (.seq (.reg false [⟨some 6, .mov (.tmp 0), none⟩, ⟨some 7, .len (.tmp 6), none⟩, ⟨some 8, .mov (.tmp 1), none⟩, ⟨some 9, .len (.tmp 8), none⟩, ⟨some 10, .bin .neq (.tmp 7) (.tmp 9), none⟩]) (.cond (.tmp 10) (.seq (.reg false [⟨some 4, .mov (.lit (.bool false)), none⟩]) .ret) .skip)) (.seq (.seq (.reg false [⟨some 5, .mov (.lit (.int .i64 0)), none⟩]) (.block 0 (.loop (.seq (.seq (.reg false [⟨some 11, .mov (.tmp 5), none⟩, ⟨some 12, .mov (.tmp 0), none⟩, ⟨some 13, .len (.tmp 12), none⟩, ⟨some 14, .bin .lss (.tmp 11) (.tmp 13), none⟩]) (.cond (.tmp 14) .skip (.exit 0))) (.seq (.block 1 (.seq (.reg true [⟨some 17, .mov (.tmp 0), none⟩, ⟨some 18, .mov (.tmp 5), none⟩, ⟨some 19, .ia 2 (.tmp 17) (.tmp 18), none⟩, ⟨some 20, .load 2 true (.tmp 19), none⟩, ⟨some 21, .mov (.tmp 1), none⟩, ⟨some 22, .mov (.tmp 5), none⟩, ⟨some 23, .ia 2 (.tmp 21) (.tmp 22), none⟩, ⟨some 24, .load 2 true (.tmp 23), none⟩, ⟨some 25, .eqa true true [.int .i64, .int .i64] (.tmp 20) (.tmp 24), none⟩]) (.cond (.tmp 25) (.seq (.reg false [⟨some 4, .mov (.lit (.bool false)), none⟩]) .ret) .skip))) (.reg false [⟨some 15, .mov (.tmp 5), none⟩, ⟨some 16, .bin .add (.tmp 15) (.lit (.int .i64 1)), none⟩, ⟨some 5, .mov (.tmp 16), none⟩])))))) (.seq (.reg false [⟨some 4, .mov (.lit (.bool true)), none⟩]) .ret))), [.tmp 4]⟩
def c30 : AFn := ⟨5, .seq (.reg false [⟨some 2, .alloc [.int .i64 0, .nilS], none⟩]) (.seq (.reg false [⟨some 3, .mov (.tmp 0), none⟩, ⟨some 4, .build [.int .i64 0, .nilS] [(0, 1, .lit (.int .i64 1)), (1, 1, .tmp 3)], none⟩, ⟨none, .store 2 (.tmp 2) (.tmp 4), none⟩]) .ret), [.cell 2 2 true]⟩
def c31 : AFn := ⟨63, .seq (.reg false [⟨some 4, .box (.tmp 1), none⟩, ⟨some 5, .box (.tmp 2), none⟩, ⟨some 6, .alloc [.int .i64 0, .nilS], none⟩]) (.seq (.reg true [⟨some 10, .mov (.tmp 0), none⟩, ⟨some 11, .fa 1 (.tmp 5), none⟩, ⟨some 12, .load 1 false (.tmp 11), none⟩, ⟨some 13, .ia 2 (.tmp 10) (.tmp 12), none⟩, ⟨some 14, .fa 1 (.tmp 13), none⟩, ⟨some 15, .load 1 false (.tmp 14), none⟩, ⟨some 16, .fa 2 (.tmp 5), none⟩, ⟨some 17, .load 1 false (.tmp 16), none⟩, ⟨some 18, .idxs (.tmp 15) (.tmp 17), none⟩, ⟨some 7, .mov (.tmp 18), none⟩]) (.seq (.reg false [⟨some 19, .fa 3 (.tmp 5), none⟩, ⟨some 20, .load 1 false (.tmp 19), none⟩, ⟨some 21, .ia 1 (.tmp 20) (.lit (.int .i64 0)), none⟩, ⟨some 22, .load 1 false (.tmp 21), none⟩, ⟨some 8, .mov (.tmp 22), none⟩]) (.seq (.seq (.reg false [⟨some 23, .fa 0 (.tmp 4), none⟩, ⟨some 24, .load 1 false (.tmp 23), none⟩, ⟨some 25, .bin .eql (.tmp 24) (.lit (.int .i64 1)), none⟩]) (.cond (.tmp 25) (.seq (.reg false [⟨some 9, .mov (.lit .nilS), none⟩]) (.seq (.seq (.reg false [⟨some 26, .mov (.tmp 7), none⟩, ⟨some 27, .bin .neq (.tmp 26) (.lit (.int .u8 45)), none⟩]) (.cond (.tmp 27) (.reg false [⟨some 28, .mov (.tmp 9), none⟩, ⟨some 29, .mov (.tmp 8), none⟩, ⟨some 30, .build [.int .i64 0, .int .i64 0] [(0, 1, .lit (.int .i64 1)), (1, 1, .tmp 29)], none⟩, ⟨some 31, .bslice 2 1 [.int .i64 0, .int .i64 0] [(0, .tmp 30)], none⟩, ⟨some 32, .app 2 16 (.tmp 28) (.tmp 31), none⟩, ⟨some 9, .mov (.tmp 32), none⟩]) .skip)) (.seq (.seq (.reg false [⟨some 33, .mov (.tmp 7), none⟩, ⟨some 34, .bin .neq (.tmp 33) (.lit (.int .u8 43)), none⟩]) (.cond (.tmp 34) (.reg false [⟨some 35, .mov (.tmp 9), none⟩, ⟨some 36, .mov (.tmp 8), none⟩, ⟨some 37, .build [.int .i64 0, .int .i64 0] [(0, 1, .tmp 36), (1, 1, .lit (.int .i64 0))], none⟩, ⟨some 38, .bslice 2 1 [.int .i64 0, .int .i64 0] [(0, .tmp 37)], none⟩, ⟨some 39, .app 2 16 (.tmp 35) (.tmp 38), none⟩, ⟨some 9, .mov (.tmp 39), none⟩]) .skip)) (.seq (.reg false [⟨some 40, .mov (.tmp 9), none⟩, ⟨some 41, .call (.lit (.fn (.func 30) [] [])) [.tmp 40], none⟩, ⟨none, .store 2 (.tmp 6) (.tmp 41), none⟩]) .ret)))) .skip)) (.seq (.seq (.reg false [⟨some 42, .fa 0 (.tmp 4), none⟩, ⟨some 43, .load 1 false (.tmp 42), none⟩, ⟨some 44, .bin .eql (.tmp 43) (.lit (.int .i64 3)), none⟩, ⟨some 45, .mov (.tmp 44), none⟩, ⟨some 46, .fa 1 (.tmp 4), some ((45, true))⟩, ⟨some 47, .load 1 false (.tmp 46), some ((45, true))⟩, ⟨some 48, .fa 1 (.tmp 5), some ((45, true))⟩, ⟨some 49, .load 1 false (.tmp 48), some ((45, true))⟩, ⟨some 50, .bin .eql (.tmp 47) (.tmp 49), some ((45, true))⟩, ⟨some 51, .pick (.tmp 45) (.tmp 50) (.lit (.bool false)), none⟩]) (.cond (.tmp 51) (.seq (.reg false [⟨some 52, .fa 3 (.tmp 4), none⟩, ⟨some 53, .load 1 false (.tmp 52), none⟩, ⟨some 54, .fa 2 (.tmp 5), none⟩, ⟨some 55, .load 1 false (.tmp 54), none⟩, ⟨some 56, .ia 1 (.tmp 53) (.tmp 55), none⟩, ⟨some 57, .load 1 false (.tmp 56), none⟩, ⟨some 58, .mov (.tmp 8), none⟩, ⟨some 59, .mov (.tmp 7), none⟩, ⟨some 60, .call (.lit (.fn (.func 32) [] [])) [.lit .nilS, .tmp 57, .tmp 58, .tmp 59], none⟩, ⟨some 61, .call (.lit (.fn (.func 30) [] [])) [.tmp 60], none⟩, ⟨none, .store 2 (.tmp 6) (.tmp 61), none⟩]) .ret) .skip)) (.seq (.reg false [⟨some 62, .build [.int .i64 0, .nilS] [], none⟩, ⟨none, .store 2 (.tmp 6) (.tmp 62), none⟩]) .ret))))), [.cell 6 2 true]⟩
def c32 : AFn := ⟨26, .seq (.reg false [⟨some 8, .mov (.lit .nilS), none⟩]) (.seq (.seq (.reg false [⟨some 9, .mov (.tmp 3), none⟩, ⟨some 10, .bin .neq (.tmp 9) (.lit (.int .u8 45)), none⟩]) (.cond (.tmp 10) (.reg false [⟨some 11, .mov (.tmp 0), none⟩, ⟨some 12, .mov (.tmp 1), none⟩, ⟨some 13, .mov (.tmp 2), none⟩, ⟨some 14, .build [.int .i64 0, .int .i64 0] [(0, 1, .tmp 12), (1, 1, .tmp 13)], none⟩, ⟨some 15, .bslice 2 1 [.int .i64 0, .int .i64 0] [(0, .tmp 14)], none⟩, ⟨some 16, .app 2 16 (.tmp 11) (.tmp 15), none⟩, ⟨some 0, .mov (.tmp 16), none⟩]) .skip)) (.seq (.seq (.reg false [⟨some 17, .mov (.tmp 3), none⟩, ⟨some 18, .bin .neq (.tmp 17) (.lit (.int .u8 43)), none⟩]) (.cond (.tmp 18) (.reg false [⟨some 19, .mov (.tmp 0), none⟩, ⟨some 20, .mov (.tmp 2), none⟩, ⟨some 21, .mov (.tmp 1), none⟩, ⟨some 22, .build [.int .i64 0, .int .i64 0] [(0, 1, .tmp 20), (1, 1, .tmp 21)], none⟩, ⟨some 23, .bslice 2 1 [.int .i64 0, .int .i64 0] [(0, .tmp 22)], none⟩, ⟨some 24, .app 2 16 (.tmp 19) (.tmp 23), none⟩, ⟨some 0, .mov (.tmp 24), none⟩]) .skip)) (.seq (.reg false [⟨some 25, .mov (.tmp 0), none⟩, ⟨some 8, .mov (.tmp 25), none⟩]) .ret))), [.tmp 8]⟩
def c33 : AFn := ⟨16, .seq (.reg false [⟨some 8, .mov (.lit (.bool false)), none⟩]) (.seq (.seq (.reg false [⟨some 9, .mov (.tmp 0), none⟩, ⟨some 10, .bin .eql (.tmp 9) (.lit (.int .u8 76)), none⟩]) (.cond (.tmp 10) (.seq (.reg false [⟨some 11, .mov (.tmp 1), none⟩, ⟨some 8, .mov (.tmp 11), none⟩]) .ret) .skip)) (.seq (.seq (.reg false [⟨some 12, .mov (.tmp 0), none⟩, ⟨some 13, .bin .eql (.tmp 12) (.lit (.int .u8 82)), none⟩]) (.cond (.tmp 13) (.seq (.reg false [⟨some 14, .mov (.tmp 2), none⟩, ⟨some 8, .mov (.tmp 14), none⟩]) .ret) .skip)) (.seq (.reg false [⟨some 15, .mov (.tmp 3), none⟩, ⟨some 8, .mov (.tmp 15), none⟩]) .ret))), [.tmp 8]⟩
def c34 : AFn := ⟨20, .seq (.reg false [⟨some 4, .mov (.lit (.int .u8 0)), none⟩]) (.seq (.seq (.reg false [⟨some 5, .mov (.tmp 1), none⟩, ⟨some 6, .bin .eql (.tmp 5) (.lit (.int .u8 43)), none⟩]) (.cond (.tmp 6) (.seq (.reg false [⟨some 7, .mov (.tmp 0), none⟩, ⟨some 4, .mov (.tmp 7), none⟩]) .ret) .skip)) (.seq (.seq (.reg false [⟨some 8, .mov (.tmp 1), none⟩, ⟨some 9, .bin .eql (.tmp 8) (.lit (.int .u8 45)), none⟩, ⟨some 10, .mov (.tmp 9), none⟩, ⟨some 11, .mov (.tmp 0), some ((10, true))⟩, ⟨some 12, .bin .eql (.tmp 11) (.lit (.int .u8 76)), some ((10, true))⟩, ⟨some 13, .pick (.tmp 10) (.tmp 12) (.lit (.bool false)), none⟩]) (.cond (.tmp 13) (.seq (.reg false [⟨some 4, .mov (.lit (.int .u8 82)), none⟩]) .ret) .skip)) (.seq (.seq (.reg false [⟨some 14, .mov (.tmp 1), none⟩, ⟨some 15, .bin .eql (.tmp 14) (.lit (.int .u8 45)), none⟩, ⟨some 16, .mov (.tmp 15), none⟩, ⟨some 17, .mov (.tmp 0), some ((16, true))⟩, ⟨some 18, .bin .eql (.tmp 17) (.lit (.int .u8 82)), some ((16, true))⟩, ⟨some 19, .pick (.tmp 16) (.tmp 18) (.lit (.bool false)), none⟩]) (.cond (.tmp 19) (.seq (.reg false [⟨some 4, .mov (.lit (.int .u8 76)), none⟩]) .ret) .skip)) (.seq (.reg false [⟨some 4, .mov (.lit (.int .u8 66)), none⟩]) .ret)))), [.tmp 4]⟩
def c35 : AFn := ⟨26, .seq (.reg false [⟨some 4, .mov (.lit (.bool false)), none⟩]) (.seq (.seq (.reg false [⟨some 6, .mov (.tmp 0), none⟩, ⟨some 7, .len (.tmp 6), none⟩, ⟨some 8, .mov (.tmp 1), none⟩, ⟨some 9, .len (.tmp 8), none⟩, ⟨some 10, .bin .neq (.tmp 7) (.tmp 9), none⟩]) (.cond (.tmp 10) (.seq (.reg false [⟨some 4, .mov (.lit (.bool false)), none⟩]) .ret) .skip)) (.seq (.seq (.reg false [⟨some 11, .mov (.tmp 0), none⟩, ⟨some 12, .len (.tmp 11), none⟩, ⟨some 13, .mov (.lit (.int .i64 0)), none⟩]) (.block 0 (.loop (.seq (.reg false [⟨some 14, .bin .lss (.tmp 13) (.tmp 12), none⟩]) (.seq (.cond (.tmp 14) .skip (.exit 0)) (.seq (.block 1 (.seq (.reg false [⟨some 15, .mov (.tmp 13), none⟩, ⟨some 5, .mov (.tmp 15), none⟩]) (.seq (.reg true [⟨some 16, .mov (.tmp 0), none⟩, ⟨some 17, .mov (.tmp 5), none⟩, ⟨some 18, .ia 2 (.tmp 16) (.tmp 17), none⟩, ⟨some 19, .load 2 true (.tmp 18), none⟩, ⟨some 20, .mov (.tmp 1), none⟩, ⟨some 21, .mov (.tmp 5), none⟩, ⟨some 22, .ia 2 (.tmp 20) (.tmp 21), none⟩, ⟨some 23, .load 2 true (.tmp 22), none⟩, ⟨some 24, .eqa true true [.int .i64, .int .i64] (.tmp 19) (.tmp 23), none⟩]) (.cond (.tmp 24) (.seq (.reg false [⟨some 4, .mov (.lit (.bool false)), none⟩]) .ret) .skip)))) (.reg false [⟨some 25, .bin .add (.tmp 13) (.lit (.int .i64 1)), none⟩, ⟨some 13, .mov (.tmp 25), none⟩]))))))) (.seq (.reg false [⟨some 4, .mov (.lit (.bool true)), none⟩]) .ret))), [.tmp 4]⟩
def c14 : AFn := ⟨163, .seq (.reg false [⟨some 5, .box (.tmp 1), none⟩, ⟨some 8, .alloc [.int .i64 0, .nilS], none⟩]) (.seq (.reg false [⟨some 16, .load 2 true (.tmp 5), none⟩, ⟨some 17, .mov (.tmp 2), none⟩, ⟨some 18, .call (.lit (.fn (.func 29) [] [])) [.tmp 16, .tmp 17], none⟩, ⟨some 15, .mov (.tmp 18), none⟩, ⟨some 19, .ext (.tmp 15) 0, none⟩, ⟨some 20, .ext (.tmp 15) 1, none⟩, ⟨some 9, .alloc [.int .i64 0, .int .i64 0, .int .i64 0, .nilS], none⟩, ⟨none, .store 4 (.tmp 9) (.tmp 19), none⟩, ⟨some 10, .mov (.tmp 20), none⟩]) (.seq (.reg false [⟨some 22, .load 2 true (.tmp 5), none⟩, ⟨some 23, .mov (.tmp 3), none⟩, ⟨some 24, .call (.lit (.fn (.func 29) [] [])) [.tmp 22, .tmp 23], none⟩, ⟨some 21, .mov (.tmp 24), none⟩, ⟨some 25, .ext (.tmp 21) 0, none⟩, ⟨some 26, .ext (.tmp 21) 1, none⟩, ⟨some 11, .alloc [.int .i64 0, .int .i64 0, .int .i64 0, .nilS], none⟩, ⟨none, .store 4 (.tmp 11) (.tmp 25), none⟩, ⟨some 12, .mov (.tmp 26), none⟩]) (.seq (.seq (.reg false [⟨some 27, .mov (.tmp 10), none⟩, ⟨some 28, .not (.tmp 27), none⟩, ⟨some 29, .mov (.tmp 28), none⟩, ⟨some 30, .mov (.tmp 12), some ((29, false))⟩, ⟨some 31, .not (.tmp 30), some ((29, false))⟩, ⟨some 32, .pick (.tmp 29) (.lit (.bool true)) (.tmp 31), none⟩, ⟨some 33, .mov (.tmp 32), none⟩, ⟨some 34, .mov (.tmp 2), some ((33, false))⟩, ⟨some 35, .mov (.tmp 3), some ((33, false))⟩, ⟨some 36, .bin .eql (.tmp 34) (.tmp 35), some ((33, false))⟩, ⟨some 37, .pick (.tmp 33) (.lit (.bool true)) (.tmp 36), none⟩, ⟨some 38, .mov (.tmp 37), none⟩, ⟨some 39, .fa 0 (.tmp 9), some ((38, false))⟩, ⟨some 40, .load 1 false (.tmp 39), some ((38, false))⟩, ⟨some 41, .bin .eql (.tmp 40) (.lit (.int .i64 0)), some ((38, false))⟩, ⟨some 42, .pick (.tmp 38) (.lit (.bool true)) (.tmp 41), none⟩, ⟨some 43, .mov (.tmp 42), none⟩, ⟨some 44, .fa 0 (.tmp 11), some ((43, false))⟩, ⟨some 45, .load 1 false (.tmp 44), some ((43, false))⟩, ⟨some 46, .bin .eql (.tmp 45) (.lit (.int .i64 1)), some ((43, false))⟩, ⟨some 47, .pick (.tmp 43) (.lit (.bool true)) (.tmp 46), none⟩]) (.cond (.tmp 47) (.seq (.reg false [⟨some 48, .build [.int .i64 0, .nilS] [], none⟩, ⟨none, .store 2 (.tmp 8) (.tmp 48), none⟩]) .ret) .skip)) (.seq (.seq (.reg false [⟨some 49, .fa 0 (.tmp 9), none⟩, ⟨some 50, .load 1 false (.tmp 49), none⟩, ⟨some 51, .bin .eql (.tmp 50) (.lit (.int .i64 4)), none⟩]) (.cond (.tmp 51) (.seq (.reg true [⟨some 52, .fa 3 (.tmp 9), none⟩, ⟨some 53, .load 1 false (.tmp 52), none⟩, ⟨some 54, .ia 1 (.tmp 53) (.lit (.int .i64 0)), none⟩, ⟨some 55, .load 1 false (.tmp 54), none⟩, ⟨some 56, .mov (.tmp 3), none⟩, ⟨some 57, .build [.int .i64 0, .int .i64 0] [(0, 1, .tmp 55), (1, 1, .tmp 56)], none⟩, ⟨some 58, .fa 3 (.tmp 9), none⟩, ⟨some 59, .load 1 false (.tmp 58), none⟩, ⟨some 60, .ia 1 (.tmp 59) (.lit (.int .i64 1)), none⟩, ⟨some 61, .load 1 false (.tmp 60), none⟩, ⟨some 62, .mov (.tmp 3), none⟩, ⟨some 63, .build [.int .i64 0, .int .i64 0] [(0, 1, .tmp 61), (1, 1, .tmp 62)], none⟩, ⟨some 64, .bslice 2 2 [.int .i64 0, .int .i64 0] [(0, .tmp 57), (1, .tmp 63)], none⟩, ⟨some 65, .call (.lit (.fn (.func 30) [] [])) [.tmp 64], none⟩, ⟨none, .store 2 (.tmp 8) (.tmp 65), none⟩]) .ret) .skip)) (.seq (.seq (.reg false [⟨some 66, .fa 0 (.tmp 11), none⟩, ⟨some 67, .load 1 false (.tmp 66), none⟩, ⟨some 68, .bin .eql (.tmp 67) (.lit (.int .i64 5)), none⟩]) (.cond (.tmp 68) (.seq (.reg true [⟨some 69, .mov (.tmp 2), none⟩, ⟨some 70, .fa 3 (.tmp 11), none⟩, ⟨some 71, .load 1 false (.tmp 70), none⟩, ⟨some 72, .ia 1 (.tmp 71) (.lit (.int .i64 0)), none⟩, ⟨some 73, .load 1 false (.tmp 72), none⟩, ⟨some 74, .build [.int .i64 0, .int .i64 0] [(0, 1, .tmp 69), (1, 1, .tmp 73)], none⟩, ⟨some 75, .mov (.tmp 2), none⟩, ⟨some 76, .fa 3 (.tmp 11), none⟩, ⟨some 77, .load 1 false (.tmp 76), none⟩, ⟨some 78, .ia 1 (.tmp 77) (.lit (.int .i64 1)), none⟩, ⟨some 79, .load 1 false (.tmp 78), none⟩, ⟨some 80, .build [.int .i64 0, .int .i64 0] [(0, 1, .tmp 75), (1, 1, .tmp 79)], none⟩, ⟨some 81, .bslice 2 2 [.int .i64 0, .int .i64 0] [(0, .tmp 74), (1, .tmp 80)], none⟩, ⟨some 82, .call (.lit (.fn (.func 30) [] [])) [.tmp 81], none⟩, ⟨none, .store 2 (.tmp 8) (.tmp 82), none⟩]) .ret) .skip)) (.seq (.seq (.reg false [⟨some 83, .fa 0 (.tmp 9), none⟩, ⟨some 84, .load 1 false (.tmp 83), none⟩, ⟨some 85, .bin .eql (.tmp 84) (.lit (.int .i64 2)), none⟩, ⟨some 86, .mov (.tmp 85), none⟩, ⟨some 87, .fa 0 (.tmp 11), some ((86, false))⟩, ⟨some 88, .load 1 false (.tmp 87), some ((86, false))⟩, ⟨some 89, .bin .eql (.tmp 88) (.lit (.int .i64 2)), some ((86, false))⟩, ⟨some 90, .pick (.tmp 86) (.lit (.bool true)) (.tmp 89), none⟩]) (.cond (.tmp 90) (.seq (.reg false [⟨some 91, .build [.int .i64 0, .nilS] [(0, 1, .lit (.int .i64 2))], none⟩, ⟨none, .store 2 (.tmp 8) (.tmp 91), none⟩]) .ret) .skip)) (.seq (.seq (.reg false [⟨some 92, .fa 0 (.tmp 11), none⟩, ⟨some 93, .load 1 false (.tmp 92), none⟩, ⟨some 94, .bin .eql (.tmp 93) (.lit (.int .i64 6)), none⟩]) (.cond (.tmp 94) (.seq (.reg false [⟨some 95, .mov (.tmp 0), none⟩, ⟨some 96, .load 4 true (.tmp 9), none⟩, ⟨some 97, .load 4 true (.tmp 11), none⟩, ⟨some 98, .call (.lit (.fn (.func 31) [] [])) [.tmp 95, .tmp 96, .tmp 97], none⟩, ⟨none, .store 2 (.tmp 8) (.tmp 98), none⟩]) .ret) .skip)) (.seq (.seq (.reg false [⟨some 99, .fa 0 (.tmp 9), none⟩, ⟨some 100, .load 1 false (.tmp 99), none⟩, ⟨some 101, .bin .eql (.tmp 100) (.lit (.int .i64 3)), none⟩, ⟨some 102, .mov (.tmp 101), none⟩, ⟨some 103, .fa 0 (.tmp 11), some ((102, true))⟩, ⟨some 104, .load 1 false (.tmp 103), some ((102, true))⟩, ⟨some 105, .bin .eql (.tmp 104) (.lit (.int .i64 3)), some ((102, true))⟩, ⟨some 106, .pick (.tmp 102) (.tmp 105) (.lit (.bool false)), none⟩, ⟨some 107, .mov (.tmp 106), none⟩, ⟨some 108, .fa 1 (.tmp 9), some ((107, true))⟩, ⟨some 109, .load 1 false (.tmp 108), some ((107, true))⟩, ⟨some 110, .fa 1 (.tmp 11), some ((107, true))⟩, ⟨some 111, .load 1 false (.tmp 110), some ((107, true))⟩, ⟨some 112, .bin .eql (.tmp 109) (.tmp 111), some ((107, true))⟩, ⟨some 113, .pick (.tmp 107) (.tmp 112) (.lit (.bool false)), none⟩]) (.cond (.tmp 113) (.seq (.reg false [⟨some 13, .mov (.lit .nilS), none⟩]) (.seq (.seq (.reg false [⟨some 14, .mov (.lit (.int .i64 0)), none⟩]) (.block 0 (.loop (.seq (.seq (.reg false [⟨some 114, .mov (.tmp 14), none⟩, ⟨some 115, .fa 3 (.tmp 9), none⟩, ⟨some 116, .load 1 false (.tmp 115), none⟩, ⟨some 117, .len (.tmp 116), none⟩, ⟨some 118, .bin .lss (.tmp 114) (.tmp 117), none⟩]) (.cond (.tmp 118) .skip (.exit 0))) (.seq (.block 1 (.seq (.reg true [⟨some 121, .mov (.tmp 13), none⟩, ⟨some 122, .fa 3 (.tmp 9), none⟩, ⟨some 123, .load 1 false (.tmp 122), none⟩, ⟨some 124, .mov (.tmp 14), none⟩, ⟨some 125, .ia 1 (.tmp 123) (.tmp 124), none⟩, ⟨some 126, .load 1 false (.tmp 125), none⟩, ⟨some 127, .fa 3 (.tmp 11), none⟩, ⟨some 128, .load 1 false (.tmp 127), none⟩, ⟨some 129, .mov (.tmp 14), none⟩, ⟨some 130, .ia 1 (.tmp 128) (.tmp 129), none⟩, ⟨some 131, .load 1 false (.tmp 130), none⟩, ⟨some 132, .mov (.tmp 0), none⟩, ⟨some 133, .fa 1 (.tmp 9), none⟩, ⟨some 134, .load 1 false (.tmp 133), none⟩, ⟨some 135, .ia 2 (.tmp 132) (.tmp 134), none⟩, ⟨some 136, .fa 1 (.tmp 135), none⟩, ⟨some 137, .load 1 false (.tmp 136), none⟩, ⟨some 138, .mov (.tmp 14), none⟩, ⟨some 139, .idxs (.tmp 137) (.tmp 138), none⟩]) (.seq (.reg false [⟨some 140, .call (.lit (.fn (.func 32) [] [])) [.tmp 121, .tmp 126, .tmp 131, .tmp 139], none⟩]) (.reg true [⟨some 13, .mov (.tmp 140), none⟩])))) (.reg false [⟨some 119, .mov (.tmp 14), none⟩, ⟨some 120, .bin .add (.tmp 119) (.lit (.int .i64 1)), none⟩, ⟨some 14, .mov (.tmp 120), none⟩])))))) (.seq (.reg false [⟨some 141, .mov (.tmp 13), none⟩, ⟨some 142, .call (.lit (.fn (.func 30) [] [])) [.tmp 141], none⟩, ⟨none, .store 2 (.tmp 8) (.tmp 142), none⟩]) .ret))) .skip)) (.seq (.seq (.reg false [⟨some 143, .fa 0 (.tmp 9), none⟩, ⟨some 144, .load 1 false (.tmp 143), none⟩, ⟨some 145, .bin .eql (.tmp 144) (.lit (.int .i64 1)), none⟩, ⟨some 146, .mov (.tmp 145), none⟩, ⟨some 147, .fa 0 (.tmp 9), some ((146, false))⟩, ⟨some 148, .load 1 false (.tmp 147), some ((146, false))⟩, ⟨some 149, .bin .eql (.tmp 148) (.lit (.int .i64 3)), some ((146, false))⟩, ⟨some 150, .pick (.tmp 146) (.lit (.bool true)) (.tmp 149), none⟩, ⟨some 151, .mov (.tmp 150), none⟩, ⟨some 152, .fa 0 (.tmp 11), some ((151, true))⟩, ⟨some 153, .load 1 false (.tmp 152), some ((151, true))⟩, ⟨some 154, .bin .eql (.tmp 153) (.lit (.int .i64 0)), some ((151, true))⟩, ⟨some 155, .mov (.tmp 154), some ((151, true))⟩, ⟨some 156, .fa 0 (.tmp 11), some ((155, false))⟩, ⟨some 157, .load 1 false (.tmp 156), some ((155, false))⟩, ⟨some 158, .bin .eql (.tmp 157) (.lit (.int .i64 3)), some ((155, false))⟩, ⟨some 159, .pick (.tmp 155) (.lit (.bool true)) (.tmp 158), some ((151, true))⟩, ⟨some 160, .pick (.tmp 151) (.tmp 159) (.lit (.bool false)), none⟩]) (.cond (.tmp 160) (.seq (.reg false [⟨some 161, .build [.int .i64 0, .nilS] [(0, 1, .lit (.int .i64 3))], none⟩, ⟨none, .store 2 (.tmp 8) (.tmp 161), none⟩]) .ret) .skip)) (.seq (.reg false [⟨some 162, .build [.int .i64 0, .nilS] [], none⟩, ⟨none, .store 2 (.tmp 8) (.tmp 162), none⟩]) .ret)))))))))), [.cell 8 2 true]⟩
def c15 : AFn := ⟨171, .seq (.reg false [⟨some 5, .box (.tmp 1), none⟩, ⟨some 8, .mov (.lit (.bool false)), none⟩]) (.seq (.seq (.reg false [⟨some 21, .mov (.tmp 2), none⟩, ⟨some 22, .bin .lss (.tmp 21) (.lit (.int .i64 0)), none⟩, ⟨some 23, .mov (.tmp 22), none⟩, ⟨some 24, .mov (.tmp 2), some ((23, false))⟩, ⟨some 25, .fa 0 (.tmp 5), some ((23, false))⟩, ⟨some 26, .load 1 false (.tmp 25), some ((23, false))⟩, ⟨some 27, .len (.tmp 26), some ((23, false))⟩, ⟨some 28, .bin .geq (.tmp 24) (.tmp 27), some ((23, false))⟩, ⟨some 29, .pick (.tmp 23) (.lit (.bool true)) (.tmp 28), none⟩]) (.cond (.tmp 29) (.seq (.reg false [⟨some 8, .mov (.lit (.bool false)), none⟩]) .ret) .skip)) (.seq (.reg false [⟨some 9, .mov (.lit .nilS), none⟩]) (.seq (.reg false [⟨some 10, .mov (.lit .nilS), none⟩]) (.seq (.reg false [⟨some 11, .mov (.lit .nilS), none⟩]) (.seq (.seq (.reg false [⟨some 12, .mov (.lit (.int .i64 0)), none⟩]) (.block 0 (.loop (.seq (.seq (.reg false [⟨some 30, .mov (.tmp 12), none⟩, ⟨some 31, .mov (.tmp 2), none⟩, ⟨some 32, .bin .leq (.tmp 30) (.tmp 31), none⟩]) (.cond (.tmp 32) .skip (.exit 0))) (.seq (.block 1 (.seq (.reg false [⟨some 36, .load 2 true (.tmp 5), none⟩, ⟨some 37, .mov (.tmp 12), none⟩, ⟨some 38, .call (.lit (.fn (.func 29) [] [])) [.tmp 36, .tmp 37], none⟩, ⟨some 35, .mov (.tmp 38), none⟩, ⟨some 39, .ext (.tmp 35) 0, none⟩, ⟨some 40, .ext (.tmp 35) 1, none⟩, ⟨some 13, .alloc [.int .i64 0, .int .i64 0, .int .i64 0, .nilS], none⟩, ⟨none, .store 4 (.tmp 13) (.tmp 39), none⟩, ⟨some 14, .mov (.tmp 40), none⟩]) (.seq (.reg false [⟨some 41, .fa 0 (.tmp 13), none⟩, ⟨some 42, .load 1 false (.tmp 41), none⟩, ⟨some 43, .bin .neq (.tmp 42) (.lit (.int .i64 5)), none⟩, ⟨some 44, .mov (.tmp 43), none⟩, ⟨some 45, .fa 0 (.tmp 13), some ((44, true))⟩, ⟨some 46, .load 1 false (.tmp 45), some ((44, true))⟩, ⟨some 47, .bin .neq (.tmp 46) (.lit (.int .i64 6)), some ((44, true))⟩, ⟨some 48, .pick (.tmp 44) (.tmp 47) (.lit (.bool false)), none⟩, ⟨some 15, .mov (.tmp 48), none⟩]) (.seq (.reg false [⟨some 49, .fa 0 (.tmp 13), none⟩, ⟨some 50, .load 1 false (.tmp 49), none⟩, ⟨some 51, .bin .neq (.tmp 50) (.lit (.int .i64 4)), none⟩, ⟨some 16, .mov (.tmp 51), none⟩]) (.seq (.reg false [⟨some 52, .mov (.tmp 15), none⟩, ⟨some 53, .mov (.tmp 52), none⟩, ⟨some 54, .mov (.tmp 16), some ((53, true))⟩, ⟨some 55, .pick (.tmp 53) (.tmp 54) (.lit (.bool false)), none⟩, ⟨some 17, .mov (.tmp 55), none⟩]) (.seq (.seq (.reg false [⟨some 18, .mov (.lit (.int .i64 0)), none⟩]) (.block 2 (.loop (.seq (.seq (.reg false [⟨some 56, .mov (.tmp 18), none⟩, ⟨some 57, .fa 3 (.tmp 13), none⟩, ⟨some 58, .load 1 false (.tmp 57), none⟩, ⟨some 59, .len (.tmp 58), none⟩, ⟨some 60, .bin .lss (.tmp 56) (.tmp 59), none⟩]) (.cond (.tmp 60) .skip (.exit 2))) (.seq (.block 3 (.seq (.reg false [⟨some 63, .fa 3 (.tmp 13), none⟩, ⟨some 64, .load 1 false (.tmp 63), none⟩, ⟨some 65, .mov (.tmp 18), none⟩, ⟨some 66, .ia 1 (.tmp 64) (.tmp 65), none⟩, ⟨some 67, .load 1 false (.tmp 66), none⟩, ⟨some 19, .mov (.tmp 67), none⟩]) (.seq (.reg false [⟨some 20, .mov (.lit (.int .u8 43)), none⟩]) (.seq (.seq (.reg false [⟨some 68, .fa 0 (.tmp 13), none⟩, ⟨some 69, .load 1 false (.tmp 68), none⟩, ⟨some 70, .bin .eql (.tmp 69) (.lit (.int .i64 3)), none⟩]) (.cond (.tmp 70) (.reg false [⟨some 71, .mov (.tmp 0), none⟩, ⟨some 72, .fa 1 (.tmp 13), none⟩, ⟨some 73, .load 1 false (.tmp 72), none⟩, ⟨some 74, .ia 2 (.tmp 71) (.tmp 73), none⟩, ⟨some 75, .fa 1 (.tmp 74), none⟩, ⟨some 76, .load 1 false (.tmp 75), none⟩, ⟨some 77, .mov (.tmp 18), none⟩, ⟨some 78, .idxs (.tmp 76) (.tmp 77), none⟩, ⟨some 20, .mov (.tmp 78), none⟩]) .skip)) (.seq (.seq (.reg false [⟨some 79, .fa 0 (.tmp 13), none⟩, ⟨some 80, .load 1 false (.tmp 79), none⟩, ⟨some 81, .bin .eql (.tmp 80) (.lit (.int .i64 6)), none⟩]) (.cond (.tmp 81) (.reg true [⟨some 82, .mov (.tmp 0), none⟩, ⟨some 83, .fa 1 (.tmp 13), none⟩, ⟨some 84, .load 1 false (.tmp 83), none⟩, ⟨some 85, .ia 2 (.tmp 82) (.tmp 84), none⟩, ⟨some 86, .fa 1 (.tmp 85), none⟩, ⟨some 87, .load 1 false (.tmp 86), none⟩, ⟨some 88, .fa 2 (.tmp 13), none⟩, ⟨some 89, .load 1 false (.tmp 88), none⟩, ⟨some 90, .idxs (.tmp 87) (.tmp 89), none⟩, ⟨some 20, .mov (.tmp 90), none⟩]) .skip)) (.seq (.seq .mark (.reg true [⟨some 91, .mov (.tmp 15), none⟩, ⟨some 92, .mov (.tmp 91), none⟩, ⟨some 93, .mov (.tmp 20), some ((92, true))⟩, ⟨some 94, .call (.lit (.fn (.func 34) [] [])) [.lit (.int .u8 76), .tmp 93], some ((92, true))⟩, ⟨some 95, .mov (.tmp 9), some ((92, true))⟩, ⟨some 96, .mov (.tmp 19), some ((92, true))⟩, ⟨some 97, .ia 1 (.tmp 95) (.tmp 96), some ((92, true))⟩, ⟨some 98, .load 1 false (.tmp 97), some ((92, true))⟩, ⟨some 99, .mov (.tmp 10), some ((92, true))⟩, ⟨some 100, .mov (.tmp 19), some ((92, true))⟩, ⟨some 101, .ia 1 (.tmp 99) (.tmp 100), some ((92, true))⟩, ⟨some 102, .load 1 false (.tmp 101), some ((92, true))⟩, ⟨some 103, .mov (.tmp 11), some ((92, true))⟩, ⟨some 104, .mov (.tmp 19), some ((92, true))⟩, ⟨some 105, .ia 1 (.tmp 103) (.tmp 104), some ((92, true))⟩, ⟨some 106, .load 1 false (.tmp 105), some ((92, true))⟩, ⟨some 107, .call (.lit (.fn (.func 33) [] [])) [.tmp 94, .tmp 98, .tmp 102, .tmp 106], some ((92, true))⟩, ⟨some 108, .pick (.tmp 92) (.tmp 107) (.lit (.bool false)), none⟩, ⟨some 15, .mov (.tmp 108), none⟩])) (.seq (.seq .mark (.reg true [⟨some 109, .mov (.tmp 16), none⟩, ⟨some 110, .mov (.tmp 109), none⟩, ⟨some 111, .mov (.tmp 20), some ((110, true))⟩, ⟨some 112, .call (.lit (.fn (.func 34) [] [])) [.lit (.int .u8 82), .tmp 111], some ((110, true))⟩, ⟨some 113, .mov (.tmp 9), some ((110, true))⟩, ⟨some 114, .mov (.tmp 19), some ((110, true))⟩, ⟨some 115, .ia 1 (.tmp 113) (.tmp 114), some ((110, true))⟩, ⟨some 116, .load 1 false (.tmp 115), some ((110, true))⟩, ⟨some 117, .mov (.tmp 10), some ((110, true))⟩, ⟨some 118, .mov (.tmp 19), some ((110, true))⟩, ⟨some 119, .ia 1 (.tmp 117) (.tmp 118), some ((110, true))⟩, ⟨some 120, .load 1 false (.tmp 119), some ((110, true))⟩, ⟨some 121, .mov (.tmp 11), some ((110, true))⟩, ⟨some 122, .mov (.tmp 19), some ((110, true))⟩, ⟨some 123, .ia 1 (.tmp 121) (.tmp 122), some ((110, true))⟩, ⟨some 124, .load 1 false (.tmp 123), some ((110, true))⟩, ⟨some 125, .call (.lit (.fn (.func 33) [] [])) [.tmp 112, .tmp 116, .tmp 120, .tmp 124], some ((110, true))⟩, ⟨some 126, .pick (.tmp 110) (.tmp 125) (.lit (.bool false)), none⟩, ⟨some 16, .mov (.tmp 126), none⟩])) (.seq .mark (.reg true [⟨some 127, .mov (.tmp 17), none⟩, ⟨some 128, .mov (.tmp 127), none⟩, ⟨some 129, .mov (.tmp 20), some ((128, true))⟩, ⟨some 130, .call (.lit (.fn (.func 34) [] [])) [.lit (.int .u8 66), .tmp 129], some ((128, true))⟩, ⟨some 131, .mov (.tmp 9), some ((128, true))⟩, ⟨some 132, .mov (.tmp 19), some ((128, true))⟩, ⟨some 133, .ia 1 (.tmp 131) (.tmp 132), some ((128, true))⟩, ⟨some 134, .load 1 false (.tmp 133), some ((128, true))⟩, ⟨some 135, .mov (.tmp 10), some ((128, true))⟩, ⟨some 136, .mov (.tmp 19), some ((128, true))⟩, ⟨some 137, .ia 1 (.tmp 135) (.tmp 136), some ((128, true))⟩, ⟨some 138, .load 1 false (.tmp 137), some ((128, true))⟩, ⟨some 139, .mov (.tmp 11), some ((128, true))⟩, ⟨some 140, .mov (.tmp 19), some ((128, true))⟩, ⟨some 141, .ia 1 (.tmp 139) (.tmp 140), some ((128, true))⟩, ⟨some 142, .load 1 false (.tmp 141), some ((128, true))⟩, ⟨some 143, .call (.lit (.fn (.func 33) [] [])) [.tmp 130, .tmp 134, .tmp 138, .tmp 142], some ((128, true))⟩, ⟨some 144, .pick (.tmp 128) (.tmp 143) (.lit (.bool false)), none⟩, ⟨some 17, .mov (.tmp 144), none⟩]))))))))) (.reg false [⟨some 61, .mov (.tmp 18), none⟩, ⟨some 62, .bin .add (.tmp 61) (.lit (.int .i64 1)), none⟩, ⟨some 18, .mov (.tmp 62), none⟩])))))) (.seq (.reg false [⟨some 145, .mov (.tmp 9), none⟩, ⟨some 146, .mov (.tmp 15), none⟩, ⟨some 147, .bslice 1 1 [.bool false] [(0, .tmp 146)], none⟩, ⟨some 148, .app 1 1 (.tmp 145) (.tmp 147), none⟩, ⟨some 9, .mov (.tmp 148), none⟩]) (.seq (.reg false [⟨some 149, .mov (.tmp 10), none⟩, ⟨some 150, .mov (.tmp 16), none⟩, ⟨some 151, .bslice 1 1 [.bool false] [(0, .tmp 150)], none⟩, ⟨some 152, .app 1 1 (.tmp 149) (.tmp 151), none⟩, ⟨some 10, .mov (.tmp 152), none⟩]) (.reg false [⟨some 153, .mov (.tmp 11), none⟩, ⟨some 154, .mov (.tmp 17), none⟩, ⟨some 155, .bslice 1 1 [.bool false] [(0, .tmp 154)], none⟩, ⟨some 156, .app 1 1 (.tmp 153) (.tmp 155), none⟩, ⟨some 11, .mov (.tmp 156), none⟩]))))))))) (.reg false [⟨some 33, .mov (.tmp 12), none⟩, ⟨some 34, .bin .add (.tmp 33) (.lit (.int .i64 1)), none⟩, ⟨some 12, .mov (.tmp 34), none⟩])))))) (.seq (.reg true [⟨some 157, .mov (.tmp 3), none⟩, ⟨some 158, .mov (.tmp 9), none⟩, ⟨some 159, .mov (.tmp 2), none⟩, ⟨some 160, .ia 1 (.tmp 158) (.tmp 159), none⟩, ⟨some 161, .load 1 false (.tmp 160), none⟩, ⟨some 162, .mov (.tmp 10), none⟩, ⟨some 163, .mov (.tmp 2), none⟩, ⟨some 164, .ia 1 (.tmp 162) (.tmp 163), none⟩, ⟨some 165, .load 1 false (.tmp 164), none⟩, ⟨some 166, .mov (.tmp 11), none⟩, ⟨some 167, .mov (.tmp 2), none⟩, ⟨some 168, .ia 1 (.tmp 166) (.tmp 167), none⟩, ⟨some 169, .load 1 false (.tmp 168), none⟩, ⟨some 170, .call (.lit (.fn (.func 33) [] [])) [.tmp 157, .tmp 161, .tmp 165, .tmp 169], none⟩, ⟨some 8, .mov (.tmp 170), none⟩]) .ret)))))), [.tmp 8]⟩
/-! ### The document's step, and both compared -/
theorem prs_RL' (l : List (Int × Int)) (n : Nat) : RL n (.rows false 2 (l.map fun p => [i64 p.1, i64 p.2])) := prs_RL l n
theorem prsArgs (a b : List (Int × Int)) : ∀ x ∈ [prs a, prs b], RL 0 x := by
  intro x hx
  simp only [List.mem_cons, List.not_mem_nil, or_false] at hx
  rcases hx with rfl | rfl <;> exact prs_RL _ _
theorem c19_ok : cFn Try.prog an0 Try.f19 = some c19 := by kernel_rfl
theorem pairs_PF (a b : List (Int × Int)) : PF Try.prog 19 [prs a, prs b] (.bool (decide (a = b))) := by
  refine PFk 9 hm Try.func19 c19_ok (Nat.le_of_ble_eq_true rfl) (prsArgs a b) (by simp) ?_
  simp (maxSteps := 3000000) [-List.length_flatten, -List.map_drop, -List.map_take, Function.comp_def, argsT, Opd.ev, Tm.get, put, ares, mapMo, ares1, snilP, bldParts, bslParts, putAt, AV.cells, AV.one, astore, aload, loadCs, callArgs, abin, abinInt, aapp, elems, appMore, appNone, preLen, aFa, aFld, apart, aExt, aPick, aNot, aLens, aEqa, cellsK, fitsA, LK.fitsA, leavesA, leafA, nilD, aNilc, aCint, aCid, alive, alen, alenOk, Rle, lePs, len_flat, c19]
  intro ha hb
  refine ⟨fun h => ?_, fun h => ?_⟩
  · intro e
    subst e
    simp at h
  · refine run_count a.length 5 [(0, prs a), (1, prs b)] [] (fun i => ∀ j : Nat, j < i → gi a j = gi b j)
      (Wk.tell 0 (Nat.le_refl _) (by simp [Tm.get]) (by simp only [al_cons, al_nil, and_true]; exact ⟨by simp, prs_RL _ _, prs_RL _ _⟩) rfl (by simp)) (fun j hj => by omega) ?_
    intro i hi hj
    have next : i < a.length → gi a i = gi b i → ∀ j : Nat, j < i + 1 → gi a j = gi b j := fun h hb j hl => by
      rcases Nat.lt_or_ge j i with h3 | h3
      · exact hj j h3
      · have : j = i := by omega
        subst this
        exact hb
    simp (maxSteps := 3000000) [-List.length_flatten, -List.map_drop, -List.map_take, Function.comp_def, argsT, Opd.ev, Tm.get, put, ares, mapMo, ares1, snilP, bldParts, bslParts, putAt, AV.cells, AV.one, astore, aload, loadCs, callArgs, abin, abinInt, aapp, elems, appMore, appNone, preLen, aFa, aFld, apart, aExt, aPick, aNot, aLens, aEqa, cellsK, fitsA, LK.fitsA, leavesA, leafA, nilD, aNilc, aCint, aCid, alive, alen, alenOk, Rle, lePs, len_flat]
    intro _
    refine ⟨fun h1 => ⟨h1, by omega, fun h2 e => ?_, fun h2 h3 => ?_⟩, fun h1 => eq_gi (by omega) (fun j hl => hj j (by omega))⟩
    · subst e
      simp at h2
    · exact Kn_next 0 (by omega) (by omega) (next h1 (Prod.ext h2 h3)) (by simp [Tm.get, nxt h1 ha]) (by simp only [al_cons, al_nil, and_true]; exact ⟨prs_RL _ _, prs_RL _ _⟩) rfl (by simp)
theorem c35_ok : cFn Try.prog an0 Try.f35 = some c35 := by kernel_rfl
theorem equal_PF (a b : List (Int × Int)) : PF Try.prog 35 [prs a, prs b] (.bool (decide (a = b))) := by
  refine PFk 9 hm Try.func35 c35_ok (Nat.le_of_ble_eq_true rfl) (prsArgs a b) (by simp) ?_
  simp (maxSteps := 3000000) [-List.length_flatten, -List.map_drop, -List.map_take, Function.comp_def, argsT, Opd.ev, Tm.get, put, ares, mapMo, ares1, snilP, bldParts, bslParts, putAt, AV.cells, AV.one, astore, aload, loadCs, callArgs, abin, abinInt, aapp, elems, appMore, appNone, preLen, aFa, aFld, apart, aExt, aPick, aNot, aLens, aEqa, cellsK, fitsA, LK.fitsA, leavesA, leafA, nilD, aNilc, aCint, aCid, alive, alen, alenOk, Rle, lePs, len_flat, c35]
  intro ha hb
  refine ⟨fun h => ?_, fun h => ?_⟩
  · intro e
    subst e
    simp at h
  · intro _
    refine run_count a.length 13 [(12, i64 a.length), (0, prs a), (1, prs b)] [] (fun i => ∀ j : Nat, j < i → gi a j = gi b j)
      (Wk.tell 0 (Nat.le_refl _) (by simp [Tm.get]) (by simp only [al_cons, al_nil, and_true]; exact ⟨by simp, by simp, prs_RL _ _, prs_RL _ _⟩) rfl (by simp)) (fun j hj => by omega) ?_
    intro i hi hj
    have next : i < a.length → gi a i = gi b i → ∀ j : Nat, j < i + 1 → gi a j = gi b j := fun h hb j hl => by
      rcases Nat.lt_or_ge j i with h3 | h3
      · exact hj j h3
      · have : j = i := by omega
        subst this
        exact hb
    simp (maxSteps := 3000000) [-List.length_flatten, -List.map_drop, -List.map_take, Function.comp_def, argsT, Opd.ev, Tm.get, put, ares, mapMo, ares1, snilP, bldParts, bslParts, putAt, AV.cells, AV.one, astore, aload, loadCs, callArgs, abin, abinInt, aapp, elems, appMore, appNone, preLen, aFa, aFld, apart, aExt, aPick, aNot, aLens, aEqa, cellsK, fitsA, LK.fitsA, leavesA, leafA, nilD, aNilc, aCint, aCid, alive, alen, alenOk, Rle, lePs, len_flat]
    refine ⟨fun h1 => ⟨h1, by omega, fun h2 e => ?_, fun h2 h3 => ?_⟩, fun h1 => eq_gi (by omega) (fun j hl => hj j (by omega))⟩
    · subst e
      simp at h2
    · exact Kn_next 0 (by omega) (by omega) (next h1 (Prod.ext h2 h3)) (by simp [Tm.get, nxt h1 ha]) (by simp only [al_cons, al_nil, and_true]; exact ⟨by simp, prs_RL _ _, prs_RL _ _⟩) rfl (by simp)
def sameWay (v w : Int × List (Int × Int)) : Bool := decide (v.1 = w.1) && decide (v.2 = w.2)
theorem wayArgs (v w : Int × List (Int × Int)) : ∀ x ∈ [way v.1 v.2, way w.1 w.2], RL 0 x := by
  intro x hx
  simp only [List.mem_cons, List.not_mem_nil, or_false] at hx
  rcases hx with rfl | rfl <;> exact way_RL _ _ _
theorem c13_ok : cFn Try.prog an0 Try.f13 = some c13 := by kernel_rfl
theorem same13_PF (v w : Int × List (Int × Int)) : PF Try.prog 13 [way v.1 v.2, way w.1 w.2] (.bool (sameWay v w)) := by
  refine PFk 9 hm Try.func13 c13_ok (Nat.le_of_ble_eq_true rfl) (wayArgs v w) (by simp) ?_
  by_cases h : v.1 = w.1
  · simp (maxSteps := 3000000) [-List.length_flatten, -List.map_drop, -List.map_take, Function.comp_def, argsT, Opd.ev, Tm.get, put, ares, mapMo, ares1, snilP, bldParts, bslParts, putAt, AV.cells, AV.one, astore, aload, loadCs, callArgs, abin, abinInt, aapp, elems, appMore, appNone, preLen, aFa, aFld, apart, aExt, aPick, aNot, aLens, aEqa, cellsK, fitsA, LK.fitsA, leavesA, leafA, nilD, aNilc, aCint, aCid, alive, alen, alenOk, Rle, lePs, len_flat, c13, h]
    refine PF.call (pairs_PF v.2 w.2) 9 (by simp [lePs]) ?_
    simp (maxSteps := 3000000) [-List.length_flatten, -List.map_drop, -List.map_take, Function.comp_def, argsT, Opd.ev, Tm.get, put, ares, mapMo, ares1, snilP, bldParts, bslParts, putAt, AV.cells, AV.one, astore, aload, loadCs, callArgs, abin, abinInt, aapp, elems, appMore, appNone, preLen, aFa, aFld, apart, aExt, aPick, aNot, aLens, aEqa, cellsK, fitsA, LK.fitsA, leavesA, leafA, nilD, aNilc, aCint, aCid, alive, alen, alenOk, Rle, lePs, len_flat, Kc]
    simp [sameWay, h]
  · simp (maxSteps := 3000000) [-List.length_flatten, -List.map_drop, -List.map_take, Function.comp_def, argsT, Opd.ev, Tm.get, put, ares, mapMo, ares1, snilP, bldParts, bslParts, putAt, AV.cells, AV.one, astore, aload, loadCs, callArgs, abin, abinInt, aapp, elems, appMore, appNone, preLen, aFa, aFld, apart, aExt, aPick, aNot, aLens, aEqa, cellsK, fitsA, LK.fitsA, leavesA, leafA, nilD, aNilc, aCint, aCid, alive, alen, alenOk, Rle, lePs, len_flat, c13, h]
    simp [sameWay, h]
theorem c16_ok : cFn Try.prog an0 Try.f16 = some c16 := by kernel_rfl
theorem same16_PF (v w : Int × List (Int × Int)) : PF Try.prog 16 [way v.1 v.2, way w.1 w.2] (.bool (sameWay v w)) := by
  refine PFk 9 hm Try.func16 c16_ok (Nat.le_of_ble_eq_true rfl) (wayArgs v w) (by simp) ?_
  by_cases h : v.1 = w.1
  · simp (maxSteps := 3000000) [-List.length_flatten, -List.map_drop, -List.map_take, Function.comp_def, argsT, Opd.ev, Tm.get, put, ares, mapMo, ares1, snilP, bldParts, bslParts, putAt, AV.cells, AV.one, astore, aload, loadCs, callArgs, abin, abinInt, aapp, elems, appMore, appNone, preLen, aFa, aFld, apart, aExt, aPick, aNot, aLens, aEqa, cellsK, fitsA, LK.fitsA, leavesA, leafA, nilD, aNilc, aCint, aCid, alive, alen, alenOk, Rle, lePs, len_flat, c16, h]
    refine PF.call (equal_PF v.2 w.2) 9 (by simp [lePs]) ?_
    simp (maxSteps := 3000000) [-List.length_flatten, -List.map_drop, -List.map_take, Function.comp_def, argsT, Opd.ev, Tm.get, put, ares, mapMo, ares1, snilP, bldParts, bslParts, putAt, AV.cells, AV.one, astore, aload, loadCs, callArgs, abin, abinInt, aapp, elems, appMore, appNone, preLen, aFa, aFld, apart, aExt, aPick, aNot, aLens, aEqa, cellsK, fitsA, LK.fitsA, leavesA, leafA, nilD, aNilc, aCint, aCid, alive, alen, alenOk, Rle, lePs, len_flat, Kc]
    simp [sameWay, h]
  · simp (maxSteps := 3000000) [-List.length_flatten, -List.map_drop, -List.map_take, Function.comp_def, argsT, Opd.ev, Tm.get, put, ares, mapMo, ares1, snilP, bldParts, bslParts, putAt, AV.cells, AV.one, astore, aload, loadCs, callArgs, abin, abinInt, aapp, elems, appMore, appNone, preLen, aFa, aFld, apart, aExt, aPick, aNot, aLens, aEqa, cellsK, fitsA, LK.fitsA, leavesA, leafA, nilD, aNilc, aCint, aCid, alive, alen, alenOk, Rle, lePs, len_flat, c16, h]
    simp [sameWay, h]
theorem c30_ok : cFn Try.prog an0 Try.f30 = some c30 := by kernel_rfl
theorem parts_PF (l : List (Int × Int)) : PF Try.prog 30 [prs l] (way 1 l) := by
  refine PFk 9 hm Try.func30 c30_ok (Nat.le_of_ble_eq_true rfl) (by simp only [List.mem_singleton, forall_eq]; exact prs_RL _ _) (way_RL _ _ _) ?_
  simp (maxSteps := 3000000) [-List.length_flatten, -List.map_drop, -List.map_take, Function.comp_def, argsT, Opd.ev, Tm.get, put, ares, mapMo, ares1, snilP, bldParts, bslParts, putAt, AV.cells, AV.one, astore, aload, loadCs, callArgs, abin, abinInt, aapp, elems, appMore, appNone, preLen, aFa, aFld, apart, aExt, aPick, aNot, aLens, aEqa, cellsK, fitsA, LK.fitsA, leavesA, leafA, nilD, aNilc, aCint, aCid, alive, alen, alenOk, Rle, lePs, len_flat, c30]
theorem c33_ok : cFn Try.prog an0 Try.f33 = some c33 := by kernel_rfl
def onS (s : Int) (p q b : Bool) : Bool := if s = 76 then p else if s = 82 then q else b
theorem on_PF (s : Int) (p q b : Bool) : PF Try.prog 33 [.int .u8 s, .bool p, .bool q, .bool b] (.bool (onS s p q b)) := by
  refine PFk 9 hm Try.func33 c33_ok (Nat.le_of_ble_eq_true rfl) (by simp) (by simp) ?_
  simp (maxSteps := 3000000) [-List.length_flatten, -List.map_drop, -List.map_take, Function.comp_def, argsT, Opd.ev, Tm.get, put, ares, mapMo, ares1, snilP, bldParts, bslParts, putAt, AV.cells, AV.one, astore, aload, loadCs, callArgs, abin, abinInt, aapp, elems, appMore, appNone, preLen, aFa, aFld, apart, aExt, aPick, aNot, aLens, aEqa, cellsK, fitsA, LK.fitsA, leavesA, leafA, nilD, aNilc, aCint, aCid, alive, alen, alenOk, Rle, lePs, len_flat, c33]
  repeat' (first | with_reducible apply And.intro | with_reducible intro _)
  all_goals (unfold onS; simp [*])
theorem c34_ok : cFn Try.prog an0 Try.f34 = some c34 := by kernel_rfl
theorem turn_PF (s v : Int) : PF Try.prog 34 [.int .u8 s, .int .u8 v] (.int .u8 (turned s v)) := by
  refine PFk 9 hm Try.func34 c34_ok (Nat.le_of_ble_eq_true rfl) (by simp) (by simp) ?_
  simp (maxSteps := 3000000) [-List.length_flatten, -List.map_drop, -List.map_take, Function.comp_def, argsT, Opd.ev, Tm.get, put, ares, mapMo, ares1, snilP, bldParts, bslParts, putAt, AV.cells, AV.one, astore, aload, loadCs, callArgs, abin, abinInt, aapp, elems, appMore, appNone, preLen, aFa, aFld, apart, aExt, aPick, aNot, aLens, aEqa, cellsK, fitsA, LK.fitsA, leavesA, leafA, nilD, aNilc, aCint, aCid, alive, alen, alenOk, Rle, lePs, len_flat, c34]
  repeat' (first | with_reducible apply And.intro | with_reducible intro _)
  all_goals first | omega | (unfold turned; simp [*]; done) | (exfalso; omega) | (unfold turned; simp [*]; omega)
end Go.AM

namespace Go.AM
open Go.Proofs
set_option maxRecDepth 100000
set_option linter.unusedVariables false
set_option linter.unusedSimpArgs false
abbrev prc (p : Int × Int) : List AV := [i64 p.1, i64 p.2]
theorem c32_ok : cFn Try.prog an0 Try.f32 = some c32 := by kernel_rfl
theorem pairs0_PF (p q v : Int) : PF Try.prog 32 [.nilS, i64 p, i64 q, .int .u8 v] (prs (varied p q v)) := by
  refine PFk 9 hm Try.func32 c32_ok (Nat.le_of_ble_eq_true rfl) (by simp) (prs_RL _ _) ?_
  have h1 : 1 ≤ maxA := Nat.le_of_ble_eq_true rfl
  have h2 : 2 ≤ maxA := Nat.le_of_ble_eq_true rfl
  by_cases hv : v = 43
  · simp (maxSteps := 3000000) [-List.length_flatten, -List.map_drop, -List.map_take, Function.comp_def, argsT, Opd.ev, Tm.get, put, ares, mapMo, ares1, snilP, bldParts, bslParts, putAt, AV.cells, AV.one, astore, aload, loadCs, callArgs, abin, abinInt, aapp, elems, appMore, appNone, preLen, aFa, aFld, apart, aExt, aPick, aNot, aLens, aEqa, cellsK, fitsA, LK.fitsA, leavesA, leafA, nilD, aNilc, aCint, aCid, alive, alen, alenOk, Rle, lePs, len_flat, c32, hv, h1, h2, chunk]
    simp [varied]
  by_cases hv2 : v = 45
  · simp (maxSteps := 3000000) [-List.length_flatten, -List.map_drop, -List.map_take, Function.comp_def, argsT, Opd.ev, Tm.get, put, ares, mapMo, ares1, snilP, bldParts, bslParts, putAt, AV.cells, AV.one, astore, aload, loadCs, callArgs, abin, abinInt, aapp, elems, appMore, appNone, preLen, aFa, aFld, apart, aExt, aPick, aNot, aLens, aEqa, cellsK, fitsA, LK.fitsA, leavesA, leafA, nilD, aNilc, aCint, aCid, alive, alen, alenOk, Rle, lePs, len_flat, c32, hv2, h1, h2, chunk]
    simp [varied]
  · simp (maxSteps := 3000000) [-List.length_flatten, -List.map_drop, -List.map_take, Function.comp_def, argsT, Opd.ev, Tm.get, put, ares, mapMo, ares1, snilP, bldParts, bslParts, putAt, AV.cells, AV.one, astore, aload, loadCs, callArgs, abin, abinInt, aapp, elems, appMore, appNone, preLen, aFa, aFld, apart, aExt, aPick, aNot, aLens, aEqa, cellsK, fitsA, LK.fitsA, leavesA, leafA, nilD, aNilc, aCint, aCid, alive, alen, alenOk, Rle, lePs, len_flat, c32, hv, hv2, h1, h2, chunk]
    simp [varied, hv, hv2]
theorem pairs_FT (i g : Nat) (l : List (Int × Int)) (p q v : Int) (H : AHeap) (hH : H[i]? = some (.cells g (fl prc l))) (hl : l.length + 2 ≤ maxA) :
    FT Try.prog 32 [.loc i g 0 l.length 2 false, i64 p, i64 q, .int .u8 v] H (fun rv H' => ∃ g', rv = .loc i g' 0 (l ++ varied p q v).length 2 false ∧ H' = H.set i (.cells g' (fl prc (l ++ varied p q v)))) := by
  refine FTk hm Try.func32 c32_ok (Nat.le_of_ble_eq_true rfl) ?_
  have hi : i < H.length := lt_of_get hH
  have h1 : l.length + 1 ≤ maxA := by omega
  have e1 := app_fl (f := prc) (sz := 2) (by simp) l [(p, q)]
  have e2 := app_fl (f := prc) (sz := 2) (by simp) l [(q, p)]
  have e3 := app_fl (f := prc) (sz := 2) (by simp) (l ++ [(p, q)]) [(q, p)]
  have hlen := fl_len (f := prc) (sz := 2) (by simp) l
  have hlen2 := fl_len (f := prc) (sz := 2) (by simp) (l ++ [(p, q)])
  simp only [fl_cons, fl_nil, List.append_nil, List.length_append, List.length_singleton] at e1 e2 e3 hlen2
  by_cases hv : v = 43
  · simp (maxSteps := 3000000) [-List.length_flatten, -List.map_drop, -List.map_take, Function.comp_def, argsT, Opd.ev, Tm.get, put, ares, mapMo, ares1, snilP, bldParts, bslParts, putAt, AV.cells, AV.one, astore, aload, loadCs, callArgs, abin, abinInt, aapp, elems, appMore, appNone, preLen, aFa, aFld, apart, aExt, aPick, aNot, aLens, aEqa, cellsK, fitsA, LK.fitsA, leavesA, leafA, nilD, aNilc, aCint, aCid, alive, alen, alenOk, Rle, lePs, len_flat, c32, hv, hH, hlen, h1, e1]
    simp [varied]
  by_cases hv2 : v = 45
  · simp (maxSteps := 3000000) [-List.length_flatten, -List.map_drop, -List.map_take, Function.comp_def, argsT, Opd.ev, Tm.get, put, ares, mapMo, ares1, snilP, bldParts, bslParts, putAt, AV.cells, AV.one, astore, aload, loadCs, callArgs, abin, abinInt, aapp, elems, appMore, appNone, preLen, aFa, aFld, apart, aExt, aPick, aNot, aLens, aEqa, cellsK, fitsA, LK.fitsA, leavesA, leafA, nilD, aNilc, aCint, aCid, alive, alen, alenOk, Rle, lePs, len_flat, c32, hv2, hH, hlen, h1, e2]
    simp [varied]
  · have hset : ∀ x, (H.set i x)[i]? = some x := fun x => by simp [hi]
    simp (maxSteps := 3000000) [-List.length_flatten, -List.map_drop, -List.map_take, Function.comp_def, argsT, Opd.ev, Tm.get, put, ares, mapMo, ares1, snilP, bldParts, bslParts, putAt, AV.cells, AV.one, astore, aload, loadCs, callArgs, abin, abinInt, aapp, elems, appMore, appNone, preLen, aFa, aFld, apart, aExt, aPick, aNot, aLens, aEqa, cellsK, fitsA, LK.fitsA, leavesA, leafA, nilD, aNilc, aCint, aCid, alive, alen, alenOk, Rle, lePs, len_flat, c32, hv, hv2, hH, hlen, hlen2, h1, hl, e1, e3, hset]
    simp [varied, hv, hv2]
theorem c31_ok : cFn Try.prog an0 Try.f31 = some c31 := by kernel_rfl
theorem projected_PF (b : Bo) (h1 : 0 ≤ b.t.sym ∧ b.t.sym < b.l.length) (h2 : 0 ≤ b.t.part ∧ b.t.part < (gi b.l b.t.sym).args.size) (h3 : 1 ≤ b.t.args.length) (h4 : b.s.kind = 3 → b.s.sym = b.t.sym → b.t.part < b.s.args.length) :
    PF Try.prog 31 [sigs b.l, .agg b.s.cs, .agg b.t.cs] (way (takesWay b).1 (takesWay b).2) := by
  refine PFk 9 hm Try.func31 c31_ok (Nat.le_of_ble_eq_true rfl) (by simp) (way_RL _ _ _) ?_
  have h3' : 0 < b.t.args.length := by omega
  have m1 : 1 ≤ maxA := Nat.le_of_ble_eq_true rfl
  have m2 : 2 ≤ maxA := Nat.le_of_ble_eq_true rfl
  by_cases hk : b.s.kind = 1
  · by_cases hv : byte (gi b.l b.t.sym).args b.t.part = 43
    · simp (maxSteps := 3000000) [-List.length_flatten, -List.map_drop, -List.map_take, Function.comp_def, argsT, Opd.ev, Tm.get, put, ares, mapMo, ares1, snilP, bldParts, bslParts, putAt, AV.cells, AV.one, astore, aload, loadCs, callArgs, abin, abinInt, aapp, elems, appMore, appNone, preLen, aFa, aFld, apart, aExt, aPick, aNot, aLens, aEqa, cellsK, fitsA, LK.fitsA, leavesA, leafA, nilD, aNilc, aCint, aCid, alive, alen, alenOk, Rle, lePs, len_flat, c31, hk, hv, h1, h2, h3', m1, m2]
      refine FT.letgo 3 9 rfl ?_
      simp (maxSteps := 3000000) [-List.length_flatten, -List.map_drop, -List.map_take, Function.comp_def, argsT, Opd.ev, Tm.get, put, ares, mapMo, ares1, snilP, bldParts, bslParts, putAt, AV.cells, AV.one, astore, aload, loadCs, callArgs, abin, abinInt, aapp, elems, appMore, appNone, preLen, aFa, aFld, apart, aExt, aPick, aNot, aLens, aEqa, cellsK, fitsA, LK.fitsA, leavesA, leafA, nilD, aNilc, aCint, aCid, alive, alen, alenOk, Rle, lePs, len_flat, fz]
      refine PF.call (parts_PF [(1, gi b.t.args 0)]) 9 (by simp [lePs, chunk]) ?_
      simp (maxSteps := 3000000) [-List.length_flatten, -List.map_drop, -List.map_take, Function.comp_def, argsT, Opd.ev, Tm.get, put, ares, mapMo, ares1, snilP, bldParts, bslParts, putAt, AV.cells, AV.one, astore, aload, loadCs, callArgs, abin, abinInt, aapp, elems, appMore, appNone, preLen, aFa, aFld, apart, aExt, aPick, aNot, aLens, aEqa, cellsK, fitsA, LK.fitsA, leavesA, leafA, nilD, aNilc, aCint, aCid, alive, alen, alenOk, Rle, lePs, len_flat, Kc]
      simp [takesWay, hk, hv]
    by_cases hv2 : byte (gi b.l b.t.sym).args b.t.part = 45
    · simp (maxSteps := 3000000) [-List.length_flatten, -List.map_drop, -List.map_take, Function.comp_def, argsT, Opd.ev, Tm.get, put, ares, mapMo, ares1, snilP, bldParts, bslParts, putAt, AV.cells, AV.one, astore, aload, loadCs, callArgs, abin, abinInt, aapp, elems, appMore, appNone, preLen, aFa, aFld, apart, aExt, aPick, aNot, aLens, aEqa, cellsK, fitsA, LK.fitsA, leavesA, leafA, nilD, aNilc, aCint, aCid, alive, alen, alenOk, Rle, lePs, len_flat, c31, hk, hv2, h1, h2, h3', m1, m2]
      refine FT.letgo 3 9 rfl ?_
      simp (maxSteps := 3000000) [-List.length_flatten, -List.map_drop, -List.map_take, Function.comp_def, argsT, Opd.ev, Tm.get, put, ares, mapMo, ares1, snilP, bldParts, bslParts, putAt, AV.cells, AV.one, astore, aload, loadCs, callArgs, abin, abinInt, aapp, elems, appMore, appNone, preLen, aFa, aFld, apart, aExt, aPick, aNot, aLens, aEqa, cellsK, fitsA, LK.fitsA, leavesA, leafA, nilD, aNilc, aCint, aCid, alive, alen, alenOk, Rle, lePs, len_flat, fz]
      refine PF.call (parts_PF [(gi b.t.args 0, 0)]) 9 (by simp [lePs, chunk]) ?_
      simp (maxSteps := 3000000) [-List.length_flatten, -List.map_drop, -List.map_take, Function.comp_def, argsT, Opd.ev, Tm.get, put, ares, mapMo, ares1, snilP, bldParts, bslParts, putAt, AV.cells, AV.one, astore, aload, loadCs, callArgs, abin, abinInt, aapp, elems, appMore, appNone, preLen, aFa, aFld, apart, aExt, aPick, aNot, aLens, aEqa, cellsK, fitsA, LK.fitsA, leavesA, leafA, nilD, aNilc, aCint, aCid, alive, alen, alenOk, Rle, lePs, len_flat, Kc]
      simp [takesWay, hk, hv2]
    · simp (maxSteps := 3000000) [-List.length_flatten, -List.map_drop, -List.map_take, Function.comp_def, argsT, Opd.ev, Tm.get, put, ares, mapMo, ares1, snilP, bldParts, bslParts, putAt, AV.cells, AV.one, astore, aload, loadCs, callArgs, abin, abinInt, aapp, elems, appMore, appNone, preLen, aFa, aFld, apart, aExt, aPick, aNot, aLens, aEqa, cellsK, fitsA, LK.fitsA, leavesA, leafA, nilD, aNilc, aCint, aCid, alive, alen, alenOk, Rle, lePs, len_flat, c31, hk, hv, hv2, h1, h2, h3', m1, m2]
      refine FT.letgo 3 9 rfl ?_
      simp (maxSteps := 3000000) [-List.length_flatten, -List.map_drop, -List.map_take, Function.comp_def, argsT, Opd.ev, Tm.get, put, ares, mapMo, ares1, snilP, bldParts, bslParts, putAt, AV.cells, AV.one, astore, aload, loadCs, callArgs, abin, abinInt, aapp, elems, appMore, appNone, preLen, aFa, aFld, apart, aExt, aPick, aNot, aLens, aEqa, cellsK, fitsA, LK.fitsA, leavesA, leafA, nilD, aNilc, aCint, aCid, alive, alen, alenOk, Rle, lePs, len_flat, fz]
      refine PF.call (parts_PF [(1, gi b.t.args 0), (gi b.t.args 0, 0)]) 9 (by simp [lePs, chunk]) ?_
      simp (maxSteps := 3000000) [-List.length_flatten, -List.map_drop, -List.map_take, Function.comp_def, argsT, Opd.ev, Tm.get, put, ares, mapMo, ares1, snilP, bldParts, bslParts, putAt, AV.cells, AV.one, astore, aload, loadCs, callArgs, abin, abinInt, aapp, elems, appMore, appNone, preLen, aFa, aFld, apart, aExt, aPick, aNot, aLens, aEqa, cellsK, fitsA, LK.fitsA, leavesA, leafA, nilD, aNilc, aCint, aCid, alive, alen, alenOk, Rle, lePs, len_flat, Kc]
      simp [takesWay, hk, hv, hv2]
  by_cases hk3 : b.s.kind = 3
  · by_cases hs : b.s.sym = b.t.sym
    · have h4' := h4 hk3 hs
      simp (maxSteps := 3000000) [-List.length_flatten, -List.map_drop, -List.map_take, Function.comp_def, argsT, Opd.ev, Tm.get, put, ares, mapMo, ares1, snilP, bldParts, bslParts, putAt, AV.cells, AV.one, astore, aload, loadCs, callArgs, abin, abinInt, aapp, elems, appMore, appNone, preLen, aFa, aFld, apart, aExt, aPick, aNot, aLens, aEqa, cellsK, fitsA, LK.fitsA, leavesA, leafA, nilD, aNilc, aCint, aCid, alive, alen, alenOk, Rle, lePs, len_flat, c31, hk3, hs, h1, h2, h3', h4']
      refine PF.call (pairs0_PF (gi b.s.args b.t.part) (gi b.t.args 0) (byte (gi b.l b.t.sym).args b.t.part)) 9 (by simp [lePs]) ?_
      simp (maxSteps := 3000000) [-List.length_flatten, -List.map_drop, -List.map_take, Function.comp_def, argsT, Opd.ev, Tm.get, put, ares, mapMo, ares1, snilP, bldParts, bslParts, putAt, AV.cells, AV.one, astore, aload, loadCs, callArgs, abin, abinInt, aapp, elems, appMore, appNone, preLen, aFa, aFld, apart, aExt, aPick, aNot, aLens, aEqa, cellsK, fitsA, LK.fitsA, leavesA, leafA, nilD, aNilc, aCint, aCid, alive, alen, alenOk, Rle, lePs, len_flat, Kc]
      refine PF.call (parts_PF (varied (gi b.s.args b.t.part) (gi b.t.args 0) (byte (gi b.l b.t.sym).args b.t.part))) 9 (by simp [lePs]) ?_
      simp (maxSteps := 3000000) [-List.length_flatten, -List.map_drop, -List.map_take, Function.comp_def, argsT, Opd.ev, Tm.get, put, ares, mapMo, ares1, snilP, bldParts, bslParts, putAt, AV.cells, AV.one, astore, aload, loadCs, callArgs, abin, abinInt, aapp, elems, appMore, appNone, preLen, aFa, aFld, apart, aExt, aPick, aNot, aLens, aEqa, cellsK, fitsA, LK.fitsA, leavesA, leafA, nilD, aNilc, aCint, aCid, alive, alen, alenOk, Rle, lePs, len_flat, Kc]
      simp [takesWay, hk3, hs]
    · simp (maxSteps := 3000000) [-List.length_flatten, -List.map_drop, -List.map_take, Function.comp_def, argsT, Opd.ev, Tm.get, put, ares, mapMo, ares1, snilP, bldParts, bslParts, putAt, AV.cells, AV.one, astore, aload, loadCs, callArgs, abin, abinInt, aapp, elems, appMore, appNone, preLen, aFa, aFld, apart, aExt, aPick, aNot, aLens, aEqa, cellsK, fitsA, LK.fitsA, leavesA, leafA, nilD, aNilc, aCint, aCid, alive, alen, alenOk, Rle, lePs, len_flat, c31, hk3, hs, h1, h2, h3']
      simp [takesWay, hk3, hs]
  · simp (maxSteps := 3000000) [-List.length_flatten, -List.map_drop, -List.map_take, Function.comp_def, argsT, Opd.ev, Tm.get, put, ares, mapMo, ares1, snilP, bldParts, bslParts, putAt, AV.cells, AV.one, astore, aload, loadCs, callArgs, abin, abinInt, aapp, elems, appMore, appNone, preLen, aFa, aFld, apart, aExt, aPick, aNot, aLens, aEqa, cellsK, fitsA, LK.fitsA, leavesA, leafA, nilD, aNilc, aCint, aCid, alive, alen, alenOk, Rle, lePs, len_flat, c31, hk, hk3, h1, h2, h3']
    simp [takesWay, hk, hk3]
def an14 : An := ⟨[], [1000018]⟩
theorem c14_ok : cFn Try.prog an14 Try.f14 = some c14 := by kernel_rfl
theorem rstep_PF {l : List Sg} {a : Kd} (hF : Fine l a) (x y : Int) : PF Try.prog 14 [sigs l, .agg a.cs, i64 x, i64 y] (way (stepOf l a x y).1 (stepOf l a x y).2) := by
  refine PFk 9 hm Try.func14 c14_ok (Nat.le_of_ble_eq_true rfl) (by simp) (way_RL _ _ _) ?_
  simp (maxSteps := 3000000) [-List.length_flatten, -List.map_drop, -List.map_take, Function.comp_def, argsT, Opd.ev, Tm.get, put, ares, mapMo, ares1, snilP, bldParts, bslParts, putAt, AV.cells, AV.one, astore, aload, loadCs, callArgs, abin, abinInt, aapp, elems, appMore, appNone, preLen, aFa, aFld, apart, aExt, aPick, aNot, aLens, aEqa, cellsK, fitsA, LK.fitsA, leavesA, leafA, nilD, aNilc, aCint, aCid, alive, alen, alenOk, Rle, lePs, len_flat, c14]
  refine PF.call (rof_PF a x) 9 (by simp [lePs]) ?_
  simp (maxSteps := 3000000) [-List.length_flatten, -List.map_drop, -List.map_take, Function.comp_def, argsT, Opd.ev, Tm.get, put, ares, mapMo, ares1, snilP, bldParts, bslParts, putAt, AV.cells, AV.one, astore, aload, loadCs, callArgs, abin, abinInt, aapp, elems, appMore, appNone, preLen, aFa, aFld, apart, aExt, aPick, aNot, aLens, aEqa, cellsK, fitsA, LK.fitsA, leavesA, leafA, nilD, aNilc, aCint, aCid, alive, alen, alenOk, Rle, lePs, len_flat, Kc]
  refine PF.call (rof_PF a y) 9 (by simp [lePs]) ?_
  by_cases h1 : (termAt a x).2 = true
  · by_cases h2 : (termAt a y).2 = true
    · have hs := (hF.fit (termAt_range h1)).2
      have ht := (hF.fit (termAt_range h2)).2
      have e0 : stepOf l a x y = stepWay ⟨l, x, y, (termAt a x).1, (termAt a y).1⟩ := by simp [stepOf, h1, h2]
      rw [e0]
      generalize (termAt a x).1 = s at *
      generalize (termAt a y).1 = t at *
      by_cases g0 : x = y
      · simp (maxSteps := 3000000) [-List.length_flatten, -List.map_drop, -List.map_take, Function.comp_def, argsT, Opd.ev, Tm.get, put, ares, mapMo, ares1, snilP, bldParts, bslParts, putAt, AV.cells, AV.one, astore, aload, loadCs, callArgs, abin, abinInt, aapp, elems, appMore, appNone, preLen, aFa, aFld, apart, aExt, aPick, aNot, aLens, aEqa, cellsK, fitsA, LK.fitsA, leavesA, leafA, nilD, aNilc, aCint, aCid, alive, alen, alenOk, Rle, lePs, len_flat, Kc, h1, h2, g0]
        simp [stepWay]
      by_cases g1 : s.kind = 0
      · simp (maxSteps := 3000000) [-List.length_flatten, -List.map_drop, -List.map_take, Function.comp_def, argsT, Opd.ev, Tm.get, put, ares, mapMo, ares1, snilP, bldParts, bslParts, putAt, AV.cells, AV.one, astore, aload, loadCs, callArgs, abin, abinInt, aapp, elems, appMore, appNone, preLen, aFa, aFld, apart, aExt, aPick, aNot, aLens, aEqa, cellsK, fitsA, LK.fitsA, leavesA, leafA, nilD, aNilc, aCint, aCid, alive, alen, alenOk, Rle, lePs, len_flat, Kc, h1, h2, g0, g1]
        simp [stepWay, g1]
      by_cases g2 : t.kind = 1
      · simp (maxSteps := 3000000) [-List.length_flatten, -List.map_drop, -List.map_take, Function.comp_def, argsT, Opd.ev, Tm.get, put, ares, mapMo, ares1, snilP, bldParts, bslParts, putAt, AV.cells, AV.one, astore, aload, loadCs, callArgs, abin, abinInt, aapp, elems, appMore, appNone, preLen, aFa, aFld, apart, aExt, aPick, aNot, aLens, aEqa, cellsK, fitsA, LK.fitsA, leavesA, leafA, nilD, aNilc, aCint, aCid, alive, alen, alenOk, Rle, lePs, len_flat, Kc, h1, h2, g0, g1, g2]
        simp [stepWay, g2]
      by_cases g3 : s.kind = 4
      · have hl := hs.two (.inl g3)
        have l0 : 0 < s.args.length := by omega
        have l1 : 1 < s.args.length := by omega
        have l1' : (1 : Int) < (s.args.length : Int) := by omega
        have l0' : (0 : Int) < (s.args.length : Int) := by omega
        simp (maxSteps := 3000000) [-List.length_flatten, -List.map_drop, -List.map_take, Function.comp_def, argsT, Opd.ev, Tm.get, put, ares, mapMo, ares1, snilP, bldParts, bslParts, putAt, AV.cells, AV.one, astore, aload, loadCs, callArgs, abin, abinInt, aapp, elems, appMore, appNone, preLen, aFa, aFld, apart, aExt, aPick, aNot, aLens, aEqa, cellsK, fitsA, LK.fitsA, leavesA, leafA, nilD, aNilc, aCint, aCid, alive, alen, alenOk, Rle, lePs, len_flat, Kc, h1, h2, g0, g1, g2, g3, l0, l1, l0', l1']
        refine ⟨_, (parts_PF [(gi s.args 0, y), (gi s.args 1, y)]).le 9 (by simp [lePs]) (by simp), ?_⟩
        simp (maxSteps := 3000000) [-List.length_flatten, -List.map_drop, -List.map_take, Function.comp_def, argsT, Opd.ev, Tm.get, put, ares, mapMo, ares1, snilP, bldParts, bslParts, putAt, AV.cells, AV.one, astore, aload, loadCs, callArgs, abin, abinInt, aapp, elems, appMore, appNone, preLen, aFa, aFld, apart, aExt, aPick, aNot, aLens, aEqa, cellsK, fitsA, LK.fitsA, leavesA, leafA, nilD, aNilc, aCint, aCid, alive, alen, alenOk, Rle, lePs, len_flat, Kc]
        simp [stepWay, g0, g1, g2, g3]
      by_cases g4 : t.kind = 5
      · have hl := ht.two (.inr g4)
        have l0 : 0 < t.args.length := by omega
        have l1 : 1 < t.args.length := by omega
        have l1' : (1 : Int) < (t.args.length : Int) := by omega
        have l0' : (0 : Int) < (t.args.length : Int) := by omega
        simp (maxSteps := 3000000) [-List.length_flatten, -List.map_drop, -List.map_take, Function.comp_def, argsT, Opd.ev, Tm.get, put, ares, mapMo, ares1, snilP, bldParts, bslParts, putAt, AV.cells, AV.one, astore, aload, loadCs, callArgs, abin, abinInt, aapp, elems, appMore, appNone, preLen, aFa, aFld, apart, aExt, aPick, aNot, aLens, aEqa, cellsK, fitsA, LK.fitsA, leavesA, leafA, nilD, aNilc, aCint, aCid, alive, alen, alenOk, Rle, lePs, len_flat, Kc, h1, h2, g0, g1, g2, g3, g4, l0, l1, l0', l1']
        refine ⟨_, (parts_PF [(x, gi t.args 0), (x, gi t.args 1)]).le 9 (by simp [lePs]) (by simp), ?_⟩
        simp (maxSteps := 3000000) [-List.length_flatten, -List.map_drop, -List.map_take, Function.comp_def, argsT, Opd.ev, Tm.get, put, ares, mapMo, ares1, snilP, bldParts, bslParts, putAt, AV.cells, AV.one, astore, aload, loadCs, callArgs, abin, abinInt, aapp, elems, appMore, appNone, preLen, aFa, aFld, apart, aExt, aPick, aNot, aLens, aEqa, cellsK, fitsA, LK.fitsA, leavesA, leafA, nilD, aNilc, aCint, aCid, alive, alen, alenOk, Rle, lePs, len_flat, Kc]
        simp [stepWay, g0, g1, g2, g3, g4]
      by_cases g5 : s.kind = 2
      · simp (maxSteps := 3000000) [-List.length_flatten, -List.map_drop, -List.map_take, Function.comp_def, argsT, Opd.ev, Tm.get, put, ares, mapMo, ares1, snilP, bldParts, bslParts, putAt, AV.cells, AV.one, astore, aload, loadCs, callArgs, abin, abinInt, aapp, elems, appMore, appNone, preLen, aFa, aFld, apart, aExt, aPick, aNot, aLens, aEqa, cellsK, fitsA, LK.fitsA, leavesA, leafA, nilD, aNilc, aCint, aCid, alive, alen, alenOk, Rle, lePs, len_flat, Kc, h1, h2, g0, g1, g2, g3, g4, g5]
        simp [stepWay, g0, g1, g2, g3, g4, g5]
      by_cases g6 : t.kind = 2
      · simp (maxSteps := 3000000) [-List.length_flatten, -List.map_drop, -List.map_take, Function.comp_def, argsT, Opd.ev, Tm.get, put, ares, mapMo, ares1, snilP, bldParts, bslParts, putAt, AV.cells, AV.one, astore, aload, loadCs, callArgs, abin, abinInt, aapp, elems, appMore, appNone, preLen, aFa, aFld, apart, aExt, aPick, aNot, aLens, aEqa, cellsK, fitsA, LK.fitsA, leavesA, leafA, nilD, aNilc, aCint, aCid, alive, alen, alenOk, Rle, lePs, len_flat, Kc, h1, h2, g0, g1, g2, g3, g4, g5, g6]
        simp [stepWay, g0, g1, g2, g3, g4, g5, g6]
      by_cases g7 : t.kind = 6
      · simp (maxSteps := 3000000) [-List.length_flatten, -List.map_drop, -List.map_take, Function.comp_def, argsT, Opd.ev, Tm.get, put, ares, mapMo, ares1, snilP, bldParts, bslParts, putAt, AV.cells, AV.one, astore, aload, loadCs, callArgs, abin, abinInt, aapp, elems, appMore, appNone, preLen, aFa, aFld, apart, aExt, aPick, aNot, aLens, aEqa, cellsK, fitsA, LK.fitsA, leavesA, leafA, nilD, aNilc, aCint, aCid, alive, alen, alenOk, Rle, lePs, len_flat, Kc, h1, h2, g0, g1, g2, g3, g4, g5, g6, g7]
        obtain ⟨q1, q2, q3⟩ := ht.proj g7
        refine PF.call (projected_PF ⟨l, x, y, s, t⟩ q1 q2 (by simp only; omega) (fun k1 k2 => by
          have := (hs.con k1).2
          simp only at k2
          rw [k2] at this
          simp only
          omega)) 9 (by simp [lePs, g7]) ?_
        simp (maxSteps := 3000000) [-List.length_flatten, -List.map_drop, -List.map_take, Function.comp_def, argsT, Opd.ev, Tm.get, put, ares, mapMo, ares1, snilP, bldParts, bslParts, putAt, AV.cells, AV.one, astore, aload, loadCs, callArgs, abin, abinInt, aapp, elems, appMore, appNone, preLen, aFa, aFld, apart, aExt, aPick, aNot, aLens, aEqa, cellsK, fitsA, LK.fitsA, leavesA, leafA, nilD, aNilc, aCint, aCid, alive, alen, alenOk, Rle, lePs, len_flat, Kc]
        simp [stepWay, g0, g1, g2, g3, g4, g5, g6, g7]
      by_cases g8 : s.kind = 3
      · by_cases g9 : t.kind = 3
        · by_cases g10 : s.sym = t.sym
          · obtain ⟨q1, q2⟩ := hs.con g8
            have q3 := (ht.con g9).2
            have q8 := hs.args hF.short
            simp (maxSteps := 3000000) [-List.length_flatten, -List.map_drop, -List.map_take, Function.comp_def, argsT, Opd.ev, Tm.get, put, ares, mapMo, ares1, snilP, bldParts, bslParts, putAt, AV.cells, AV.one, astore, aload, loadCs, callArgs, abin, abinInt, aapp, elems, appMore, appNone, preLen, aFa, aFld, apart, aExt, aPick, aNot, aLens, aEqa, cellsK, fitsA, LK.fitsA, leavesA, leafA, nilD, aNilc, aCint, aCid, alive, alen, alenOk, Rle, lePs, len_flat, Kc, h1, h2, g0, g1, g2, g3, g4, g5, g6, g7, g8, g9, g10]
            refine run_loop (fun m T H => ∃ i g : Nat, m = s.args.length - i ∧ i ≤ s.args.length ∧ T = [(14, i64 i), (13, .loc 4 g 0 (consL ⟨l, x, y, s, t⟩ i).length 2 false), (11, .ptr 3 0 0), (9, .ptr 2 0 0), (8, .ptr 1 0 0), (0, sigs l)] ∧ H = [.cells 0 a.cs, .cells 0 [.int .i64 0, .nilS], .cells 0 s.cs, .cells 0 t.cs, .cells g (fl prc (consL ⟨l, x, y, s, t⟩ i))])
              s.args.length [(14, i64 0), (13, .loc 4 0 0 0 2 false), (11, .ptr 3 0 0), (9, .ptr 2 0 0), (8, .ptr 1 0 0), (0, sigs l)] [.cells 0 a.cs, .cells 0 [.int .i64 0, .nilS], .cells 0 s.cs, .cells 0 t.cs, .cells 0 []]
              ((Wk.nil 13 2 (by simp [Tm.get])).trans (Wk.tell 5 (by omega) (by simp [Tm.get]) (by simp) (by simp [g8, g9, g10]) (by simp [RLB]))) ⟨0, 0, by simp, by simp, by simp [consL], by simp [consL, fl]⟩ ?_
            rintro m T H ⟨i, g, rfl, hi, rfl, rfl⟩
            have hcl := consL_len ⟨l, x, y, s, t⟩ i
            simp (maxSteps := 3000000) [-List.length_flatten, -List.map_drop, -List.map_take, Function.comp_def, argsT, Opd.ev, Tm.get, put, ares, mapMo, ares1, snilP, bldParts, bslParts, putAt, AV.cells, AV.one, astore, aload, loadCs, callArgs, abin, abinInt, aapp, elems, appMore, appNone, preLen, aFa, aFld, apart, aExt, aPick, aNot, aLens, aEqa, cellsK, fitsA, LK.fitsA, leavesA, leafA, nilD, aNilc, aCint, aCid, alive, alen, alenOk, Rle, lePs, len_flat]
            intro hsa
            refine ⟨fun h => ?_, fun h => ?_⟩
            · have hit : i < t.args.length := by rw [q3, ← g10, ← q2]; exact h
              have hib : i < (gi l s.sym).args.size := by rw [← q2]; exact h
              simp (maxSteps := 3000000) [-List.length_flatten, -List.map_drop, -List.map_take, Function.comp_def, argsT, Opd.ev, Tm.get, put, ares, mapMo, ares1, snilP, bldParts, bslParts, putAt, AV.cells, AV.one, astore, aload, loadCs, callArgs, abin, abinInt, aapp, elems, appMore, appNone, preLen, aFa, aFld, apart, aExt, aPick, aNot, aLens, aEqa, cellsK, fitsA, LK.fitsA, leavesA, leafA, nilD, aNilc, aCint, aCid, alive, alen, alenOk, Rle, lePs, len_flat, h, hit, hib, q1]
              refine FT.mono (pairs_FT 4 g (consL ⟨l, x, y, s, t⟩ i) (gi s.args i) (gi t.args i) (byte (gi l s.sym).args i) _ rfl (by unfold maxA; omega)) ?_
              rintro rv H' ⟨g', rfl, rfl⟩
              simp (maxSteps := 3000000) [-List.length_flatten, -List.map_drop, -List.map_take, Function.comp_def, argsT, Opd.ev, Tm.get, put, ares, mapMo, ares1, snilP, bldParts, bslParts, putAt, AV.cells, AV.one, astore, aload, loadCs, callArgs, abin, abinInt, aapp, elems, appMore, appNone, preLen, aFa, aFld, apart, aExt, aPick, aNot, aLens, aEqa, cellsK, fitsA, LK.fitsA, leavesA, leafA, nilD, aNilc, aCint, aCid, alive, alen, alenOk, Rle, lePs, len_flat, Kc]
              exact Kl_next (s.args.length - (i + 1)) 5 (by omega) ⟨i + 1, rfl, h, g', rfl, rfl⟩ (by simp [Tm.get, nxt h hsa, consL]) (by simp) (by simp [consL]) (by simp only [al_cons, al_nil, and_true]; exact ⟨by simp [RLB], by simp [RLB], by simp [RLB], by simp [RLB], fl_RL (by simp) _⟩) (by omega)
            · have e : i = s.args.length := by omega
              subst e
              refine FT.letgo 4 9 rfl ?_
              have hch := chunk_fl (f := prc) (sz := 2) (by simp) (consL ⟨l, x, y, s, t⟩ s.args.length)
              have hfl := fl_len (f := prc) (sz := 2) (by simp) (consL ⟨l, x, y, s, t⟩ s.args.length)
              simp (maxSteps := 3000000) [-List.length_flatten, -List.map_drop, -List.map_take, Function.comp_def, argsT, Opd.ev, Tm.get, put, ares, mapMo, ares1, snilP, bldParts, bslParts, putAt, AV.cells, AV.one, astore, aload, loadCs, callArgs, abin, abinInt, aapp, elems, appMore, appNone, preLen, aFa, aFld, apart, aExt, aPick, aNot, aLens, aEqa, cellsK, fitsA, LK.fitsA, leavesA, leafA, nilD, aNilc, aCint, aCid, alive, alen, alenOk, Rle, lePs, len_flat, fz, hch, hfl]
              refine PF.call (parts_PF (consL ⟨l, x, y, s, t⟩ s.args.length)) 9 (by simp [lePs]) ?_
              simp (maxSteps := 3000000) [-List.length_flatten, -List.map_drop, -List.map_take, Function.comp_def, argsT, Opd.ev, Tm.get, put, ares, mapMo, ares1, snilP, bldParts, bslParts, putAt, AV.cells, AV.one, astore, aload, loadCs, callArgs, abin, abinInt, aapp, elems, appMore, appNone, preLen, aFa, aFld, apart, aExt, aPick, aNot, aLens, aEqa, cellsK, fitsA, LK.fitsA, leavesA, leafA, nilD, aNilc, aCint, aCid, alive, alen, alenOk, Rle, lePs, len_flat, Kc]
              simp [stepWay, g0, g1, g2, g3, g4, g5, g6, g7, g8, g9, g10]
          · simp (maxSteps := 3000000) [-List.length_flatten, -List.map_drop, -List.map_take, Function.comp_def, argsT, Opd.ev, Tm.get, put, ares, mapMo, ares1, snilP, bldParts, bslParts, putAt, AV.cells, AV.one, astore, aload, loadCs, callArgs, abin, abinInt, aapp, elems, appMore, appNone, preLen, aFa, aFld, apart, aExt, aPick, aNot, aLens, aEqa, cellsK, fitsA, LK.fitsA, leavesA, leafA, nilD, aNilc, aCint, aCid, alive, alen, alenOk, Rle, lePs, len_flat, Kc, h1, h2, g0, g1, g2, g3, g4, g5, g6, g7, g8, g9, g10]
            simp [stepWay, g0, g1, g2, g3, g4, g5, g6, g7, g8, g9, g10]
        · by_cases g10 : t.kind = 0
          · simp (maxSteps := 3000000) [-List.length_flatten, -List.map_drop, -List.map_take, Function.comp_def, argsT, Opd.ev, Tm.get, put, ares, mapMo, ares1, snilP, bldParts, bslParts, putAt, AV.cells, AV.one, astore, aload, loadCs, callArgs, abin, abinInt, aapp, elems, appMore, appNone, preLen, aFa, aFld, apart, aExt, aPick, aNot, aLens, aEqa, cellsK, fitsA, LK.fitsA, leavesA, leafA, nilD, aNilc, aCint, aCid, alive, alen, alenOk, Rle, lePs, len_flat, Kc, h1, h2, g0, g1, g2, g3, g4, g5, g6, g7, g8, g9, g10]
            simp [stepWay, g0, g1, g2, g3, g4, g5, g6, g7, g8, g9, g10]
          · simp (maxSteps := 3000000) [-List.length_flatten, -List.map_drop, -List.map_take, Function.comp_def, argsT, Opd.ev, Tm.get, put, ares, mapMo, ares1, snilP, bldParts, bslParts, putAt, AV.cells, AV.one, astore, aload, loadCs, callArgs, abin, abinInt, aapp, elems, appMore, appNone, preLen, aFa, aFld, apart, aExt, aPick, aNot, aLens, aEqa, cellsK, fitsA, LK.fitsA, leavesA, leafA, nilD, aNilc, aCint, aCid, alive, alen, alenOk, Rle, lePs, len_flat, Kc, h1, h2, g0, g1, g2, g3, g4, g5, g6, g7, g8, g9, g10]
            simp [stepWay, g0, g1, g2, g3, g4, g5, g6, g7, g8, g9, g10]
      · by_cases g9 : s.kind = 1
        · by_cases g10 : t.kind = 0
          · simp (maxSteps := 3000000) [-List.length_flatten, -List.map_drop, -List.map_take, Function.comp_def, argsT, Opd.ev, Tm.get, put, ares, mapMo, ares1, snilP, bldParts, bslParts, putAt, AV.cells, AV.one, astore, aload, loadCs, callArgs, abin, abinInt, aapp, elems, appMore, appNone, preLen, aFa, aFld, apart, aExt, aPick, aNot, aLens, aEqa, cellsK, fitsA, LK.fitsA, leavesA, leafA, nilD, aNilc, aCint, aCid, alive, alen, alenOk, Rle, lePs, len_flat, Kc, h1, h2, g0, g1, g2, g3, g4, g5, g6, g7, g8, g9, g10]
            simp [stepWay, g0, g1, g2, g3, g4, g5, g6, g7, g8, g9, g10]
          · by_cases g11 : t.kind = 3
            · simp (maxSteps := 3000000) [-List.length_flatten, -List.map_drop, -List.map_take, Function.comp_def, argsT, Opd.ev, Tm.get, put, ares, mapMo, ares1, snilP, bldParts, bslParts, putAt, AV.cells, AV.one, astore, aload, loadCs, callArgs, abin, abinInt, aapp, elems, appMore, appNone, preLen, aFa, aFld, apart, aExt, aPick, aNot, aLens, aEqa, cellsK, fitsA, LK.fitsA, leavesA, leafA, nilD, aNilc, aCint, aCid, alive, alen, alenOk, Rle, lePs, len_flat, Kc, h1, h2, g0, g1, g2, g3, g4, g5, g6, g7, g8, g9, g10, g11]
              simp [stepWay, g0, g1, g2, g3, g4, g5, g6, g7, g8, g9, g10, g11]
            · simp (maxSteps := 3000000) [-List.length_flatten, -List.map_drop, -List.map_take, Function.comp_def, argsT, Opd.ev, Tm.get, put, ares, mapMo, ares1, snilP, bldParts, bslParts, putAt, AV.cells, AV.one, astore, aload, loadCs, callArgs, abin, abinInt, aapp, elems, appMore, appNone, preLen, aFa, aFld, apart, aExt, aPick, aNot, aLens, aEqa, cellsK, fitsA, LK.fitsA, leavesA, leafA, nilD, aNilc, aCint, aCid, alive, alen, alenOk, Rle, lePs, len_flat, Kc, h1, h2, g0, g1, g2, g3, g4, g5, g6, g7, g8, g9, g10, g11]
              simp [stepWay, g0, g1, g2, g3, g4, g5, g6, g7, g8, g9, g10, g11]
        · simp (maxSteps := 3000000) [-List.length_flatten, -List.map_drop, -List.map_take, Function.comp_def, argsT, Opd.ev, Tm.get, put, ares, mapMo, ares1, snilP, bldParts, bslParts, putAt, AV.cells, AV.one, astore, aload, loadCs, callArgs, abin, abinInt, aapp, elems, appMore, appNone, preLen, aFa, aFld, apart, aExt, aPick, aNot, aLens, aEqa, cellsK, fitsA, LK.fitsA, leavesA, leafA, nilD, aNilc, aCint, aCid, alive, alen, alenOk, Rle, lePs, len_flat, Kc, h1, h2, g0, g1, g2, g3, g4, g5, g6, g7, g8, g9]
          simp [stepWay, g0, g1, g2, g3, g4, g5, g6, g7, g8, g9]
    · simp (maxSteps := 3000000) [-List.length_flatten, -List.map_drop, -List.map_take, Function.comp_def, argsT, Opd.ev, Tm.get, put, ares, mapMo, ares1, snilP, bldParts, bslParts, putAt, AV.cells, AV.one, astore, aload, loadCs, callArgs, abin, abinInt, aapp, elems, appMore, appNone, preLen, aFa, aFld, apart, aExt, aPick, aNot, aLens, aEqa, cellsK, fitsA, LK.fitsA, leavesA, leafA, nilD, aNilc, aCint, aCid, alive, alen, alenOk, Rle, lePs, len_flat, Kc, h1, h2]
      simp [stepOf, h1, h2]
  · simp (maxSteps := 3000000) [-List.length_flatten, -List.map_drop, -List.map_take, Function.comp_def, argsT, Opd.ev, Tm.get, put, ares, mapMo, ares1, snilP, bldParts, bslParts, putAt, AV.cells, AV.one, astore, aload, loadCs, callArgs, abin, abinInt, aapp, elems, appMore, appNone, preLen, aFa, aFld, apart, aExt, aPick, aNot, aLens, aEqa, cellsK, fitsA, LK.fitsA, leavesA, leafA, nilD, aNilc, aCint, aCid, alive, alen, alenOk, Rle, lePs, len_flat, Kc, h1]
    simp [stepOf, h1]
end Go.AM

namespace Go.AM
open Go.Proofs
set_option maxRecDepth 100000
set_option linter.unusedVariables false
set_option linter.unusedSimpArgs false
/-! ### The document's Sided -/
def varyOf (l : List Sg) (t : Tm0) (k : Int) : Int := if t.kind = 3 then byte (gi l t.sym).args k else if t.kind = 6 then byte (gi l t.sym).args t.part else 43
theorem sideN_vary (l : List Sg) (t : Tm0) (s k : Int) : sideN l t s k = turned s (varyOf l t k) := by
  unfold sideN varyOf
  by_cases h6 : t.kind = 6
  · simp [h6]
  · by_cases h3 : t.kind = 3
    · simp [h3]
    · simp [h6, h3, turned]
def partK (l : List Sg) (a : Kd) (t : Tm0) (s : Int) (k : Nat) : Bool := sideMay t s && decide (∀ j : Nat, j < k → okAt l a (gi t.args j) (sideN l t s j) = true)
theorem partK_zero (l : List Sg) (a : Kd) (t : Tm0) (s : Int) : partK l a t s 0 = sideMay t s := by
  have : ∀ j : Nat, j < 0 → okAt l a (gi t.args j) (sideN l t s j) = true := fun j hj => by omega
  simp [partK]
theorem partK_succ (l : List Sg) (a : Kd) (t : Tm0) (s : Int) (k : Nat) : partK l a t s (k + 1) = (partK l a t s k && okAt l a (gi t.args k) (sideN l t s k)) := by
  unfold partK
  rw [Bool.and_assoc]
  congr 1
  rw [Bool.eq_iff_iff]
  simp only [Bool.and_eq_true, decide_eq_true_eq]
  constructor
  · exact fun h => ⟨fun j hj => h j (by omega), h k (by omega)⟩
  · rintro ⟨h1, h2⟩ j hj
    rcases Nat.lt_or_ge j k with h | h
    · exact h1 j h
    · have : j = k := by omega
      subst this
      exact h2
theorem onS_ok {l : List Sg} {a : Kd} {n s : Int} (h : isSide s) : onS s (okAt l a n 76) (okAt l a n 82) (okAt l a n 66) = okAt l a n s := by
  unfold onS
  rcases h with rfl | rfl | rfl <;> simp
theorem partK_on (l : List Sg) (a : Kd) (t : Tm0) {s : Int} (hs : isSide s) (k : Nat) : partK l a t s (k + 1) = (partK l a t s k && onS (turned s (varyOf l t k)) (okAt l a (gi t.args k) 76) (okAt l a (gi t.args k) 82) (okAt l a (gi t.args k) 66)) := by
  rw [partK_succ, onS_ok (turned_side hs _), sideN_vary]
theorem partK_all {l : List Sg} {a : Kd} (hF : Fine l a) {id : Int} (h : 0 ≤ id ∧ id < a.keys.length) (s : Int) : partK l a (termAt a id).1 s (termAt a id).1.args.length = okAt l a id s := by
  rw [Bool.eq_iff_iff, okAt_step hF h]
  simp [partK]
def lst (l : List Sg) (a : Kd) (s : Int) (i : Nat) : List AV := (List.range i).map fun j : Nat => AV.bool (okAt l a j s)
theorem lst_len (l : List Sg) (a : Kd) (s : Int) (i : Nat) : (lst l a s i).length = i := by simp [lst]
theorem lst_succ (l : List Sg) (a : Kd) (s : Int) (i : Nat) : lst l a s (i + 1) = lst l a s i ++ [.bool (okAt l a i s)] := by simp [lst, List.range_succ]
theorem lst_RL (l : List Sg) (a : Kd) (s : Int) (i n : Nat) : ∀ y ∈ lst l a s i, RL n y := by simp [lst]
theorem lst_load (l : List Sg) (a : Kd) (s : Int) {i : Nat} {n : Int} (h0 : 0 ≤ n) (h1 : n < i) : loadCs 1 false ((lst l a s i).drop n.toNat) = some (.bool (okAt l a n s)) := by
  have e := loadCs_drop (f := fun b : Bool => AV.bool b) (l := (List.range i).map fun j : Nat => okAt l a j s) (k := n.toNat) (by simp; omega)
  rw [List.map_map] at e
  have e2 : gi ((List.range i).map fun j : Nat => okAt l a j s) (n.toNat : Nat) = okAt l a n s := by
    have : n.toNat < i := by omega
    simp [gi, List.getD, this, Int.toNat_of_nonneg h0]
  rw [e2] at e
  exact e
theorem lst_take (l : List Sg) (a : Kd) (s : Int) (i : Nat) : (lst l a s i).take i = lst l a s i := List.take_of_length_le (by rw [lst_len]; exact Nat.le_refl _)
def an15 : An := ⟨[], [22, 23, 24]⟩
theorem c15_ok : cFn Try.prog an15 Try.f15 = some c15 := by kernel_rfl
set_option maxHeartbeats 1000000 in
theorem rsided_PF {l : List Sg} {a : Kd} (hF : Fine l a) (id s : Int) : PF Try.prog 15 [sigs l, .agg a.cs, i64 id, .int .u8 s] (.bool (sided l a id s)) := by
  refine PFk 9 hm Try.func15 c15_ok (Nat.le_of_ble_eq_true rfl) (by simp) (by simp) ?_
  by_cases h0 : id < 0
  · have e : sided l a id s = false := by
      have : ¬ (termAt a id).2 = true := fun h => by have := termAt_range h; omega
      simp [sided, this]
    simp (maxSteps := 3000000) [-List.length_flatten, -List.map_drop, -List.map_take, Function.comp_def, argsT, Opd.ev, Tm.get, put, ares, mapMo, ares1, snilP, bldParts, bslParts, putAt, AV.cells, AV.one, astore, aload, loadCs, callArgs, abin, abinInt, aapp, elems, appMore, appNone, preLen, aFa, aFld, apart, aExt, aPick, aNot, aLens, aEqa, cellsK, fitsA, LK.fitsA, leavesA, leafA, nilD, aNilc, aCint, aCid, alive, alen, alenOk, Rle, lePs, len_flat, c15, h0, e]
  by_cases h1 : (a.keys.length : Int) ≤ id
  · have e : sided l a id s = false := by
      have : ¬ (termAt a id).2 = true := fun h => by have := termAt_range h; omega
      simp [sided, this]
    simp (maxSteps := 3000000) [-List.length_flatten, -List.map_drop, -List.map_take, Function.comp_def, argsT, Opd.ev, Tm.get, put, ares, mapMo, ares1, snilP, bldParts, bslParts, putAt, AV.cells, AV.one, astore, aload, loadCs, callArgs, abin, abinInt, aapp, elems, appMore, appNone, preLen, aFa, aFld, apart, aExt, aPick, aNot, aLens, aEqa, cellsK, fitsA, LK.fitsA, leavesA, leafA, nilD, aNilc, aCint, aCid, alive, alen, alenOk, Rle, lePs, len_flat, c15, h0, h1, e]
  have hr : 0 ≤ id ∧ id < a.keys.length := by omega
  have hmany := hF.many
  have esd : sided l a id s = onS s (okAt l a id 76) (okAt l a id 82) (okAt l a id 66) := by
    have e1 := (hF.fit hr).1
    simp only [sided, e1, Bool.true_and]
    unfold nside onS
    by_cases q1 : s = 76
    · simp [q1]
    · by_cases q2 : s = 82
      · simp [q2]
      · simp [q1, q2]
  rw [esd]
  simp (maxSteps := 3000000) [-List.length_flatten, -List.map_drop, -List.map_take, Function.comp_def, argsT, Opd.ev, Tm.get, put, ares, mapMo, ares1, snilP, bldParts, bslParts, putAt, AV.cells, AV.one, astore, aload, loadCs, callArgs, abin, abinInt, aapp, elems, appMore, appNone, preLen, aFa, aFld, apart, aExt, aPick, aNot, aLens, aEqa, cellsK, fitsA, LK.fitsA, leavesA, leafA, nilD, aNilc, aCint, aCid, alive, alen, alenOk, Rle, lePs, len_flat, c15, h0, h1]
  intro hkl
  have w0 : ∀ (l : List Sg) (a : Kd) (s : Int), lst l a s 0 = [] := fun _ _ _ => rfl
  refine run_loopK (fun m T H => ∃ i : Nat, m = id.toNat + 1 - i ∧ i ≤ id.toNat + 1 ∧ T = [(12, i64 i), (11, .loc 3 i 0 i 1 false), (10, .loc 2 i 0 i 1 false), (9, .loc 1 i 0 i 1 false), (5, .ptr 0 0 0), (2, i64 id), (3, .int .u8 s), (0, sigs l)] ∧ H = [.cells 0 a.cs, .cells i (lst l a 76 i), .cells i (lst l a 82 i), .cells i (lst l a 66 i)])
    (id.toNat + 1) [(12, i64 0), (11, .loc 3 0 0 0 1 false), (10, .loc 2 0 0 0 1 false), (9, .loc 1 0 0 0 1 false), (5, .ptr 0 0 0), (2, i64 id), (3, .int .u8 s), (0, sigs l)] [.cells 0 a.cs, .cells 0 [], .cells 0 [], .cells 0 []]
    ((((Wk.nil 9 1 (by simp [Tm.get])).trans (Wk.nil 10 1 (by simp [Tm.get]))).trans (Wk.nil 11 1 (by simp [Tm.get]))).trans (Wk.tell 4 (by omega) (by simp [Tm.get]) (by simp) rfl (by simp [RLB]))) ⟨0, by simp, by simp, by simp, by simp [w0]⟩ ?_
  rintro m T H ⟨i, rfl, hi, rfl, rfl⟩ KK kx kr kn
  have l76 := lst_len l a 76 i
  have l82 := lst_len l a 82 i
  have l66 := lst_len l a 66 i
  by_cases hlt : (i : Int) ≤ id
  · have hir : (0 : Int) ≤ i ∧ (i : Int) < a.keys.length := by omega
    have hfit := (hF.fit hir).2
    have h8 := hfit.args hF.short
    have a76 := partK_all hF hir 76
    have a82 := partK_all hF hir 82
    have a66 := partK_all hF hir 66
    have hin : IntKind.i64.wrap ((i : Int) + 1) = ((i + 1 : Nat) : Int) := nxt (n := a.keys.length) (by omega) hkl
    simp (maxSteps := 3000000) [-List.length_flatten, -List.map_drop, -List.map_take, Function.comp_def, argsT, Opd.ev, Tm.get, put, ares, mapMo, ares1, snilP, bldParts, bslParts, putAt, AV.cells, AV.one, astore, aload, loadCs, callArgs, abin, abinInt, aapp, elems, appMore, appNone, preLen, aFa, aFld, apart, aExt, aPick, aNot, aLens, aEqa, cellsK, fitsA, LK.fitsA, leavesA, leafA, nilD, aNilc, aCint, aCid, alive, alen, alenOk, Rle, lePs, len_flat, hlt]
    refine PF.call (rof_PF a i) 9 (by simp [lePs]) ?_
    generalize ht : (termAt a i).1 = t at *
    have m76 : partK l a t 76 0 = (!decide (t.kind = 5) && !decide (t.kind = 6)) := by
      rw [partK_zero]; unfold sideMay
      by_cases k4 : t.kind = 4
      · simp [k4]
      · by_cases k5 : t.kind = 5
        · simp [k5]
        · by_cases k6 : t.kind = 6 <;> simp [k4, k5, k6]
    have m82 : partK l a t 82 0 = !decide (t.kind = 4) := by
      rw [partK_zero]; unfold sideMay
      by_cases k4 : t.kind = 4
      · simp [k4]
      · by_cases k5 : t.kind = 5
        · simp [k5]
        · by_cases k6 : t.kind = 6 <;> simp [k4, k5, k6]
    have m66 : partK l a t 66 0 = (partK l a t 76 0 && partK l a t 82 0) := by
      rw [m76, m82, partK_zero]; unfold sideMay
      by_cases k4 : t.kind = 4
      · simp [k4]
      · by_cases k5 : t.kind = 5
        · simp [k5]
        · by_cases k6 : t.kind = 6 <;> simp [k4, k5, k6]
    refine by_way (A := ?G0) (fun key0 => ?main0) ?sub0
    case main0 =>
      by_cases k4 : t.kind = 4
      · skip
        simp (maxSteps := 3000000) [-List.length_flatten, -List.map_drop, -List.map_take, Function.comp_def, argsT, Opd.ev, Tm.get, put, ares, mapMo, ares1, snilP, bldParts, bslParts, putAt, AV.cells, AV.one, astore, aload, loadCs, callArgs, abin, abinInt, aapp, elems, appMore, appNone, preLen, aFa, aFld, apart, aExt, aPick, aNot, aLens, aEqa, cellsK, fitsA, LK.fitsA, leavesA, leafA, nilD, aNilc, aCint, aCid, alive, alen, alenOk, Rle, lePs, len_flat, Kc, k4]
        refine run_loopK (fun m T H => ∃ k : Nat, m = t.args.length - k ∧ k ≤ t.args.length ∧ T = [(18, i64 k), (17, .bool (partK l a t 66 k)), (16, .bool (partK l a t 82 k)), (15, .bool (partK l a t 76 k)), (13, .ptr 4 0 0), (12, i64 i), (11, .loc 3 i 0 i 1 false), (10, .loc 2 i 0 i 1 false), (9, .loc 1 i 0 i 1 false), (5, .ptr 0 0 0), (2, i64 id), (3, .int .u8 s), (0, sigs l)] ∧ H = [.cells 0 a.cs, .cells i (lst l a 76 i), .cells i (lst l a 82 i), .cells i (lst l a 66 i), .cells 0 t.cs])
            t.args.length [(18, i64 0), (17, .bool (partK l a t 66 0)), (16, .bool (partK l a t 82 0)), (15, .bool (partK l a t 76 0)), (13, .ptr 4 0 0), (12, i64 i), (11, .loc 3 i 0 i 1 false), (10, .loc 2 i 0 i 1 false), (9, .loc 1 i 0 i 1 false), (5, .ptr 0 0 0), (2, i64 id), (3, .int .u8 s), (0, sigs l)] [.cells 0 a.cs, .cells i (lst l a 76 i), .cells i (lst l a 82 i), .cells i (lst l a 66 i), .cells 0 t.cs]
            (Wk.tell 5 (by omega) (by simp [Tm.get, m66, m76, m82, k4]) (by simp) (by simp [k4]) (by simp only [al_cons, al_nil, and_true]; exact ⟨by simp [RLB], lst_RL _ _ _ _ _, lst_RL _ _ _ _ _, lst_RL _ _ _ _ _, by simp [RLB]⟩)) ⟨0, by simp, by simp, rfl, rfl⟩ ?_
        exact key0 ()
      by_cases k5 : t.kind = 5
      · skip
        simp (maxSteps := 3000000) [-List.length_flatten, -List.map_drop, -List.map_take, Function.comp_def, argsT, Opd.ev, Tm.get, put, ares, mapMo, ares1, snilP, bldParts, bslParts, putAt, AV.cells, AV.one, astore, aload, loadCs, callArgs, abin, abinInt, aapp, elems, appMore, appNone, preLen, aFa, aFld, apart, aExt, aPick, aNot, aLens, aEqa, cellsK, fitsA, LK.fitsA, leavesA, leafA, nilD, aNilc, aCint, aCid, alive, alen, alenOk, Rle, lePs, len_flat, Kc, k5]
        refine run_loopK (fun m T H => ∃ k : Nat, m = t.args.length - k ∧ k ≤ t.args.length ∧ T = [(18, i64 k), (17, .bool (partK l a t 66 k)), (16, .bool (partK l a t 82 k)), (15, .bool (partK l a t 76 k)), (13, .ptr 4 0 0), (12, i64 i), (11, .loc 3 i 0 i 1 false), (10, .loc 2 i 0 i 1 false), (9, .loc 1 i 0 i 1 false), (5, .ptr 0 0 0), (2, i64 id), (3, .int .u8 s), (0, sigs l)] ∧ H = [.cells 0 a.cs, .cells i (lst l a 76 i), .cells i (lst l a 82 i), .cells i (lst l a 66 i), .cells 0 t.cs])
            t.args.length [(18, i64 0), (17, .bool (partK l a t 66 0)), (16, .bool (partK l a t 82 0)), (15, .bool (partK l a t 76 0)), (13, .ptr 4 0 0), (12, i64 i), (11, .loc 3 i 0 i 1 false), (10, .loc 2 i 0 i 1 false), (9, .loc 1 i 0 i 1 false), (5, .ptr 0 0 0), (2, i64 id), (3, .int .u8 s), (0, sigs l)] [.cells 0 a.cs, .cells i (lst l a 76 i), .cells i (lst l a 82 i), .cells i (lst l a 66 i), .cells 0 t.cs]
            (Wk.tell 5 (by omega) (by simp [Tm.get, m66, m76, m82, k5]) (by simp) (by simp [k5]) (by simp only [al_cons, al_nil, and_true]; exact ⟨by simp [RLB], lst_RL _ _ _ _ _, lst_RL _ _ _ _ _, lst_RL _ _ _ _ _, by simp [RLB]⟩)) ⟨0, by simp, by simp, rfl, rfl⟩ ?_
        exact key0 ()
      by_cases k6 : t.kind = 6
      · skip
        simp (maxSteps := 3000000) [-List.length_flatten, -List.map_drop, -List.map_take, Function.comp_def, argsT, Opd.ev, Tm.get, put, ares, mapMo, ares1, snilP, bldParts, bslParts, putAt, AV.cells, AV.one, astore, aload, loadCs, callArgs, abin, abinInt, aapp, elems, appMore, appNone, preLen, aFa, aFld, apart, aExt, aPick, aNot, aLens, aEqa, cellsK, fitsA, LK.fitsA, leavesA, leafA, nilD, aNilc, aCint, aCid, alive, alen, alenOk, Rle, lePs, len_flat, Kc, k6]
        refine run_loopK (fun m T H => ∃ k : Nat, m = t.args.length - k ∧ k ≤ t.args.length ∧ T = [(18, i64 k), (17, .bool (partK l a t 66 k)), (16, .bool (partK l a t 82 k)), (15, .bool (partK l a t 76 k)), (13, .ptr 4 0 0), (12, i64 i), (11, .loc 3 i 0 i 1 false), (10, .loc 2 i 0 i 1 false), (9, .loc 1 i 0 i 1 false), (5, .ptr 0 0 0), (2, i64 id), (3, .int .u8 s), (0, sigs l)] ∧ H = [.cells 0 a.cs, .cells i (lst l a 76 i), .cells i (lst l a 82 i), .cells i (lst l a 66 i), .cells 0 t.cs])
            t.args.length [(18, i64 0), (17, .bool (partK l a t 66 0)), (16, .bool (partK l a t 82 0)), (15, .bool (partK l a t 76 0)), (13, .ptr 4 0 0), (12, i64 i), (11, .loc 3 i 0 i 1 false), (10, .loc 2 i 0 i 1 false), (9, .loc 1 i 0 i 1 false), (5, .ptr 0 0 0), (2, i64 id), (3, .int .u8 s), (0, sigs l)] [.cells 0 a.cs, .cells i (lst l a 76 i), .cells i (lst l a 82 i), .cells i (lst l a 66 i), .cells 0 t.cs]
            (Wk.tell 5 (by omega) (by simp [Tm.get, m66, m76, m82, k6]) (by simp) (by simp [k6]) (by simp only [al_cons, al_nil, and_true]; exact ⟨by simp [RLB], lst_RL _ _ _ _ _, lst_RL _ _ _ _ _, lst_RL _ _ _ _ _, by simp [RLB]⟩)) ⟨0, by simp, by simp, rfl, rfl⟩ ?_
        exact key0 ()
      simp (maxSteps := 3000000) [-List.length_flatten, -List.map_drop, -List.map_take, Function.comp_def, argsT, Opd.ev, Tm.get, put, ares, mapMo, ares1, snilP, bldParts, bslParts, putAt, AV.cells, AV.one, astore, aload, loadCs, callArgs, abin, abinInt, aapp, elems, appMore, appNone, preLen, aFa, aFld, apart, aExt, aPick, aNot, aLens, aEqa, cellsK, fitsA, LK.fitsA, leavesA, leafA, nilD, aNilc, aCint, aCid, alive, alen, alenOk, Rle, lePs, len_flat, Kc, k4, k5, k6]
      refine run_loopK (fun m T H => ∃ k : Nat, m = t.args.length - k ∧ k ≤ t.args.length ∧ T = [(18, i64 k), (17, .bool (partK l a t 66 k)), (16, .bool (partK l a t 82 k)), (15, .bool (partK l a t 76 k)), (13, .ptr 4 0 0), (12, i64 i), (11, .loc 3 i 0 i 1 false), (10, .loc 2 i 0 i 1 false), (9, .loc 1 i 0 i 1 false), (5, .ptr 0 0 0), (2, i64 id), (3, .int .u8 s), (0, sigs l)] ∧ H = [.cells 0 a.cs, .cells i (lst l a 76 i), .cells i (lst l a 82 i), .cells i (lst l a 66 i), .cells 0 t.cs])
            t.args.length [(18, i64 0), (17, .bool (partK l a t 66 0)), (16, .bool (partK l a t 82 0)), (15, .bool (partK l a t 76 0)), (13, .ptr 4 0 0), (12, i64 i), (11, .loc 3 i 0 i 1 false), (10, .loc 2 i 0 i 1 false), (9, .loc 1 i 0 i 1 false), (5, .ptr 0 0 0), (2, i64 id), (3, .int .u8 s), (0, sigs l)] [.cells 0 a.cs, .cells i (lst l a 76 i), .cells i (lst l a 82 i), .cells i (lst l a 66 i), .cells 0 t.cs]
            (Wk.tell 5 (by omega) (by simp [Tm.get, m66, m76, m82, k4, k5, k6]) (by simp) (by simp [k4, k5, k6]) (by simp only [al_cons, al_nil, and_true]; exact ⟨by simp [RLB], lst_RL _ _ _ _ _, lst_RL _ _ _ _ _, lst_RL _ _ _ _ _, by simp [RLB]⟩)) ⟨0, by simp, by simp, rfl, rfl⟩ ?_
      exact key0 ()
    case sub0 =>
      rintro m T H ⟨k, rfl, hk, rfl, rfl⟩ KI ix ir inn
      by_cases hk1 : k < t.args.length
      · have hp := hfit.parts k hk1
        have q76 := partK_on l a t (.inl rfl : isSide 76) k
        have q82 := partK_on l a t (.inr (.inl rfl) : isSide 82) k
        have q66 := partK_on l a t (.inr (.inr rfl) : isSide 66) k
        have L76 := lst_load l a 76 hp.1 hp.2
        have L82 := lst_load l a 82 hp.1 hp.2
        have L66 := lst_load l a 66 hp.1 hp.2
        obtain ⟨p0, p1⟩ := hp
        have hkn : IntKind.i64.wrap ((k : Int) + 1) = ((k + 1 : Nat) : Int) := nxt (n := t.args.length) hk1 (by unfold maxA; omega)
        refine by_way (A := ?G1) (fun key1 => ?main1) ?sub1
        case main1 =>
          by_cases k6 : t.kind = 6
          · obtain ⟨e1, e2, s3⟩ := hfit.proj k6
            have hV : varyOf l t k = byte (gi l t.sym).args t.part := by simp [varyOf, k6]
            simp (maxSteps := 3000000) [-List.length_flatten, -List.map_drop, -List.map_take, Function.comp_def, argsT, Opd.ev, Tm.get, put, ares, mapMo, ares1, snilP, bldParts, bslParts, putAt, AV.cells, AV.one, astore, aload, loadCs, callArgs, abin, abinInt, aapp, elems, appMore, appNone, preLen, aFa, aFld, apart, aExt, aPick, aNot, aLens, aEqa, cellsK, fitsA, LK.fitsA, leavesA, leafA, nilD, aNilc, aCint, aCid, alive, alen, alenOk, Rle, lePs, len_flat, hk1, k6, e1, e2]
            intro _
            refine run_markT [(20, .int .u8 (varyOf l t k)), (19, i64 (gi t.args k)), (18, i64 k), (17, .bool (partK l a t 66 k)), (16, .bool (partK l a t 82 k)), (15, .bool (partK l a t 76 k)), (13, .ptr 4 0 0), (12, i64 i), (11, .loc 3 i 0 i 1 false), (10, .loc 2 i 0 i 1 false), (9, .loc 1 i 0 i 1 false), (5, .ptr 0 0 0), (2, i64 id), (3, .int .u8 s), (0, sigs l)] [.cells 0 a.cs, .cells i (lst l a 76 i), .cells i (lst l a 82 i), .cells i (lst l a 66 i), .cells 0 t.cs] (Wk.tell 5 (by omega) (by simp [Tm.get, hV]) (by simp) (by simp [k6]) (by simp only [al_cons, al_nil, and_true]; exact ⟨by simp [RLB], lst_RL _ _ _ _ _, lst_RL _ _ _ _ _, lst_RL _ _ _ _ _, by simp [RLB]⟩)) ?_
            exact key1 ()
          by_cases k3 : t.kind = 3
          · obtain ⟨e1, s2⟩ := hfit.con k3
            have e2 : k < (gi l t.sym).args.size := by omega
            have hV : varyOf l t k = byte (gi l t.sym).args k := by simp [varyOf, k3]
            simp (maxSteps := 3000000) [-List.length_flatten, -List.map_drop, -List.map_take, Function.comp_def, argsT, Opd.ev, Tm.get, put, ares, mapMo, ares1, snilP, bldParts, bslParts, putAt, AV.cells, AV.one, astore, aload, loadCs, callArgs, abin, abinInt, aapp, elems, appMore, appNone, preLen, aFa, aFld, apart, aExt, aPick, aNot, aLens, aEqa, cellsK, fitsA, LK.fitsA, leavesA, leafA, nilD, aNilc, aCint, aCid, alive, alen, alenOk, Rle, lePs, len_flat, hk1, k3, e1, e2]
            intro _
            refine run_markT [(20, .int .u8 (varyOf l t k)), (19, i64 (gi t.args k)), (18, i64 k), (17, .bool (partK l a t 66 k)), (16, .bool (partK l a t 82 k)), (15, .bool (partK l a t 76 k)), (13, .ptr 4 0 0), (12, i64 i), (11, .loc 3 i 0 i 1 false), (10, .loc 2 i 0 i 1 false), (9, .loc 1 i 0 i 1 false), (5, .ptr 0 0 0), (2, i64 id), (3, .int .u8 s), (0, sigs l)] [.cells 0 a.cs, .cells i (lst l a 76 i), .cells i (lst l a 82 i), .cells i (lst l a 66 i), .cells 0 t.cs] (Wk.tell 5 (by omega) (by simp [Tm.get, hV]) (by simp) (by simp [k3]) (by simp only [al_cons, al_nil, and_true]; exact ⟨by simp [RLB], lst_RL _ _ _ _ _, lst_RL _ _ _ _ _, lst_RL _ _ _ _ _, by simp [RLB]⟩)) ?_
            exact key1 ()
          · have hV : varyOf l t k = 43 := by simp [varyOf, k3, k6]
            simp (maxSteps := 3000000) [-List.length_flatten, -List.map_drop, -List.map_take, Function.comp_def, argsT, Opd.ev, Tm.get, put, ares, mapMo, ares1, snilP, bldParts, bslParts, putAt, AV.cells, AV.one, astore, aload, loadCs, callArgs, abin, abinInt, aapp, elems, appMore, appNone, preLen, aFa, aFld, apart, aExt, aPick, aNot, aLens, aEqa, cellsK, fitsA, LK.fitsA, leavesA, leafA, nilD, aNilc, aCint, aCid, alive, alen, alenOk, Rle, lePs, len_flat, hk1, k3, k6]
            intro _
            refine run_markT [(20, .int .u8 (varyOf l t k)), (19, i64 (gi t.args k)), (18, i64 k), (17, .bool (partK l a t 66 k)), (16, .bool (partK l a t 82 k)), (15, .bool (partK l a t 76 k)), (13, .ptr 4 0 0), (12, i64 i), (11, .loc 3 i 0 i 1 false), (10, .loc 2 i 0 i 1 false), (9, .loc 1 i 0 i 1 false), (5, .ptr 0 0 0), (2, i64 id), (3, .int .u8 s), (0, sigs l)] [.cells 0 a.cs, .cells i (lst l a 76 i), .cells i (lst l a 82 i), .cells i (lst l a 66 i), .cells 0 t.cs] (Wk.tell 5 (by omega) (by simp [Tm.get, hV]) (by simp) (by simp) (by simp only [al_cons, al_nil, and_true]; exact ⟨by simp [RLB], lst_RL _ _ _ _ _, lst_RL _ _ _ _ _, lst_RL _ _ _ _ _, by simp [RLB]⟩)) ?_
            exact key1 ()
        case sub1 =>
          generalize hVV : varyOf l t k = V at *
          refine by_way (A := ?G2) (fun key2 => ?main2) ?sub2
          case main2 =>
            by_cases b76 : partK l a t 76 k = true
            · simp (maxSteps := 3000000) [-List.length_flatten, -List.map_drop, -List.map_take, Function.comp_def, argsT, Opd.ev, Tm.get, put, ares, mapMo, ares1, snilP, bldParts, bslParts, putAt, AV.cells, AV.one, astore, aload, loadCs, callArgs, abin, abinInt, aapp, elems, appMore, appNone, preLen, aFa, aFld, apart, aExt, aPick, aNot, aLens, aEqa, cellsK, fitsA, LK.fitsA, leavesA, leafA, nilD, aNilc, aCint, aCid, alive, alen, alenOk, Rle, lePs, len_flat, b76]
              refine ⟨_, turn_PF 76 _, ?_⟩
              simp (maxSteps := 3000000) [-List.length_flatten, -List.map_drop, -List.map_take, Function.comp_def, argsT, Opd.ev, Tm.get, put, ares, mapMo, ares1, snilP, bldParts, bslParts, putAt, AV.cells, AV.one, astore, aload, loadCs, callArgs, abin, abinInt, aapp, elems, appMore, appNone, preLen, aFa, aFld, apart, aExt, aPick, aNot, aLens, aEqa, cellsK, fitsA, LK.fitsA, leavesA, leafA, nilD, aNilc, aCint, aCid, alive, alen, alenOk, Rle, lePs, len_flat, Kc, ↓L76, ↓L82, ↓L66, p0, p1]
              refine ⟨_, on_PF _ _ _ _, ?_⟩
              refine run_markT [(20, .int .u8 (V)), (19, i64 (gi t.args k)), (18, i64 k), (17, .bool (partK l a t 66 k)), (16, .bool (partK l a t 82 k)), (15, .bool (partK l a t 76 (k + 1))), (13, .ptr 4 0 0), (12, i64 i), (11, .loc 3 i 0 i 1 false), (10, .loc 2 i 0 i 1 false), (9, .loc 1 i 0 i 1 false), (5, .ptr 0 0 0), (2, i64 id), (3, .int .u8 s), (0, sigs l)] [.cells 0 a.cs, .cells i (lst l a 76 i), .cells i (lst l a 82 i), .cells i (lst l a 66 i), .cells 0 t.cs] (Wk.tell 5 (by omega) (by simp [Tm.get, q76, b76]) (by simp) (by simp) (by simp only [al_cons, al_nil, and_true]; exact ⟨by simp [RLB], lst_RL _ _ _ _ _, lst_RL _ _ _ _ _, lst_RL _ _ _ _ _, by simp [RLB]⟩)) ?_
              exact key2 ()
            · simp (maxSteps := 3000000) [-List.length_flatten, -List.map_drop, -List.map_take, Function.comp_def, argsT, Opd.ev, Tm.get, put, ares, mapMo, ares1, snilP, bldParts, bslParts, putAt, AV.cells, AV.one, astore, aload, loadCs, callArgs, abin, abinInt, aapp, elems, appMore, appNone, preLen, aFa, aFld, apart, aExt, aPick, aNot, aLens, aEqa, cellsK, fitsA, LK.fitsA, leavesA, leafA, nilD, aNilc, aCint, aCid, alive, alen, alenOk, Rle, lePs, len_flat, b76]
              refine run_markT [(20, .int .u8 (V)), (19, i64 (gi t.args k)), (18, i64 k), (17, .bool (partK l a t 66 k)), (16, .bool (partK l a t 82 k)), (15, .bool (partK l a t 76 (k + 1))), (13, .ptr 4 0 0), (12, i64 i), (11, .loc 3 i 0 i 1 false), (10, .loc 2 i 0 i 1 false), (9, .loc 1 i 0 i 1 false), (5, .ptr 0 0 0), (2, i64 id), (3, .int .u8 s), (0, sigs l)] [.cells 0 a.cs, .cells i (lst l a 76 i), .cells i (lst l a 82 i), .cells i (lst l a 66 i), .cells 0 t.cs] (Wk.tell 5 (by omega) (by simp [Tm.get, q76, b76]) (by simp) (by simp) (by simp only [al_cons, al_nil, and_true]; exact ⟨by simp [RLB], lst_RL _ _ _ _ _, lst_RL _ _ _ _ _, lst_RL _ _ _ _ _, by simp [RLB]⟩)) ?_
              exact key2 ()
          case sub2 =>
            refine by_way (A := ?G3) (fun key3 => ?main3) ?sub3
            case main3 =>
              by_cases b82 : partK l a t 82 k = true
              · simp (maxSteps := 3000000) [-List.length_flatten, -List.map_drop, -List.map_take, Function.comp_def, argsT, Opd.ev, Tm.get, put, ares, mapMo, ares1, snilP, bldParts, bslParts, putAt, AV.cells, AV.one, astore, aload, loadCs, callArgs, abin, abinInt, aapp, elems, appMore, appNone, preLen, aFa, aFld, apart, aExt, aPick, aNot, aLens, aEqa, cellsK, fitsA, LK.fitsA, leavesA, leafA, nilD, aNilc, aCint, aCid, alive, alen, alenOk, Rle, lePs, len_flat, b82]
                refine ⟨_, turn_PF 82 _, ?_⟩
                simp (maxSteps := 3000000) [-List.length_flatten, -List.map_drop, -List.map_take, Function.comp_def, argsT, Opd.ev, Tm.get, put, ares, mapMo, ares1, snilP, bldParts, bslParts, putAt, AV.cells, AV.one, astore, aload, loadCs, callArgs, abin, abinInt, aapp, elems, appMore, appNone, preLen, aFa, aFld, apart, aExt, aPick, aNot, aLens, aEqa, cellsK, fitsA, LK.fitsA, leavesA, leafA, nilD, aNilc, aCint, aCid, alive, alen, alenOk, Rle, lePs, len_flat, Kc, ↓L76, ↓L82, ↓L66, p0, p1]
                refine ⟨_, on_PF _ _ _ _, ?_⟩
                refine run_markT [(20, .int .u8 (V)), (19, i64 (gi t.args k)), (18, i64 k), (17, .bool (partK l a t 66 k)), (16, .bool (partK l a t 82 (k + 1))), (15, .bool (partK l a t 76 (k + 1))), (13, .ptr 4 0 0), (12, i64 i), (11, .loc 3 i 0 i 1 false), (10, .loc 2 i 0 i 1 false), (9, .loc 1 i 0 i 1 false), (5, .ptr 0 0 0), (2, i64 id), (3, .int .u8 s), (0, sigs l)] [.cells 0 a.cs, .cells i (lst l a 76 i), .cells i (lst l a 82 i), .cells i (lst l a 66 i), .cells 0 t.cs] (Wk.tell 5 (by omega) (by simp [Tm.get, q82, b82]) (by simp) (by simp) (by simp only [al_cons, al_nil, and_true]; exact ⟨by simp [RLB], lst_RL _ _ _ _ _, lst_RL _ _ _ _ _, lst_RL _ _ _ _ _, by simp [RLB]⟩)) ?_
                exact key3 ()
              · simp (maxSteps := 3000000) [-List.length_flatten, -List.map_drop, -List.map_take, Function.comp_def, argsT, Opd.ev, Tm.get, put, ares, mapMo, ares1, snilP, bldParts, bslParts, putAt, AV.cells, AV.one, astore, aload, loadCs, callArgs, abin, abinInt, aapp, elems, appMore, appNone, preLen, aFa, aFld, apart, aExt, aPick, aNot, aLens, aEqa, cellsK, fitsA, LK.fitsA, leavesA, leafA, nilD, aNilc, aCint, aCid, alive, alen, alenOk, Rle, lePs, len_flat, b82]
                refine run_markT [(20, .int .u8 (V)), (19, i64 (gi t.args k)), (18, i64 k), (17, .bool (partK l a t 66 k)), (16, .bool (partK l a t 82 (k + 1))), (15, .bool (partK l a t 76 (k + 1))), (13, .ptr 4 0 0), (12, i64 i), (11, .loc 3 i 0 i 1 false), (10, .loc 2 i 0 i 1 false), (9, .loc 1 i 0 i 1 false), (5, .ptr 0 0 0), (2, i64 id), (3, .int .u8 s), (0, sigs l)] [.cells 0 a.cs, .cells i (lst l a 76 i), .cells i (lst l a 82 i), .cells i (lst l a 66 i), .cells 0 t.cs] (Wk.tell 5 (by omega) (by simp [Tm.get, q82, b82]) (by simp) (by simp) (by simp only [al_cons, al_nil, and_true]; exact ⟨by simp [RLB], lst_RL _ _ _ _ _, lst_RL _ _ _ _ _, lst_RL _ _ _ _ _, by simp [RLB]⟩)) ?_
                exact key3 ()
            case sub3 =>
              by_cases b66 : partK l a t 66 k = true
              · simp (maxSteps := 3000000) [-List.length_flatten, -List.map_drop, -List.map_take, Function.comp_def, argsT, Opd.ev, Tm.get, put, ares, mapMo, ares1, snilP, bldParts, bslParts, putAt, AV.cells, AV.one, astore, aload, loadCs, callArgs, abin, abinInt, aapp, elems, appMore, appNone, preLen, aFa, aFld, apart, aExt, aPick, aNot, aLens, aEqa, cellsK, fitsA, LK.fitsA, leavesA, leafA, nilD, aNilc, aCint, aCid, alive, alen, alenOk, Rle, lePs, len_flat, b66]
                refine ⟨_, turn_PF 66 _, ?_⟩
                simp (maxSteps := 3000000) [-List.length_flatten, -List.map_drop, -List.map_take, Function.comp_def, argsT, Opd.ev, Tm.get, put, ares, mapMo, ares1, snilP, bldParts, bslParts, putAt, AV.cells, AV.one, astore, aload, loadCs, callArgs, abin, abinInt, aapp, elems, appMore, appNone, preLen, aFa, aFld, apart, aExt, aPick, aNot, aLens, aEqa, cellsK, fitsA, LK.fitsA, leavesA, leafA, nilD, aNilc, aCint, aCid, alive, alen, alenOk, Rle, lePs, len_flat, Kc, ↓L76, ↓L82, ↓L66, p0, p1]
                refine ⟨_, on_PF _ _ _ _, ?_⟩
                exact inn _ _ (Kl_next (t.args.length - (k + 1)) 5 (by omega) ⟨k + 1, rfl, hk1, rfl, rfl⟩ (by simp [Tm.get, hkn, q66, b66]) (by simp) rfl (by simp only [al_cons, al_nil, and_true]; exact ⟨by simp [RLB], lst_RL _ _ _ _ _, lst_RL _ _ _ _ _, lst_RL _ _ _ _ _, by simp [RLB]⟩) (by omega))
              · simp (maxSteps := 3000000) [-List.length_flatten, -List.map_drop, -List.map_take, Function.comp_def, argsT, Opd.ev, Tm.get, put, ares, mapMo, ares1, snilP, bldParts, bslParts, putAt, AV.cells, AV.one, astore, aload, loadCs, callArgs, abin, abinInt, aapp, elems, appMore, appNone, preLen, aFa, aFld, apart, aExt, aPick, aNot, aLens, aEqa, cellsK, fitsA, LK.fitsA, leavesA, leafA, nilD, aNilc, aCint, aCid, alive, alen, alenOk, Rle, lePs, len_flat, b66]
                exact inn _ _ (Kl_next (t.args.length - (k + 1)) 5 (by omega) ⟨k + 1, rfl, hk1, rfl, rfl⟩ (by simp [Tm.get, hkn, q66, b66]) (by simp) rfl (by simp only [al_cons, al_nil, and_true]; exact ⟨by simp [RLB], lst_RL _ _ _ _ _, lst_RL _ _ _ _ _, lst_RL _ _ _ _ _, by simp [RLB]⟩) (by omega))
      · have e : k = t.args.length := by omega
        subst e
        simp (maxSteps := 3000000) [-List.length_flatten, -List.map_drop, -List.map_take, Function.comp_def, argsT, Opd.ev, Tm.get, put, ares, mapMo, ares1, snilP, bldParts, bslParts, putAt, AV.cells, AV.one, astore, aload, loadCs, callArgs, abin, abinInt, aapp, elems, appMore, appNone, preLen, aFa, aFld, apart, aExt, aPick, aNot, aLens, aEqa, cellsK, fitsA, LK.fitsA, leavesA, leafA, nilD, aNilc, aCint, aCid, alive, alen, alenOk, Rle, lePs, len_flat, hk1, ix, l76, l82, l66, lst_take]
        refine fun _ _ _ => ⟨by unfold maxA; omega, fun _ _ => ⟨by unfold maxA; omega, fun _ _ => ⟨by unfold maxA; omega, ?_⟩⟩⟩
        exact kn _ _ (Kl_next (id.toNat + 1 - (i + 1)) 4 (by omega) ⟨i + 1, rfl, by omega, rfl, rfl⟩ (by simp [Tm.get, hin]) (by simp) (by simp [lst_succ, a76, a82, a66]) (by simp only [al_cons, al_nil, and_true]; exact ⟨by simp [RLB], lst_RL _ _ _ _ _, lst_RL _ _ _ _ _, lst_RL _ _ _ _ _⟩) (by omega))
  · have hl2 : (i : Int) = id + 1 := by omega
    have x1 : id < (i : Int) := by omega
    have L76 := lst_load l a 76 hr.1 x1
    have L82 := lst_load l a 82 hr.1 x1
    have L66 := lst_load l a 66 hr.1 x1
    have x0 := hr.1
    simp (maxSteps := 3000000) [-List.length_flatten, -List.map_drop, -List.map_take, Function.comp_def, argsT, Opd.ev, Tm.get, put, ares, mapMo, ares1, snilP, bldParts, bslParts, putAt, AV.cells, AV.one, astore, aload, loadCs, callArgs, abin, abinInt, aapp, elems, appMore, appNone, preLen, aFa, aFld, apart, aExt, aPick, aNot, aLens, aEqa, cellsK, fitsA, LK.fitsA, leavesA, leafA, nilD, aNilc, aCint, aCid, alive, alen, alenOk, Rle, lePs, len_flat, hlt, kx, x0, x1, ↓L76, ↓L82, ↓L66]
    refine ⟨_, on_PF _ _ _ _, ?_⟩
    simp (maxSteps := 3000000) [-List.length_flatten, -List.map_drop, -List.map_take, Function.comp_def, argsT, Opd.ev, Tm.get, put, ares, mapMo, ares1, snilP, bldParts, bslParts, putAt, AV.cells, AV.one, astore, aload, loadCs, callArgs, abin, abinInt, aapp, elems, appMore, appNone, preLen, aFa, aFld, apart, aExt, aPick, aNot, aLens, aEqa, cellsK, fitsA, LK.fitsA, leavesA, leafA, nilD, aNilc, aCint, aCid, alive, alen, alenOk, Rle, lePs, len_flat, Kc]
end Go.AM

namespace Go.AM
open Go.Proofs
set_option maxRecDepth 100000
set_option linter.unusedVariables false
set_option linter.unusedSimpArgs false
/-! ### The law of StepTells -/
theorem sameWay_refl (w : Int × List (Int × Int)) : sameWay w w = true := by simp [sameWay]
theorem same13' (k k' : Int) (p p' : List (Int × Int)) : PF Try.prog 13 [way k p, way k' p'] (.bool (sameWay (k, p) (k', p'))) := same13_PF (k, p) (k', p')
theorem same16' (k k' : Int) (p p' : List (Int × Int)) : PF Try.prog 16 [way k p, way k' p'] (.bool (sameWay (k, p) (k', p'))) := same16_PF (k, p) (k', p')
theorem c5_ok : cFn Try.prog an0 Try.f5 = some c5 := by kernel_rfl
theorem law5_PF (l : List Sg) (a : Kd) (x y s : Int) (hs : ∀ i : Nat, i < l.length → (gi l i).args.size ≤ maxA) (hk : a.keys.length ≤ 1048576) (hks : ∀ i : Nat, i < a.keys.length → (gi a.keys i).length ≤ maxA) :
    PF Try.prog 5 [.agg ([sigs l] ++ a.cs ++ [i64 x, i64 y, .int .u8 s])] (.bool true) := by
  refine PFk 9 hm Try.func5 c5_ok (Nat.le_of_ble_eq_true rfl) (by simp) (by simp) ?_
  simp (maxSteps := 3000000) [-List.length_flatten, -List.map_drop, -List.map_take, Function.comp_def, argsT, Opd.ev, Tm.get, put, ares, mapMo, ares1, snilP, bldParts, bslParts, putAt, AV.cells, AV.one, astore, aload, loadCs, callArgs, abin, abinInt, aapp, elems, appMore, appNone, preLen, aFa, aFld, apart, aExt, aPick, aNot, aLens, aEqa, cellsK, fitsA, LK.fitsA, leavesA, leafA, nilD, aNilc, aCint, aCid, alive, alen, alenOk, Rle, lePs, len_flat, c5]
  refine PF.call shown_PF 9 (by simp [lePs]) ?_
  simp (maxSteps := 3000000) [-List.length_flatten, -List.map_drop, -List.map_take, Function.comp_def, argsT, Opd.ev, Tm.get, put, ares, mapMo, ares1, snilP, bldParts, bslParts, putAt, AV.cells, AV.one, astore, aload, loadCs, callArgs, abin, abinInt, aapp, elems, appMore, appNone, preLen, aFa, aFld, apart, aExt, aPick, aNot, aLens, aEqa, cellsK, fitsA, LK.fitsA, leavesA, leafA, nilD, aNilc, aCint, aCid, alive, alen, alenOk, Rle, lePs, len_flat, Kc]
  refine PF.call (of10_PF l a hs hk hks) 9 (by simp [lePs]) ?_
  by_cases ho : ofOk l a = true
  · have hF := ofOk_fine ho
    have r1 := rstep_PF hF x y
    have s1 := step_PF hF x y
    have s2 := step_PF hF y x
    generalize stepOf l a x y = w at *
    generalize stepOf l a y x = v at *
    obtain ⟨wk, wp⟩ := w
    obtain ⟨vk, vp⟩ := v
    simp (maxSteps := 3000000) [-List.length_flatten, -List.map_drop, -List.map_take, Function.comp_def, argsT, Opd.ev, Tm.get, put, ares, mapMo, ares1, snilP, bldParts, bslParts, putAt, AV.cells, AV.one, astore, aload, loadCs, callArgs, abin, abinInt, aapp, elems, appMore, appNone, preLen, aFa, aFld, apart, aExt, aPick, aNot, aLens, aEqa, cellsK, fitsA, LK.fitsA, leavesA, leafA, nilD, aNilc, aCint, aCid, alive, alen, alenOk, Rle, lePs, len_flat, Kc, ho]
    refine PF.call s1 9 (by simp [lePs]) ?_
    simp (maxSteps := 3000000) [-List.length_flatten, -List.map_drop, -List.map_take, Function.comp_def, argsT, Opd.ev, Tm.get, put, ares, mapMo, ares1, snilP, bldParts, bslParts, putAt, AV.cells, AV.one, astore, aload, loadCs, callArgs, abin, abinInt, aapp, elems, appMore, appNone, preLen, aFa, aFld, apart, aExt, aPick, aNot, aLens, aEqa, cellsK, fitsA, LK.fitsA, leavesA, leafA, nilD, aNilc, aCint, aCid, alive, alen, alenOk, Rle, lePs, len_flat, Kc]
    refine PF.call s2 9 (by simp [lePs]) ?_
    simp (maxSteps := 3000000) [-List.length_flatten, -List.map_drop, -List.map_take, Function.comp_def, argsT, Opd.ev, Tm.get, put, ares, mapMo, ares1, snilP, bldParts, bslParts, putAt, AV.cells, AV.one, astore, aload, loadCs, callArgs, abin, abinInt, aapp, elems, appMore, appNone, preLen, aFa, aFld, apart, aExt, aPick, aNot, aLens, aEqa, cellsK, fitsA, LK.fitsA, leavesA, leafA, nilD, aNilc, aCint, aCid, alive, alen, alenOk, Rle, lePs, len_flat, Kc]
    refine ⟨_, r1, ?_⟩
    simp (maxSteps := 3000000) [-List.length_flatten, -List.map_drop, -List.map_take, Function.comp_def, argsT, Opd.ev, Tm.get, put, ares, mapMo, ares1, snilP, bldParts, bslParts, putAt, AV.cells, AV.one, astore, aload, loadCs, callArgs, abin, abinInt, aapp, elems, appMore, appNone, preLen, aFa, aFld, apart, aExt, aPick, aNot, aLens, aEqa, cellsK, fitsA, LK.fitsA, leavesA, leafA, nilD, aNilc, aCint, aCid, alive, alen, alenOk, Rle, lePs, len_flat, Kc]
    refine ⟨_, same13' wk wk wp wp, ?_⟩
    have e1 := sameWay_refl (wk, wp)
    simp (maxSteps := 3000000) [-List.length_flatten, -List.map_drop, -List.map_take, Function.comp_def, argsT, Opd.ev, Tm.get, put, ares, mapMo, ares1, snilP, bldParts, bslParts, putAt, AV.cells, AV.one, astore, aload, loadCs, callArgs, abin, abinInt, aapp, elems, appMore, appNone, preLen, aFa, aFld, apart, aExt, aPick, aNot, aLens, aEqa, cellsK, fitsA, LK.fitsA, leavesA, leafA, nilD, aNilc, aCint, aCid, alive, alen, alenOk, Rle, lePs, len_flat, e1]
    refine ⟨_, sided_PF hF x s, ?_⟩
    simp (maxSteps := 3000000) [-List.length_flatten, -List.map_drop, -List.map_take, Function.comp_def, argsT, Opd.ev, Tm.get, put, ares, mapMo, ares1, snilP, bldParts, bslParts, putAt, AV.cells, AV.one, astore, aload, loadCs, callArgs, abin, abinInt, aapp, elems, appMore, appNone, preLen, aFa, aFld, apart, aExt, aPick, aNot, aLens, aEqa, cellsK, fitsA, LK.fitsA, leavesA, leafA, nilD, aNilc, aCint, aCid, alive, alen, alenOk, Rle, lePs, len_flat, Kc]
    refine ⟨_, rsided_PF hF x s, ?_⟩
    simp (maxSteps := 3000000) [-List.length_flatten, -List.map_drop, -List.map_take, Function.comp_def, argsT, Opd.ev, Tm.get, put, ares, mapMo, ares1, snilP, bldParts, bslParts, putAt, AV.cells, AV.one, astore, aload, loadCs, callArgs, abin, abinInt, aapp, elems, appMore, appNone, preLen, aFa, aFld, apart, aExt, aPick, aNot, aLens, aEqa, cellsK, fitsA, LK.fitsA, leavesA, leafA, nilD, aNilc, aCint, aCid, alive, alen, alenOk, Rle, lePs, len_flat, Kc]
    refine ⟨_, same16' wk vk wp vp, ?_⟩
    simp (maxSteps := 3000000) [-List.length_flatten, -List.map_drop, -List.map_take, Function.comp_def, argsT, Opd.ev, Tm.get, put, ares, mapMo, ares1, snilP, bldParts, bslParts, putAt, AV.cells, AV.one, astore, aload, loadCs, callArgs, abin, abinInt, aapp, elems, appMore, appNone, preLen, aFa, aFld, apart, aExt, aPick, aNot, aLens, aEqa, cellsK, fitsA, LK.fitsA, leavesA, leafA, nilD, aNilc, aCint, aCid, alive, alen, alenOk, Rle, lePs, len_flat, Kc]
    refine ⟨_, same13' wk vk wp vp, ?_⟩
    simp (maxSteps := 3000000) [-List.length_flatten, -List.map_drop, -List.map_take, Function.comp_def, argsT, Opd.ev, Tm.get, put, ares, mapMo, ares1, snilP, bldParts, bslParts, putAt, AV.cells, AV.one, astore, aload, loadCs, callArgs, abin, abinInt, aapp, elems, appMore, appNone, preLen, aFa, aFld, apart, aExt, aPick, aNot, aLens, aEqa, cellsK, fitsA, LK.fitsA, leavesA, leafA, nilD, aNilc, aCint, aCid, alive, alen, alenOk, Rle, lePs, len_flat, Kc]
  · simp (maxSteps := 3000000) [-List.length_flatten, -List.map_drop, -List.map_take, Function.comp_def, argsT, Opd.ev, Tm.get, put, ares, mapMo, ares1, snilP, bldParts, bslParts, putAt, AV.cells, AV.one, astore, aload, loadCs, callArgs, abin, abinInt, aapp, elems, appMore, appNone, preLen, aFa, aFld, apart, aExt, aPick, aNot, aLens, aEqa, cellsK, fitsA, LK.fitsA, leavesA, leafA, nilD, aNilc, aCint, aCid, alive, alen, alenOk, Rle, lePs, len_flat, Kc, ho]
end Go.AM
