/- Contracts of the program's functions. -/
import Derived.Test.YtiijekgpjnhdjaaF5
import Derived.Test.YtiijekgpjnhdjaaAm4
import Derived.KernelRfl
import Derived.Shelf.SlGeneric
import Derived.Ground.SlsfProg
import Derived.Shelf.SlSortCmp.WholeK
import Derived.Test.YtiijekgpjnhdjaaProg
import Derived.Test.YtiijekgpjnhdjaaAm5
namespace Go.AM
open Go.Proofs
set_option maxRecDepth 100000
set_option linter.unusedVariables false
set_option linter.unusedSimpArgs false
def c18 : AFn := ⟨84, .seq (.reg false [⟨some 5, .box (.tmp 1), none⟩, ⟨some 8, .mov (.lit .nilS), none⟩, ⟨some 9, .mov (.lit .nilS), none⟩]) (.seq (.reg false [⟨some 17, .mov (.tmp 2), none⟩, ⟨some 18, .mov (.tmp 3), none⟩, ⟨some 19, .build [.int .i64 0, .int .i64 0] [(0, 1, .tmp 17), (1, 1, .tmp 18)], none⟩, ⟨some 20, .bsloc 2 1 [.int .i64 0, .int .i64 0] [(0, .tmp 19)], none⟩, ⟨some 10, .mov (.tmp 20), none⟩]) (.seq (.reg false [⟨some 11, .mov (.lit .nilS), none⟩]) (.seq (.reg false [⟨some 12, .mov (.lit .nilS), none⟩]) (.seq (.seq (.reg false [⟨some 13, .mov (.lit (.int .i64 0)), none⟩]) (.block 0 (.loop (.seq (.seq (.reg false [⟨some 21, .mov (.tmp 13), none⟩, ⟨some 22, .mov (.tmp 10), none⟩, ⟨some 23, .len (.tmp 22), none⟩, ⟨some 24, .bin .lss (.tmp 21) (.tmp 23), none⟩]) (.cond (.tmp 24) .skip (.exit 0))) (.seq (.block 1 (.seq (.reg true [⟨some 27, .mov (.tmp 0), none⟩, ⟨some 28, .load 2 true (.tmp 5), none⟩, ⟨some 29, .mov (.tmp 10), none⟩, ⟨some 30, .mov (.tmp 13), none⟩, ⟨some 31, .ia 2 (.tmp 29) (.tmp 30), none⟩, ⟨some 32, .iarr 2 1 (.tmp 31) (.lit (.int .i64 0)), none⟩, ⟨some 33, .load 1 false (.tmp 32), none⟩, ⟨some 34, .mov (.tmp 10), none⟩, ⟨some 35, .mov (.tmp 13), none⟩, ⟨some 36, .ia 2 (.tmp 34) (.tmp 35), none⟩, ⟨some 37, .iarr 2 1 (.tmp 36) (.lit (.int .i64 1)), none⟩, ⟨some 38, .load 1 false (.tmp 37), none⟩, ⟨some 39, .call (.lit (.fn (.func 14) [] [])) [.tmp 27, .tmp 28, .tmp 33, .tmp 38], none⟩, ⟨some 14, .alloc [.int .i64 0, .nilS], none⟩, ⟨none, .store 2 (.tmp 14) (.tmp 39), none⟩]) (.seq (.seq (.reg false [⟨some 40, .fa 0 (.tmp 14), none⟩, ⟨some 41, .load 1 false (.tmp 40), none⟩, ⟨some 42, .bin .eql (.tmp 41) (.lit (.int .i64 2)), none⟩]) (.cond (.tmp 42) (.reg false [⟨some 43, .mov (.tmp 11), none⟩, ⟨some 44, .mov (.tmp 10), none⟩, ⟨some 45, .mov (.tmp 13), none⟩, ⟨some 46, .ia 2 (.tmp 44) (.tmp 45), none⟩, ⟨some 47, .load 2 true (.tmp 46), none⟩, ⟨some 48, .call (.lit (.fn (.func 20) [] [])) [.tmp 43, .tmp 47], none⟩, ⟨some 11, .mov (.tmp 48), none⟩]) .skip)) (.seq (.seq (.reg false [⟨some 49, .fa 0 (.tmp 14), none⟩, ⟨some 50, .load 1 false (.tmp 49), none⟩, ⟨some 51, .bin .eql (.tmp 50) (.lit (.int .i64 3)), none⟩]) (.cond (.tmp 51) (.reg false [⟨some 52, .mov (.tmp 12), none⟩, ⟨some 53, .mov (.tmp 10), none⟩, ⟨some 54, .mov (.tmp 13), none⟩, ⟨some 55, .ia 2 (.tmp 53) (.tmp 54), none⟩, ⟨some 56, .load 2 true (.tmp 55), none⟩, ⟨some 57, .call (.lit (.fn (.func 20) [] [])) [.tmp 52, .tmp 56], none⟩, ⟨some 12, .mov (.tmp 57), none⟩]) .skip)) (.seq (.reg false [⟨some 15, .mov (.lit (.int .i64 0)), none⟩]) (.block 2 (.loop (.seq (.seq (.reg false [⟨some 58, .mov (.tmp 15), none⟩, ⟨some 59, .fa 1 (.tmp 14), none⟩, ⟨some 60, .load 1 false (.tmp 59), none⟩, ⟨some 61, .len (.tmp 60), none⟩, ⟨some 62, .bin .lss (.tmp 58) (.tmp 61), none⟩]) (.cond (.tmp 62) .skip (.exit 2))) (.seq (.block 3 (.seq (.reg false [⟨some 65, .mov (.tmp 10), none⟩, ⟨some 66, .fa 1 (.tmp 14), none⟩, ⟨some 67, .load 1 false (.tmp 66), none⟩, ⟨some 68, .mov (.tmp 15), none⟩, ⟨some 69, .ia 2 (.tmp 67) (.tmp 68), none⟩, ⟨some 70, .load 2 true (.tmp 69), none⟩, ⟨some 71, .call (.lit (.fn (.func 40) [] [])) [.tmp 65, .tmp 70], none⟩, ⟨some 16, .mov (.tmp 71), none⟩]) (.seq (.reg false [⟨some 72, .mov (.tmp 16), none⟩, ⟨some 73, .not (.tmp 72), none⟩]) (.cond (.tmp 73) (.reg false [⟨some 74, .mov (.tmp 10), none⟩, ⟨some 75, .fa 1 (.tmp 14), none⟩, ⟨some 76, .load 1 false (.tmp 75), none⟩, ⟨some 77, .mov (.tmp 15), none⟩, ⟨some 78, .ia 2 (.tmp 76) (.tmp 77), none⟩, ⟨some 79, .load 2 true (.tmp 78), none⟩, ⟨some 80, .bslice 2 1 [.int .i64 0, .int .i64 0] [(0, .tmp 79)], none⟩, ⟨some 81, .app 2 16 (.tmp 74) (.tmp 80), none⟩, ⟨some 10, .mov (.tmp 81), none⟩]) .skip)))) (.reg false [⟨some 63, .mov (.tmp 15), none⟩, ⟨some 64, .bin .add (.tmp 63) (.lit (.int .i64 1)), none⟩, ⟨some 15, .mov (.tmp 64), none⟩])))))))))) (.reg false [⟨some 25, .mov (.tmp 13), none⟩, ⟨some 26, .bin .add (.tmp 25) (.lit (.int .i64 1)), none⟩, ⟨some 13, .mov (.tmp 26), none⟩])))))) (.seq (.reg false [⟨some 82, .mov (.tmp 11), none⟩, ⟨some 83, .mov (.tmp 12), none⟩, ⟨some 8, .mov (.tmp 82), none⟩, ⟨some 9, .mov (.tmp 83), none⟩]) .ret))))), [.tmp 8, .tmp 9]⟩
def c20 : AFn := ⟨71, .seq (.reg false [⟨some 3, .box (.tmp 1), none⟩, ⟨some 4, .mov (.lit .nilS), none⟩]) (.seq (.reg false [⟨some 5, .mov (.lit .nilS), none⟩]) (.seq (.reg false [⟨some 6, .mov (.lit (.int .i64 0)), none⟩]) (.seq (.block 0 (.loop (.seq (.seq (.reg true [⟨some 7, .mov (.tmp 6), none⟩, ⟨some 8, .mov (.tmp 0), none⟩, ⟨some 9, .len (.tmp 8), none⟩, ⟨some 10, .bin .lss (.tmp 7) (.tmp 9), none⟩, ⟨some 11, .mov (.tmp 10), none⟩, ⟨some 12, .mov (.tmp 0), some ((11, true))⟩, ⟨some 13, .mov (.tmp 6), some ((11, true))⟩, ⟨some 14, .ia 2 (.tmp 12) (.tmp 13), some ((11, true))⟩, ⟨some 15, .iarr 2 1 (.tmp 14) (.lit (.int .i64 0)), some ((11, true))⟩, ⟨some 16, .load 1 false (.tmp 15), some ((11, true))⟩, ⟨some 17, .iarr 2 1 (.tmp 3) (.lit (.int .i64 0)), some ((11, true))⟩, ⟨some 18, .load 1 false (.tmp 17), some ((11, true))⟩, ⟨some 19, .bin .lss (.tmp 16) (.tmp 18), some ((11, true))⟩, ⟨some 20, .mov (.tmp 19), some ((11, true))⟩, ⟨some 21, .mov (.tmp 0), some ((20, false))⟩, ⟨some 22, .mov (.tmp 6), some ((20, false))⟩, ⟨some 23, .ia 2 (.tmp 21) (.tmp 22), some ((20, false))⟩, ⟨some 24, .iarr 2 1 (.tmp 23) (.lit (.int .i64 0)), some ((20, false))⟩, ⟨some 25, .load 1 false (.tmp 24), some ((20, false))⟩, ⟨some 26, .iarr 2 1 (.tmp 3) (.lit (.int .i64 0)), some ((20, false))⟩, ⟨some 27, .load 1 false (.tmp 26), some ((20, false))⟩, ⟨some 28, .bin .eql (.tmp 25) (.tmp 27), some ((20, false))⟩, ⟨some 29, .mov (.tmp 28), some ((20, false))⟩, ⟨some 30, .mov (.tmp 0), some ((29, true))⟩, ⟨some 31, .mov (.tmp 6), some ((29, true))⟩, ⟨some 32, .ia 2 (.tmp 30) (.tmp 31), some ((29, true))⟩, ⟨some 33, .iarr 2 1 (.tmp 32) (.lit (.int .i64 1)), some ((29, true))⟩, ⟨some 34, .load 1 false (.tmp 33), some ((29, true))⟩, ⟨some 35, .iarr 2 1 (.tmp 3) (.lit (.int .i64 1)), some ((29, true))⟩, ⟨some 36, .load 1 false (.tmp 35), some ((29, true))⟩, ⟨some 37, .bin .lss (.tmp 34) (.tmp 36), some ((29, true))⟩, ⟨some 38, .pick (.tmp 29) (.tmp 37) (.lit (.bool false)), some ((20, false))⟩, ⟨some 39, .pick (.tmp 20) (.lit (.bool true)) (.tmp 38), some ((11, true))⟩, ⟨some 40, .pick (.tmp 11) (.tmp 39) (.lit (.bool false)), none⟩]) (.cond (.tmp 40) .skip (.exit 0))) (.block 1 (.seq (.reg false [⟨some 41, .mov (.tmp 5), none⟩, ⟨some 42, .mov (.tmp 0), none⟩, ⟨some 43, .mov (.tmp 6), none⟩, ⟨some 44, .ia 2 (.tmp 42) (.tmp 43), none⟩, ⟨some 45, .load 2 true (.tmp 44), none⟩, ⟨some 46, .bslice 2 1 [.int .i64 0, .int .i64 0] [(0, .tmp 45)], none⟩, ⟨some 47, .app 2 16 (.tmp 41) (.tmp 46), none⟩, ⟨some 5, .mov (.tmp 47), none⟩]) (.reg false [⟨some 48, .mov (.tmp 6), none⟩, ⟨some 49, .bin .add (.tmp 48) (.lit (.int .i64 1)), none⟩, ⟨some 6, .mov (.tmp 49), none⟩])))))) (.seq (.seq (.reg true [⟨some 50, .mov (.tmp 6), none⟩, ⟨some 51, .mov (.tmp 0), none⟩, ⟨some 52, .len (.tmp 51), none⟩, ⟨some 53, .bin .eql (.tmp 50) (.tmp 52), none⟩, ⟨some 54, .mov (.tmp 53), none⟩, ⟨some 55, .mov (.tmp 0), some ((54, false))⟩, ⟨some 56, .mov (.tmp 6), some ((54, false))⟩, ⟨some 57, .ia 2 (.tmp 55) (.tmp 56), some ((54, false))⟩, ⟨some 58, .load 2 true (.tmp 57), some ((54, false))⟩, ⟨some 59, .load 2 true (.tmp 3), some ((54, false))⟩, ⟨some 60, .eqa true true [.int .i64, .int .i64] (.tmp 58) (.tmp 59), some ((54, false))⟩, ⟨some 61, .pick (.tmp 54) (.lit (.bool true)) (.tmp 60), none⟩]) (.cond (.tmp 61) (.reg false [⟨some 62, .mov (.tmp 5), none⟩, ⟨some 63, .load 2 true (.tmp 3), none⟩, ⟨some 64, .bslice 2 1 [.int .i64 0, .int .i64 0] [(0, .tmp 63)], none⟩, ⟨some 65, .app 2 16 (.tmp 62) (.tmp 64), none⟩, ⟨some 5, .mov (.tmp 65), none⟩]) .skip)) (.seq (.reg false [⟨some 66, .mov (.tmp 5), none⟩, ⟨some 67, .mov (.tmp 0), none⟩, ⟨some 68, .mov (.tmp 6), none⟩, ⟨some 69, .slc 2 (.tmp 67) (some (.tmp 68)) none none, none⟩, ⟨some 70, .app 2 16 (.tmp 66) (.tmp 69), none⟩, ⟨some 4, .mov (.tmp 70), none⟩]) .ret))))), [.tmp 4]⟩
def c36 : AFn := ⟨17, .seq (.reg false [⟨some 2, .box (.tmp 0), none⟩, ⟨some 3, .box (.tmp 1), none⟩, ⟨some 4, .mov (.lit (.int .i64 0)), none⟩]) (.seq (.reg true [⟨some 5, .iarr 2 1 (.tmp 2) (.lit (.int .i64 0)), none⟩, ⟨some 6, .load 1 false (.tmp 5), none⟩, ⟨some 7, .iarr 2 1 (.tmp 3) (.lit (.int .i64 0)), none⟩, ⟨some 8, .load 1 false (.tmp 7), none⟩, ⟨some 9, .call (.lit (.fn (.func 38) [] [])) [.tmp 6, .tmp 8], none⟩, ⟨some 10, .iarr 2 1 (.tmp 2) (.lit (.int .i64 1)), none⟩, ⟨some 11, .load 1 false (.tmp 10), none⟩, ⟨some 12, .iarr 2 1 (.tmp 3) (.lit (.int .i64 1)), none⟩, ⟨some 13, .load 1 false (.tmp 12), none⟩, ⟨some 14, .call (.lit (.fn (.func 38) [] [])) [.tmp 11, .tmp 13], none⟩, ⟨some 15, .bslice 1 2 [.int .i64 0] [(0, .tmp 9), (1, .tmp 14)], none⟩, ⟨some 16, .call (.lit (.fn (.func 37) [] [])) [.tmp 15], none⟩, ⟨some 4, .mov (.tmp 16), none⟩]) .ret), [.tmp 4]⟩
def c37 : AFn := ⟨18, .seq (.reg false [⟨some 2, .mov (.lit (.int .i64 0)), none⟩]) (.seq (.reg false [⟨some 3, .mov (.lit (.int .i64 0)), none⟩]) (.seq (.seq (.reg false [⟨some 6, .mov (.tmp 0), none⟩, ⟨some 7, .len (.tmp 6), none⟩, ⟨some 8, .mov (.lit (.int .i64 0)), none⟩]) (.block 0 (.loop (.seq (.reg false [⟨some 9, .bin .lss (.tmp 8) (.tmp 7), none⟩]) (.seq (.cond (.tmp 9) .skip (.exit 0)) (.seq (.block 1 (.seq (.reg false [⟨some 10, .ia 1 (.tmp 6) (.tmp 8), none⟩, ⟨some 11, .load 1 false (.tmp 10), none⟩, ⟨some 5, .mov (.tmp 11), none⟩]) (.seq (.reg false [⟨some 12, .mov (.tmp 5), none⟩, ⟨some 13, .mov (.tmp 3), none⟩, ⟨some 14, .bin .neq (.tmp 12) (.tmp 13), none⟩]) (.cond (.tmp 14) (.seq (.reg false [⟨some 15, .mov (.tmp 5), none⟩, ⟨some 2, .mov (.tmp 15), none⟩]) .ret) .skip)))) (.reg false [⟨some 16, .bin .add (.tmp 8) (.lit (.int .i64 1)), none⟩, ⟨some 8, .mov (.tmp 16), none⟩]))))))) (.seq (.reg false [⟨some 17, .mov (.tmp 3), none⟩, ⟨some 2, .mov (.tmp 17), none⟩]) .ret))), [.tmp 2]⟩
def c38 : AFn := ⟨20, .seq (.reg false [⟨some 4, .mov (.lit (.int .i64 0)), none⟩]) (.seq (.reg false [⟨some 7, .mov (.tmp 0), none⟩, ⟨some 8, .call (.lit (.fn (.func 57) [] [])) [.tmp 7], none⟩, ⟨some 5, .mov (.tmp 8), none⟩]) (.seq (.reg false [⟨some 9, .mov (.tmp 1), none⟩, ⟨some 10, .call (.lit (.fn (.func 57) [] [])) [.tmp 9], none⟩, ⟨some 6, .mov (.tmp 10), none⟩]) (.seq (.seq (.reg false [⟨some 11, .mov (.tmp 5), none⟩]) (.cond (.tmp 11) (.seq (.seq (.reg false [⟨some 12, .mov (.tmp 6), none⟩]) (.cond (.tmp 12) (.seq (.reg false [⟨some 4, .mov (.lit (.int .i64 0)), none⟩]) .ret) .skip)) (.seq (.reg false [⟨some 4, .mov (.lit (.int .i64 (-1))), none⟩]) .ret)) .skip)) (.seq (.seq (.reg false [⟨some 13, .mov (.tmp 6), none⟩]) (.cond (.tmp 13) (.seq (.reg false [⟨some 4, .mov (.lit (.int .i64 1)), none⟩]) .ret) .skip)) (.seq (.seq (.reg false [⟨some 14, .mov (.tmp 0), none⟩, ⟨some 15, .mov (.tmp 1), none⟩, ⟨some 16, .bin .lss (.tmp 14) (.tmp 15), none⟩]) (.cond (.tmp 16) (.seq (.reg false [⟨some 4, .mov (.lit (.int .i64 (-1))), none⟩]) .ret) .skip)) (.seq (.seq (.reg false [⟨some 17, .mov (.tmp 0), none⟩, ⟨some 18, .mov (.tmp 1), none⟩, ⟨some 19, .bin .gtr (.tmp 17) (.tmp 18), none⟩]) (.cond (.tmp 19) (.seq (.reg false [⟨some 4, .mov (.lit (.int .i64 1)), none⟩]) .ret) .skip)) (.seq (.reg false [⟨some 4, .mov (.lit (.int .i64 0)), none⟩]) .ret))))))), [.tmp 4]⟩
def c39 : AFn := ⟨14, .seq (.reg false [⟨some 5, .mov (.tmp 0), none⟩, ⟨some 6, .len (.tmp 5), none⟩, ⟨some 4, .mov (.tmp 6), none⟩]) (.reg false [⟨some 7, .mov (.tmp 0), none⟩, ⟨some 8, .mov (.tmp 4), none⟩, ⟨some 9, .mov (.tmp 4), none⟩, ⟨some 10, .cint .u64 (.tmp 9), none⟩, ⟨some 11, .call (.lit (.fn (.func 59) [] [])) [.tmp 10], none⟩, ⟨some 12, .mov (.tmp 1), none⟩, ⟨some 13, .call (.lit (.fn (.func 58) [] [])) [.tmp 7, .lit (.int .i64 0), .tmp 8, .tmp 11, .tmp 12], none⟩]), []⟩
def c40 : AFn := ⟨18, .seq (.reg false [⟨some 3, .box (.tmp 1), none⟩, ⟨some 4, .mov (.lit (.bool false)), none⟩]) (.seq (.seq (.reg false [⟨some 5, .mov (.lit (.int .i64 0)), none⟩]) (.block 0 (.loop (.seq (.seq (.reg false [⟨some 6, .mov (.tmp 5), none⟩, ⟨some 7, .mov (.tmp 0), none⟩, ⟨some 8, .len (.tmp 7), none⟩, ⟨some 9, .bin .lss (.tmp 6) (.tmp 8), none⟩]) (.cond (.tmp 9) .skip (.exit 0))) (.seq (.block 1 (.seq (.reg true [⟨some 12, .mov (.tmp 0), none⟩, ⟨some 13, .mov (.tmp 5), none⟩, ⟨some 14, .ia 2 (.tmp 12) (.tmp 13), none⟩, ⟨some 15, .load 2 true (.tmp 14), none⟩, ⟨some 16, .load 2 true (.tmp 3), none⟩, ⟨some 17, .eqa false true [.int .i64, .int .i64] (.tmp 15) (.tmp 16), none⟩]) (.cond (.tmp 17) (.seq (.reg false [⟨some 4, .mov (.lit (.bool true)), none⟩]) .ret) .skip))) (.reg false [⟨some 10, .mov (.tmp 5), none⟩, ⟨some 11, .bin .add (.tmp 10) (.lit (.int .i64 1)), none⟩, ⟨some 5, .mov (.tmp 11), none⟩])))))) (.seq (.reg false [⟨some 4, .mov (.lit (.bool false)), none⟩]) .ret)), [.tmp 4]⟩
def c57 : AFn := ⟨6, .seq (.reg false [⟨some 2, .mov (.lit (.bool false)), none⟩]) (.seq (.reg false [⟨some 3, .mov (.tmp 0), none⟩, ⟨some 4, .mov (.tmp 0), none⟩, ⟨some 5, .bin .neq (.tmp 3) (.tmp 4), none⟩, ⟨some 2, .mov (.tmp 5), none⟩]) .ret), [.tmp 2]⟩
def c58 : AFn := ⟨148, .seq (.reg false [⟨some 10, .mov (.lit (.bool true)), none⟩]) (.seq (.reg false [⟨some 11, .mov (.lit (.bool true)), none⟩]) (.block 0 (.loop (.block 1 (.seq (.reg false [⟨some 21, .mov (.tmp 2), none⟩, ⟨some 22, .mov (.tmp 1), none⟩, ⟨some 23, .bin .sub (.tmp 21) (.tmp 22), none⟩, ⟨some 12, .mov (.tmp 23), none⟩]) (.seq (.seq (.reg false [⟨some 24, .mov (.tmp 12), none⟩, ⟨some 25, .bin .leq (.tmp 24) (.lit (.int .i64 12)), none⟩]) (.cond (.tmp 25) (.seq (.reg false [⟨some 26, .mov (.tmp 0), none⟩, ⟨some 27, .mov (.tmp 1), none⟩, ⟨some 28, .mov (.tmp 2), none⟩, ⟨some 29, .mov (.tmp 4), none⟩, ⟨some 30, .call (.lit (.fn (.func 67) [] [])) [.tmp 26, .tmp 27, .tmp 28, .tmp 29], none⟩]) .ret) .skip)) (.seq (.seq (.reg false [⟨some 31, .mov (.tmp 3), none⟩, ⟨some 32, .bin .eql (.tmp 31) (.lit (.int .i64 0)), none⟩]) (.cond (.tmp 32) (.seq (.reg false [⟨some 33, .mov (.tmp 0), none⟩, ⟨some 34, .mov (.tmp 1), none⟩, ⟨some 35, .mov (.tmp 2), none⟩, ⟨some 36, .mov (.tmp 4), none⟩, ⟨some 37, .call (.lit (.fn (.func 68) [] [])) [.tmp 33, .tmp 34, .tmp 35, .tmp 36], none⟩]) .ret) .skip)) (.seq (.seq (.reg false [⟨some 38, .mov (.tmp 10), none⟩, ⟨some 39, .not (.tmp 38), none⟩]) (.cond (.tmp 39) (.seq (.reg false [⟨some 40, .mov (.tmp 0), none⟩, ⟨some 41, .mov (.tmp 1), none⟩, ⟨some 42, .mov (.tmp 2), none⟩, ⟨some 43, .mov (.tmp 4), none⟩, ⟨some 44, .call (.lit (.fn (.func 69) [] [])) [.tmp 40, .tmp 41, .tmp 42, .tmp 43], none⟩]) (.reg false [⟨some 45, .mov (.tmp 3), none⟩, ⟨some 46, .bin .sub (.tmp 45) (.lit (.int .i64 1)), none⟩, ⟨some 3, .mov (.tmp 46), none⟩])) .skip)) (.seq (.reg false [⟨some 48, .mov (.tmp 0), none⟩, ⟨some 49, .mov (.tmp 1), none⟩, ⟨some 50, .mov (.tmp 2), none⟩, ⟨some 51, .mov (.tmp 4), none⟩, ⟨some 52, .call (.lit (.fn (.func 70) [] [])) [.tmp 48, .tmp 49, .tmp 50, .tmp 51], none⟩, ⟨some 47, .mov (.tmp 52), none⟩, ⟨some 53, .ext (.tmp 47) 0, none⟩, ⟨some 54, .ext (.tmp 47) 1, none⟩, ⟨some 13, .mov (.tmp 53), none⟩, ⟨some 14, .mov (.tmp 54), none⟩]) (.seq (.seq (.reg false [⟨some 55, .mov (.tmp 14), none⟩, ⟨some 56, .bin .eql (.tmp 55) (.lit (.int .i64 2)), none⟩]) (.cond (.tmp 56) (.seq (.reg false [⟨some 57, .mov (.tmp 0), none⟩, ⟨some 58, .mov (.tmp 1), none⟩, ⟨some 59, .mov (.tmp 2), none⟩, ⟨some 60, .mov (.tmp 4), none⟩, ⟨some 61, .call (.lit (.fn (.func 71) [] [])) [.tmp 57, .tmp 58, .tmp 59, .tmp 60], none⟩]) (.seq (.reg false [⟨some 62, .mov (.tmp 2), none⟩, ⟨some 63, .bin .sub (.tmp 62) (.lit (.int .i64 1)), none⟩, ⟨some 64, .mov (.tmp 13), none⟩, ⟨some 65, .mov (.tmp 1), none⟩, ⟨some 66, .bin .sub (.tmp 64) (.tmp 65), none⟩, ⟨some 67, .bin .sub (.tmp 63) (.tmp 66), none⟩, ⟨some 13, .mov (.tmp 67), none⟩]) (.reg false [⟨some 14, .mov (.lit (.int .i64 1)), none⟩]))) .skip)) (.seq (.seq (.reg false [⟨some 68, .mov (.tmp 10), none⟩, ⟨some 69, .mov (.tmp 68), none⟩, ⟨some 70, .mov (.tmp 11), some ((69, true))⟩, ⟨some 71, .pick (.tmp 69) (.tmp 70) (.lit (.bool false)), none⟩, ⟨some 72, .mov (.tmp 71), none⟩, ⟨some 73, .mov (.tmp 14), some ((72, true))⟩, ⟨some 74, .bin .eql (.tmp 73) (.lit (.int .i64 1)), some ((72, true))⟩, ⟨some 75, .pick (.tmp 72) (.tmp 74) (.lit (.bool false)), none⟩]) (.cond (.tmp 75) (.seq (.reg false [⟨some 76, .mov (.tmp 0), none⟩, ⟨some 77, .mov (.tmp 1), none⟩, ⟨some 78, .mov (.tmp 2), none⟩, ⟨some 79, .mov (.tmp 4), none⟩, ⟨some 80, .call (.lit (.fn (.func 72) [] [])) [.tmp 76, .tmp 77, .tmp 78, .tmp 79], none⟩]) (.cond (.tmp 80) .ret .skip)) .skip)) (.seq (.seq (.reg true [⟨some 81, .mov (.tmp 1), none⟩, ⟨some 82, .bin .gtr (.tmp 81) (.lit (.int .i64 0)), none⟩, ⟨some 83, .mov (.tmp 82), none⟩, ⟨some 84, .mov (.tmp 4), some ((83, true))⟩, ⟨some 85, .mov (.tmp 0), some ((83, true))⟩, ⟨some 86, .mov (.tmp 1), some ((83, true))⟩, ⟨some 87, .bin .sub (.tmp 86) (.lit (.int .i64 1)), some ((83, true))⟩, ⟨some 88, .ia 2 (.tmp 85) (.tmp 87), some ((83, true))⟩, ⟨some 89, .load 2 true (.tmp 88), some ((83, true))⟩, ⟨some 90, .mov (.tmp 0), some ((83, true))⟩, ⟨some 91, .mov (.tmp 13), some ((83, true))⟩, ⟨some 92, .ia 2 (.tmp 90) (.tmp 91), some ((83, true))⟩, ⟨some 93, .load 2 true (.tmp 92), some ((83, true))⟩, ⟨some 94, .call (.tmp 84) [.tmp 89, .tmp 93], some ((83, true))⟩, ⟨some 95, .bin .lss (.tmp 94) (.lit (.int .i64 0)), some ((83, true))⟩, ⟨some 96, .not (.tmp 95), some ((83, true))⟩, ⟨some 97, .pick (.tmp 83) (.tmp 96) (.lit (.bool false)), none⟩]) (.cond (.tmp 97) (.seq (.reg false [⟨some 98, .mov (.tmp 0), none⟩, ⟨some 99, .mov (.tmp 1), none⟩, ⟨some 100, .mov (.tmp 2), none⟩, ⟨some 101, .mov (.tmp 13), none⟩, ⟨some 102, .mov (.tmp 4), none⟩, ⟨some 103, .call (.lit (.fn (.func 73) [] [])) [.tmp 98, .tmp 99, .tmp 100, .tmp 101, .tmp 102], none⟩, ⟨some 15, .mov (.tmp 103), none⟩]) (.seq (.reg false [⟨some 104, .mov (.tmp 15), none⟩, ⟨some 1, .mov (.tmp 104), none⟩]) (.exit 1))) .skip)) (.seq (.reg false [⟨some 106, .mov (.tmp 0), none⟩, ⟨some 107, .mov (.tmp 1), none⟩, ⟨some 108, .mov (.tmp 2), none⟩, ⟨some 109, .mov (.tmp 13), none⟩, ⟨some 110, .mov (.tmp 4), none⟩, ⟨some 111, .call (.lit (.fn (.func 74) [] [])) [.tmp 106, .tmp 107, .tmp 108, .tmp 109, .tmp 110], none⟩, ⟨some 105, .mov (.tmp 111), none⟩, ⟨some 112, .ext (.tmp 105) 0, none⟩, ⟨some 113, .ext (.tmp 105) 1, none⟩, ⟨some 16, .mov (.tmp 112), none⟩, ⟨some 17, .mov (.tmp 113), none⟩]) (.seq (.reg false [⟨some 114, .mov (.tmp 17), none⟩, ⟨some 11, .mov (.tmp 114), none⟩]) (.seq (.reg false [⟨some 115, .mov (.tmp 16), none⟩, ⟨some 116, .mov (.tmp 1), none⟩, ⟨some 117, .bin .sub (.tmp 115) (.tmp 116), none⟩, ⟨some 118, .mov (.tmp 2), none⟩, ⟨some 119, .mov (.tmp 16), none⟩, ⟨some 120, .bin .sub (.tmp 118) (.tmp 119), none⟩, ⟨some 18, .mov (.tmp 117), none⟩, ⟨some 19, .mov (.tmp 120), none⟩]) (.seq (.reg false [⟨some 121, .mov (.tmp 12), none⟩, ⟨some 122, .bin .quo (.tmp 121) (.lit (.int .i64 8)), none⟩, ⟨some 20, .mov (.tmp 122), none⟩]) (.seq (.reg false [⟨some 123, .mov (.tmp 18), none⟩, ⟨some 124, .mov (.tmp 19), none⟩, ⟨some 125, .bin .lss (.tmp 123) (.tmp 124), none⟩]) (.cond (.tmp 125) (.seq (.reg false [⟨some 126, .mov (.tmp 18), none⟩, ⟨some 127, .mov (.tmp 20), none⟩, ⟨some 128, .bin .geq (.tmp 126) (.tmp 127), none⟩, ⟨some 10, .mov (.tmp 128), none⟩]) (.seq (.reg false [⟨some 129, .mov (.tmp 0), none⟩, ⟨some 130, .mov (.tmp 1), none⟩, ⟨some 131, .mov (.tmp 16), none⟩, ⟨some 132, .mov (.tmp 3), none⟩, ⟨some 133, .mov (.tmp 4), none⟩, ⟨some 134, .call (.lit (.fn (.func 58) [] [])) [.tmp 129, .tmp 130, .tmp 131, .tmp 132, .tmp 133], none⟩]) (.reg false [⟨some 135, .mov (.tmp 16), none⟩, ⟨some 136, .bin .add (.tmp 135) (.lit (.int .i64 1)), none⟩, ⟨some 1, .mov (.tmp 136), none⟩]))) (.seq (.reg false [⟨some 137, .mov (.tmp 19), none⟩, ⟨some 138, .mov (.tmp 20), none⟩, ⟨some 139, .bin .geq (.tmp 137) (.tmp 138), none⟩, ⟨some 10, .mov (.tmp 139), none⟩]) (.seq (.reg false [⟨some 140, .mov (.tmp 0), none⟩, ⟨some 141, .mov (.tmp 16), none⟩, ⟨some 142, .bin .add (.tmp 141) (.lit (.int .i64 1)), none⟩, ⟨some 143, .mov (.tmp 2), none⟩, ⟨some 144, .mov (.tmp 3), none⟩, ⟨some 145, .mov (.tmp 4), none⟩, ⟨some 146, .call (.lit (.fn (.func 58) [] [])) [.tmp 140, .tmp 142, .tmp 143, .tmp 144, .tmp 145], none⟩]) (.reg false [⟨some 147, .mov (.tmp 16), none⟩, ⟨some 2, .mov (.tmp 147), none⟩]))))))))))))))))))))), []⟩
def c59 : AFn := ⟨8, .seq (.reg false [⟨some 2, .mov (.lit (.int .i64 0)), none⟩]) (.seq (.cond (.lit (.bool false)) (.seq (.reg false [⟨some 3, .mov (.tmp 0), none⟩, ⟨some 4, .cint .u32 (.tmp 3), none⟩, ⟨some 5, .call (.lit (.fn (.func 75) [] [])) [.tmp 4], none⟩, ⟨some 2, .mov (.tmp 5), none⟩]) .ret) .skip) (.seq (.reg false [⟨some 6, .mov (.tmp 0), none⟩, ⟨some 7, .call (.lit (.fn (.func 76) [] [])) [.tmp 6], none⟩, ⟨some 2, .mov (.tmp 7), none⟩]) .ret)), [.tmp 2]⟩
def c67 : AFn := ⟨53, .seq (.reg false [⟨some 10, .mov (.tmp 1), none⟩, ⟨some 11, .bin .add (.tmp 10) (.lit (.int .i64 1)), none⟩, ⟨some 8, .mov (.tmp 11), none⟩]) (.block 0 (.loop (.seq (.seq (.reg false [⟨some 12, .mov (.tmp 8), none⟩, ⟨some 13, .mov (.tmp 2), none⟩, ⟨some 14, .bin .lss (.tmp 12) (.tmp 13), none⟩]) (.cond (.tmp 14) .skip (.exit 0))) (.seq (.block 1 (.seq (.reg false [⟨some 17, .mov (.tmp 8), none⟩, ⟨some 9, .mov (.tmp 17), none⟩]) (.block 2 (.loop (.seq (.seq (.reg true [⟨some 18, .mov (.tmp 9), none⟩, ⟨some 19, .mov (.tmp 1), none⟩, ⟨some 20, .bin .gtr (.tmp 18) (.tmp 19), none⟩, ⟨some 21, .mov (.tmp 20), none⟩, ⟨some 22, .mov (.tmp 3), some ((21, true))⟩, ⟨some 23, .mov (.tmp 0), some ((21, true))⟩, ⟨some 24, .mov (.tmp 9), some ((21, true))⟩, ⟨some 25, .ia 2 (.tmp 23) (.tmp 24), some ((21, true))⟩, ⟨some 26, .load 2 true (.tmp 25), some ((21, true))⟩, ⟨some 27, .mov (.tmp 0), some ((21, true))⟩, ⟨some 28, .mov (.tmp 9), some ((21, true))⟩, ⟨some 29, .bin .sub (.tmp 28) (.lit (.int .i64 1)), some ((21, true))⟩, ⟨some 30, .ia 2 (.tmp 27) (.tmp 29), some ((21, true))⟩, ⟨some 31, .load 2 true (.tmp 30), some ((21, true))⟩, ⟨some 32, .call (.tmp 22) [.tmp 26, .tmp 31], some ((21, true))⟩, ⟨some 33, .bin .lss (.tmp 32) (.lit (.int .i64 0)), some ((21, true))⟩, ⟨some 34, .pick (.tmp 21) (.tmp 33) (.lit (.bool false)), none⟩]) (.cond (.tmp 34) .skip (.exit 2))) (.seq (.block 3 (.reg true [⟨some 37, .mov (.tmp 0), none⟩, ⟨some 38, .mov (.tmp 9), none⟩, ⟨some 39, .mov (.tmp 0), none⟩, ⟨some 40, .mov (.tmp 9), none⟩, ⟨some 41, .bin .sub (.tmp 40) (.lit (.int .i64 1)), none⟩, ⟨some 42, .mov (.tmp 0), none⟩, ⟨some 43, .mov (.tmp 9), none⟩, ⟨some 44, .bin .sub (.tmp 43) (.lit (.int .i64 1)), none⟩, ⟨some 45, .ia 2 (.tmp 42) (.tmp 44), none⟩, ⟨some 46, .load 2 true (.tmp 45), none⟩, ⟨some 47, .mov (.tmp 0), none⟩, ⟨some 48, .mov (.tmp 9), none⟩, ⟨some 49, .ia 2 (.tmp 47) (.tmp 48), none⟩, ⟨some 50, .load 2 true (.tmp 49), none⟩, ⟨some 51, .ia 2 (.tmp 37) (.tmp 38), none⟩, ⟨none, .store 2 (.tmp 51) (.tmp 46), none⟩, ⟨some 52, .ia 2 (.tmp 39) (.tmp 41), none⟩, ⟨none, .store 2 (.tmp 52) (.tmp 50), none⟩])) (.reg false [⟨some 35, .mov (.tmp 9), none⟩, ⟨some 36, .bin .sub (.tmp 35) (.lit (.int .i64 1)), none⟩, ⟨some 9, .mov (.tmp 36), none⟩]))))))) (.reg false [⟨some 15, .mov (.tmp 8), none⟩, ⟨some 16, .bin .add (.tmp 15) (.lit (.int .i64 1)), none⟩, ⟨some 8, .mov (.tmp 16), none⟩]))))), []⟩
def c75 : AFn := ⟨19, .seq (.reg false [⟨some 2, .mov (.lit (.int .i64 0)), none⟩]) (.seq (.seq (.reg false [⟨some 3, .mov (.tmp 0), none⟩, ⟨some 4, .bin .geq (.tmp 3) (.lit (.int .u32 65536)), none⟩]) (.cond (.tmp 4) (.seq (.reg false [⟨some 5, .mov (.tmp 0), none⟩, ⟨some 6, .bin .shr (.tmp 5) (.lit (.int .u64 16)), none⟩, ⟨some 0, .mov (.tmp 6), none⟩]) (.reg false [⟨some 2, .mov (.lit (.int .i64 16)), none⟩])) .skip)) (.seq (.seq (.reg false [⟨some 7, .mov (.tmp 0), none⟩, ⟨some 8, .bin .geq (.tmp 7) (.lit (.int .u32 256)), none⟩]) (.cond (.tmp 8) (.seq (.reg false [⟨some 9, .mov (.tmp 0), none⟩, ⟨some 10, .bin .shr (.tmp 9) (.lit (.int .u64 8)), none⟩, ⟨some 0, .mov (.tmp 10), none⟩]) (.reg false [⟨some 11, .mov (.tmp 2), none⟩, ⟨some 12, .bin .add (.tmp 11) (.lit (.int .i64 8)), none⟩, ⟨some 2, .mov (.tmp 12), none⟩])) .skip)) (.seq (.reg false [⟨some 13, .mov (.tmp 2), none⟩, ⟨some 14, .mov (.tmp 0), none⟩, ⟨some 15, .cint .u8 (.tmp 14), none⟩, ⟨some 16, .idxs (.lit (.str ⟨#[0, 1, 2, 2, 3, 3, 3, 3, 4, 4, 4, 4, 4, 4, 4, 4, 5, 5, 5, 5, 5, 5, 5, 5, 5, 5, 5, 5, 5, 5, 5, 5, 6, 6, 6, 6, 6, 6, 6, 6, 6, 6, 6, 6, 6, 6, 6, 6, 6, 6, 6, 6, 6, 6, 6, 6, 6, 6, 6, 6, 6, 6, 6, 6, 7, 7, 7, 7, 7, 7, 7, 7, 7, 7, 7, 7, 7, 7, 7, 7, 7, 7, 7, 7, 7, 7, 7, 7, 7, 7, 7, 7, 7, 7, 7, 7, 7, 7, 7, 7, 7, 7, 7, 7, 7, 7, 7, 7, 7, 7, 7, 7, 7, 7, 7, 7, 7, 7, 7, 7, 7, 7, 7, 7, 7, 7, 7, 7, 8, 8, 8, 8, 8, 8, 8, 8, 8, 8, 8, 8, 8, 8, 8, 8, 8, 8, 8, 8, 8, 8, 8, 8, 8, 8, 8, 8, 8, 8, 8, 8, 8, 8, 8, 8, 8, 8, 8, 8, 8, 8, 8, 8, 8, 8, 8, 8, 8, 8, 8, 8, 8, 8, 8, 8, 8, 8, 8, 8, 8, 8, 8, 8, 8, 8, 8, 8, 8, 8, 8, 8, 8, 8, 8, 8, 8, 8, 8, 8, 8, 8, 8, 8, 8, 8, 8, 8, 8, 8, 8, 8, 8, 8, 8, 8, 8, 8, 8, 8, 8, 8, 8, 8, 8, 8, 8, 8, 8, 8, 8, 8, 8, 8, 8, 8, 8, 8, 8, 8, 8, 8, 8, 8, 8, 8, 8, 8]⟩)) (.tmp 15), none⟩, ⟨some 17, .cint .i64 (.tmp 16), none⟩, ⟨some 18, .bin .add (.tmp 13) (.tmp 17), none⟩, ⟨some 2, .mov (.tmp 18), none⟩]) .ret))), [.tmp 2]⟩
def c76 : AFn := ⟨25, .seq (.reg false [⟨some 2, .mov (.lit (.int .i64 0)), none⟩]) (.seq (.seq (.reg false [⟨some 3, .mov (.tmp 0), none⟩, ⟨some 4, .bin .geq (.tmp 3) (.lit (.int .u64 4294967296)), none⟩]) (.cond (.tmp 4) (.seq (.reg false [⟨some 5, .mov (.tmp 0), none⟩, ⟨some 6, .bin .shr (.tmp 5) (.lit (.int .u64 32)), none⟩, ⟨some 0, .mov (.tmp 6), none⟩]) (.reg false [⟨some 2, .mov (.lit (.int .i64 32)), none⟩])) .skip)) (.seq (.seq (.reg false [⟨some 7, .mov (.tmp 0), none⟩, ⟨some 8, .bin .geq (.tmp 7) (.lit (.int .u64 65536)), none⟩]) (.cond (.tmp 8) (.seq (.reg false [⟨some 9, .mov (.tmp 0), none⟩, ⟨some 10, .bin .shr (.tmp 9) (.lit (.int .u64 16)), none⟩, ⟨some 0, .mov (.tmp 10), none⟩]) (.reg false [⟨some 11, .mov (.tmp 2), none⟩, ⟨some 12, .bin .add (.tmp 11) (.lit (.int .i64 16)), none⟩, ⟨some 2, .mov (.tmp 12), none⟩])) .skip)) (.seq (.seq (.reg false [⟨some 13, .mov (.tmp 0), none⟩, ⟨some 14, .bin .geq (.tmp 13) (.lit (.int .u64 256)), none⟩]) (.cond (.tmp 14) (.seq (.reg false [⟨some 15, .mov (.tmp 0), none⟩, ⟨some 16, .bin .shr (.tmp 15) (.lit (.int .u64 8)), none⟩, ⟨some 0, .mov (.tmp 16), none⟩]) (.reg false [⟨some 17, .mov (.tmp 2), none⟩, ⟨some 18, .bin .add (.tmp 17) (.lit (.int .i64 8)), none⟩, ⟨some 2, .mov (.tmp 18), none⟩])) .skip)) (.seq (.reg false [⟨some 19, .mov (.tmp 2), none⟩, ⟨some 20, .mov (.tmp 0), none⟩, ⟨some 21, .cint .u8 (.tmp 20), none⟩, ⟨some 22, .idxs (.lit (.str ⟨#[0, 1, 2, 2, 3, 3, 3, 3, 4, 4, 4, 4, 4, 4, 4, 4, 5, 5, 5, 5, 5, 5, 5, 5, 5, 5, 5, 5, 5, 5, 5, 5, 6, 6, 6, 6, 6, 6, 6, 6, 6, 6, 6, 6, 6, 6, 6, 6, 6, 6, 6, 6, 6, 6, 6, 6, 6, 6, 6, 6, 6, 6, 6, 6, 7, 7, 7, 7, 7, 7, 7, 7, 7, 7, 7, 7, 7, 7, 7, 7, 7, 7, 7, 7, 7, 7, 7, 7, 7, 7, 7, 7, 7, 7, 7, 7, 7, 7, 7, 7, 7, 7, 7, 7, 7, 7, 7, 7, 7, 7, 7, 7, 7, 7, 7, 7, 7, 7, 7, 7, 7, 7, 7, 7, 7, 7, 7, 7, 8, 8, 8, 8, 8, 8, 8, 8, 8, 8, 8, 8, 8, 8, 8, 8, 8, 8, 8, 8, 8, 8, 8, 8, 8, 8, 8, 8, 8, 8, 8, 8, 8, 8, 8, 8, 8, 8, 8, 8, 8, 8, 8, 8, 8, 8, 8, 8, 8, 8, 8, 8, 8, 8, 8, 8, 8, 8, 8, 8, 8, 8, 8, 8, 8, 8, 8, 8, 8, 8, 8, 8, 8, 8, 8, 8, 8, 8, 8, 8, 8, 8, 8, 8, 8, 8, 8, 8, 8, 8, 8, 8, 8, 8, 8, 8, 8, 8, 8, 8, 8, 8, 8, 8, 8, 8, 8, 8, 8, 8, 8, 8, 8, 8, 8, 8, 8, 8, 8, 8, 8, 8, 8, 8, 8, 8, 8, 8]⟩)) (.tmp 21), none⟩, ⟨some 23, .cint .i64 (.tmp 22), none⟩, ⟨some 24, .bin .add (.tmp 19) (.tmp 23), none⟩, ⟨some 2, .mov (.tmp 24), none⟩]) .ret)))), [.tmp 2]⟩
/-! ### Sorting pairs -/
def an18 : An := ⟨[20], []⟩
theorem c18_ok : cFn Try.prog an18 Try.f18 = some c18 := by kernel_rfl
theorem c20_ok : cFn Try.prog an0 Try.f20 = some c20 := by kernel_rfl
theorem c36_ok : cFn Try.prog an0 Try.f36 = some c36 := by kernel_rfl
theorem c37_ok : cFn Try.prog an0 Try.f37 = some c37 := by kernel_rfl
theorem c38_ok : cFn Try.prog an0 Try.f38 = some c38 := by kernel_rfl
theorem c39_ok : cFn Try.prog an0 Try.f39 = some c39 := by kernel_rfl
theorem c40_ok : cFn Try.prog an0 Try.f40 = some c40 := by kernel_rfl
theorem c57_ok : cFn Try.prog an0 Try.f57 = some c57 := by kernel_rfl
theorem c58_ok : cFn Try.prog an0 Try.f58 = some c58 := by kernel_rfl
theorem c59_ok : cFn Try.prog an0 Try.f59 = some c59 := by kernel_rfl
theorem c67_ok : cFn Try.prog an0 Try.f67 = some c67 := by kernel_rfl
theorem c75_ok : cFn Try.prog an0 Try.f75 = some c75 := by kernel_rfl
theorem c76_ok : cFn Try.prog an0 Try.f76 = some c76 := by kernel_rfl
def env : FuncId → Option AFn := fun f => match f with
  | 39 => some c39
  | 58 => some c58
  | 59 => some c59
  | 67 => some c67
  | 75 => some c75
  | 76 => some c76
  | _ => none
theorem envOk : EnvOk Try.prog env := by
  intro f af h
  unfold env at h
  split at h
  · injection h with h; subst h; exact ⟨_, _, (show Try.prog.funcs[39]? = some Try.f39 from rfl), c39_ok⟩
  · injection h with h; subst h; exact ⟨_, _, (show Try.prog.funcs[58]? = some Try.f58 from rfl), c58_ok⟩
  · injection h with h; subst h; exact ⟨_, _, (show Try.prog.funcs[59]? = some Try.f59 from rfl), c59_ok⟩
  · injection h with h; subst h; exact ⟨_, _, (show Try.prog.funcs[67]? = some Try.f67 from rfl), c67_ok⟩
  · injection h with h; subst h; exact ⟨_, _, (show Try.prog.funcs[75]? = some Try.f75 from rfl), c75_ok⟩
  · injection h with h; subst h; exact ⟨_, _, (show Try.prog.funcs[76]? = some Try.f76 from rfl), c76_ok⟩
  · cases h
theorem sort0 : PF Try.prog 39 [.nilS, .fn (.func 36) [] []] (.tuple []) := PF_eval hm envOk (fun _ => false) 60 30 rfl (by kernel_rfl)
def cmpI (x y : Int) : Int := if x < y then -1 else if y < x then 1 else 0
theorem nan57_PF (x : Int) : PF Try.prog 57 [i64 x] (.bool false) := by
  refine PFk 9 hm Try.func57 c57_ok (Nat.le_of_ble_eq_true rfl) (by simp) (by simp) ?_
  simp (maxSteps := 3000000) [-List.length_flatten, -List.map_drop, -List.map_take, Function.comp_def, argsT, Opd.ev, Tm.get, put, ares, mapMo, ares1, snilP, bldParts, bslParts, putAt, AV.cells, AV.one, astore, aload, loadCs, callArgs, abin, abinInt, aapp, elems, appMore, appNone, preLen, aFa, aFld, apart, aExt, aPick, aNot, aLens, aEqa, cellsK, fitsA, LK.fitsA, leavesA, leafA, nilD, aNilc, aCint, aCid, alive, alen, alenOk, Rle, lePs, len_flat, c57]
theorem cmp38_PF (x y : Int) : PF Try.prog 38 [i64 x, i64 y] (i64 (cmpI x y)) := by
  refine PFk 9 hm Try.func38 c38_ok (Nat.le_of_ble_eq_true rfl) (by simp) (by simp) ?_
  simp (maxSteps := 3000000) [-List.length_flatten, -List.map_drop, -List.map_take, Function.comp_def, argsT, Opd.ev, Tm.get, put, ares, mapMo, ares1, snilP, bldParts, bslParts, putAt, AV.cells, AV.one, astore, aload, loadCs, callArgs, abin, abinInt, aapp, elems, appMore, appNone, preLen, aFa, aFld, apart, aExt, aPick, aNot, aLens, aEqa, cellsK, fitsA, LK.fitsA, leavesA, leafA, nilD, aNilc, aCint, aCid, alive, alen, alenOk, Rle, lePs, len_flat, c38]
  refine PF.call (nan57_PF x) 9 (by simp [lePs, -List.length_flatten, -List.map_drop, -List.map_take, Function.comp_def, len_flat]) ?_
  simp (maxSteps := 3000000) [-List.length_flatten, -List.map_drop, -List.map_take, Function.comp_def, argsT, Opd.ev, Tm.get, put, ares, mapMo, ares1, snilP, bldParts, bslParts, putAt, AV.cells, AV.one, astore, aload, loadCs, callArgs, abin, abinInt, aapp, elems, appMore, appNone, preLen, aFa, aFld, apart, aExt, aPick, aNot, aLens, aEqa, cellsK, fitsA, LK.fitsA, leavesA, leafA, nilD, aNilc, aCint, aCid, alive, alen, alenOk, Rle, lePs, len_flat, Kc]
  refine PF.call (nan57_PF y) 9 (by simp [lePs, -List.length_flatten, -List.map_drop, -List.map_take, Function.comp_def, len_flat]) ?_
  by_cases h : x < y
  · simp (maxSteps := 3000000) [-List.length_flatten, -List.map_drop, -List.map_take, Function.comp_def, argsT, Opd.ev, Tm.get, put, ares, mapMo, ares1, snilP, bldParts, bslParts, putAt, AV.cells, AV.one, astore, aload, loadCs, callArgs, abin, abinInt, aapp, elems, appMore, appNone, preLen, aFa, aFld, apart, aExt, aPick, aNot, aLens, aEqa, cellsK, fitsA, LK.fitsA, leavesA, leafA, nilD, aNilc, aCint, aCid, alive, alen, alenOk, Rle, lePs, len_flat, Kc, h, cmpI]
  · by_cases h2 : y < x
    · simp (maxSteps := 3000000) [-List.length_flatten, -List.map_drop, -List.map_take, Function.comp_def, argsT, Opd.ev, Tm.get, put, ares, mapMo, ares1, snilP, bldParts, bslParts, putAt, AV.cells, AV.one, astore, aload, loadCs, callArgs, abin, abinInt, aapp, elems, appMore, appNone, preLen, aFa, aFld, apart, aExt, aPick, aNot, aLens, aEqa, cellsK, fitsA, LK.fitsA, leavesA, leafA, nilD, aNilc, aCint, aCid, alive, alen, alenOk, Rle, lePs, len_flat, Kc, h, h2, cmpI]
    · simp (maxSteps := 3000000) [-List.length_flatten, -List.map_drop, -List.map_take, Function.comp_def, argsT, Opd.ev, Tm.get, put, ares, mapMo, ares1, snilP, bldParts, bslParts, putAt, AV.cells, AV.one, astore, aload, loadCs, callArgs, abin, abinInt, aapp, elems, appMore, appNone, preLen, aFa, aFld, apart, aExt, aPick, aNot, aLens, aEqa, cellsK, fitsA, LK.fitsA, leavesA, leafA, nilD, aNilc, aCint, aCid, alive, alen, alenOk, Rle, lePs, len_flat, Kc, h, h2, cmpI]
def orI (x y : Int) : Int := if x ≠ 0 then x else y
theorem or37_PF (x y : Int) : PF Try.prog 37 [.rows true 1 [[i64 x], [i64 y]]] (i64 (orI x y)) := by
  refine PFk 9 hm Try.func37 c37_ok (Nat.le_of_ble_eq_true rfl) (by simp) (by simp) ?_
  simp (maxSteps := 3000000) [-List.length_flatten, -List.map_drop, -List.map_take, Function.comp_def, argsT, Opd.ev, Tm.get, put, ares, mapMo, ares1, snilP, bldParts, bslParts, putAt, AV.cells, AV.one, astore, aload, loadCs, callArgs, abin, abinInt, aapp, elems, appMore, appNone, preLen, aFa, aFld, apart, aExt, aPick, aNot, aLens, aEqa, cellsK, fitsA, LK.fitsA, leavesA, leafA, nilD, aNilc, aCint, aCid, alive, alen, alenOk, Rle, lePs, len_flat, c37]
  intro _
  refine run_countK 2 8 [(7, i64 2), (6, .rows true 1 [[i64 x], [i64 y]]), (3, i64 0)] [] (fun i => (1 ≤ i → x = 0) ∧ (2 ≤ i → y = 0)) (Wk.sub (by simp [Tm.get])) ⟨fun h => by omega, fun h => by omega⟩ ?_
  intro i hi hf KK kx kr kn
  have hi3 : i = 0 ∨ i = 1 ∨ i = 2 := by omega
  rcases hi3 with rfl | rfl | rfl
  · by_cases h : x = 0
    · simp (maxSteps := 3000000) [-List.length_flatten, -List.map_drop, -List.map_take, Function.comp_def, argsT, Opd.ev, Tm.get, put, ares, mapMo, ares1, snilP, bldParts, bslParts, putAt, AV.cells, AV.one, astore, aload, loadCs, callArgs, abin, abinInt, aapp, elems, appMore, appNone, preLen, aFa, aFld, apart, aExt, aPick, aNot, aLens, aEqa, cellsK, fitsA, LK.fitsA, leavesA, leafA, nilD, aNilc, aCint, aCid, alive, alen, alenOk, Rle, lePs, len_flat, h, aIa, aindex]
      exact kn _ _ (Kn_next 0 (by omega) (by omega) ⟨fun _ => h, fun h => by omega⟩ (by simp [Tm.get, h, show IntKind.i64.wrap 1 = 1 from w64 (by omega) (by omega)]) (by simp) rfl (by simp))
    · simp (maxSteps := 3000000) [-List.length_flatten, -List.map_drop, -List.map_take, Function.comp_def, argsT, Opd.ev, Tm.get, put, ares, mapMo, ares1, snilP, bldParts, bslParts, putAt, AV.cells, AV.one, astore, aload, loadCs, callArgs, abin, abinInt, aapp, elems, appMore, appNone, preLen, aFa, aFld, apart, aExt, aPick, aNot, aLens, aEqa, cellsK, fitsA, LK.fitsA, leavesA, leafA, nilD, aNilc, aCint, aCid, alive, alen, alenOk, Rle, lePs, len_flat, h, kr, orI, aIa, aindex]
  · have hx := hf.1 (by omega)
    by_cases h : y = 0
    · simp (maxSteps := 3000000) [-List.length_flatten, -List.map_drop, -List.map_take, Function.comp_def, argsT, Opd.ev, Tm.get, put, ares, mapMo, ares1, snilP, bldParts, bslParts, putAt, AV.cells, AV.one, astore, aload, loadCs, callArgs, abin, abinInt, aapp, elems, appMore, appNone, preLen, aFa, aFld, apart, aExt, aPick, aNot, aLens, aEqa, cellsK, fitsA, LK.fitsA, leavesA, leafA, nilD, aNilc, aCint, aCid, alive, alen, alenOk, Rle, lePs, len_flat, h, aIa, aindex]
      exact kn _ _ (Kn_next 0 (by omega) (by omega) ⟨fun _ => hx, fun _ => h⟩ (by simp [Tm.get, h, hx, show IntKind.i64.wrap 2 = 2 from w64 (by omega) (by omega)]) (by simp) rfl (by simp))
    · simp (maxSteps := 3000000) [-List.length_flatten, -List.map_drop, -List.map_take, Function.comp_def, argsT, Opd.ev, Tm.get, put, ares, mapMo, ares1, snilP, bldParts, bslParts, putAt, AV.cells, AV.one, astore, aload, loadCs, callArgs, abin, abinInt, aapp, elems, appMore, appNone, preLen, aFa, aFld, apart, aExt, aPick, aNot, aLens, aEqa, cellsK, fitsA, LK.fitsA, leavesA, leafA, nilD, aNilc, aCint, aCid, alive, alen, alenOk, Rle, lePs, len_flat, h, kr, orI, hx, aIa, aindex]
  · have hx := hf.1 (by omega)
    have hy := hf.2 (by omega)
    simp (maxSteps := 3000000) [-List.length_flatten, -List.map_drop, -List.map_take, Function.comp_def, argsT, Opd.ev, Tm.get, put, ares, mapMo, ares1, snilP, bldParts, bslParts, putAt, AV.cells, AV.one, astore, aload, loadCs, callArgs, abin, abinInt, aapp, elems, appMore, appNone, preLen, aFa, aFld, apart, aExt, aPick, aNot, aLens, aEqa, cellsK, fitsA, LK.fitsA, leavesA, leafA, nilD, aNilc, aCint, aCid, alive, alen, alenOk, Rle, lePs, len_flat, kx, orI, hx, hy]
def cmpP (p q : Int × Int) : Int := orI (cmpI p.1 q.1) (cmpI p.2 q.2)
theorem ord36_PF (p q : Int × Int) : PF Try.prog 36 [.agg [i64 p.1, i64 p.2], .agg [i64 q.1, i64 q.2]] (i64 (cmpP p q)) := by
  refine PFk 9 hm Try.func36 c36_ok (Nat.le_of_ble_eq_true rfl) (by simp) (by simp) ?_
  simp (maxSteps := 3000000) [-List.length_flatten, -List.map_drop, -List.map_take, Function.comp_def, argsT, Opd.ev, Tm.get, put, ares, mapMo, ares1, snilP, bldParts, bslParts, putAt, AV.cells, AV.one, astore, aload, loadCs, callArgs, abin, abinInt, aapp, elems, appMore, appNone, preLen, aFa, aFld, apart, aExt, aPick, aNot, aLens, aEqa, cellsK, fitsA, LK.fitsA, leavesA, leafA, nilD, aNilc, aCint, aCid, alive, alen, alenOk, Rle, lePs, len_flat, c36, aIarr]
  refine ⟨_, cmp38_PF p.1 q.1, ?_⟩
  simp (maxSteps := 3000000) [-List.length_flatten, -List.map_drop, -List.map_take, Function.comp_def, argsT, Opd.ev, Tm.get, put, ares, mapMo, ares1, snilP, bldParts, bslParts, putAt, AV.cells, AV.one, astore, aload, loadCs, callArgs, abin, abinInt, aapp, elems, appMore, appNone, preLen, aFa, aFld, apart, aExt, aPick, aNot, aLens, aEqa, cellsK, fitsA, LK.fitsA, leavesA, leafA, nilD, aNilc, aCint, aCid, alive, alen, alenOk, Rle, lePs, len_flat, Kc, aIarr]
  refine ⟨_, cmp38_PF p.2 q.2, ?_⟩
  simp (maxSteps := 3000000) [-List.length_flatten, -List.map_drop, -List.map_take, Function.comp_def, argsT, Opd.ev, Tm.get, put, ares, mapMo, ares1, snilP, bldParts, bslParts, putAt, AV.cells, AV.one, astore, aload, loadCs, callArgs, abin, abinInt, aapp, elems, appMore, appNone, preLen, aFa, aFld, apart, aExt, aPick, aNot, aLens, aEqa, cellsK, fitsA, LK.fitsA, leavesA, leafA, nilD, aNilc, aCint, aCid, alive, alen, alenOk, Rle, lePs, len_flat, Kc, aIarr]
  refine ⟨_, or37_PF _ _, ?_⟩
  simp (maxSteps := 3000000) [-List.length_flatten, -List.map_drop, -List.map_take, Function.comp_def, argsT, Opd.ev, Tm.get, put, ares, mapMo, ares1, snilP, bldParts, bslParts, putAt, AV.cells, AV.one, astore, aload, loadCs, callArgs, abin, abinInt, aapp, elems, appMore, appNone, preLen, aFa, aFld, apart, aExt, aPick, aNot, aLens, aEqa, cellsK, fitsA, LK.fitsA, leavesA, leafA, nilD, aNilc, aCint, aCid, alive, alen, alenOk, Rle, lePs, len_flat, Kc, cmpP]
theorem call39 : Callable Try.prog 39 := ⟨Try.f39, rfl, rfl, by kernel_rfl⟩
theorem call36 : Callable Try.prog 36 := ⟨Try.f36, rfl, rfl, by kernel_rfl⟩
end Go.AM

namespace Go.Proofs
open Go.Shelf
def Try.laysF39_ren : Go.Shelf.Ren := ⟨fun | 6 => 39 | 15 => 59 | 14 => 58 | 28 => 75 | 29 => 76 | 20 => 67 | 21 => 68 | 22 => 69 | 23 => 70 | 24 => 71 | 25 => 72 | 26 => 73 | 27 => 74 | 46 => 78 | 47 => 79 | 48 => 80 | 49 => 81 | 50 => 82 | 57 => 83 | n => n, fun | 22 => 31 | 24 => 37 | 25 => 85 | 3 => 3 | 39 => 99 | 0 => 0 | 53 => 89 | 55 => 100 | 4 => 4 | 46 => 108 | 45 => 107 | 50 => 112 | 5 => 5 | 9 => 9 | 66 => 116 | 70 => 120 | 76 => 122 | 77 => 123 | n => n, fun | n => n⟩
theorem Try.laysF39 : Go.Proofs.SlLaysF0.n6 Try.prog Try.laysF39_ren := {
  mixed := by kernel_rfl
  f6 := ⟨Try.f39.name, by decide, Try.func39.trans (congrArg some (by kernel_rfl))⟩
  f14 := ⟨Try.f58.name, by decide, Try.func58.trans (congrArg some (by kernel_rfl))⟩
  f15 := Try.func59.trans (congrArg some (by kernel_rfl))
  f20 := ⟨Try.f67.name, by decide, Try.func67.trans (congrArg some (by kernel_rfl))⟩
  f21 := ⟨Try.f68.name, by decide, Try.func68.trans (congrArg some (by kernel_rfl))⟩
  f22 := ⟨Try.f69.name, by decide, Try.func69.trans (congrArg some (by kernel_rfl))⟩
  f23 := ⟨Try.f70.name, by decide, Try.func70.trans (congrArg some (by kernel_rfl))⟩
  f24 := ⟨Try.f71.name, by decide, Try.func71.trans (congrArg some (by kernel_rfl))⟩
  f25 := ⟨Try.f72.name, by decide, Try.func72.trans (congrArg some (by kernel_rfl))⟩
  f26 := ⟨Try.f73.name, by decide, Try.func73.trans (congrArg some (by kernel_rfl))⟩
  f27 := ⟨Try.f74.name, by decide, Try.func74.trans (congrArg some (by kernel_rfl))⟩
  f28 := Try.func75.trans (congrArg some (by kernel_rfl))
  f29 := Try.func76.trans (congrArg some (by kernel_rfl))
  f46 := ⟨Try.f78.name, by decide, Try.func78.trans (congrArg some (by kernel_rfl))⟩
  f47 := Try.func79.trans (congrArg some (by kernel_rfl))
  f48 := Try.func80.trans (congrArg some (by kernel_rfl))
  f49 := ⟨Try.f81.name, by decide, Try.func81.trans (congrArg some (by kernel_rfl))⟩
  f50 := ⟨Try.f82.name, by decide, Try.func82.trans (congrArg some (by kernel_rfl))⟩
  f57 := ⟨Try.f83.name, by decide, Try.func83.trans (congrArg some (by kernel_rfl))⟩
  t0 := Try.underlying0
  a0 := Try.isAgg0
  z0 := Try.sizeOf0
  v0 := Try.zeroValue0
  t3 := Try.underlying3
  a3 := Try.isAgg3
  z3 := Try.sizeOf3
  v3 := Try.zeroValue3
  t4 := Try.underlying4
  a4 := Try.isAgg4
  z4 := Try.sizeOf4
  v4 := Try.zeroValue4
  t5 := Try.underlying5
  a5 := Try.isAgg5
  z5 := Try.sizeOf5
  v5 := Try.zeroValue5
  t9 := Try.underlying9
  a9 := Try.isAgg9
  z9 := Try.sizeOf9
  v9 := Try.zeroValue9
  t22 := Try.underlying31
  a22 := Try.isAgg31
  z22 := Try.sizeOf31
  v22 := Try.zeroValue31
  t25 := Try.underlying85
  a25 := Try.isAgg85
  z25 := Try.sizeOf85
  v25 := Try.zeroValue85
  t39 := Try.underlying99
  a39 := Try.isAgg99
  z39 := Try.sizeOf99
  v39 := Try.zeroValue99
  t45 := Try.underlying107
  a45 := Try.isAgg107
  z45 := Try.sizeOf107
  v45 := Try.zeroValue107
  t46 := Try.underlying108
  a46 := Try.isAgg108
  z46 := Try.sizeOf108
  v46 := Try.zeroValue108
  t50 := Try.underlying112
  a50 := Try.isAgg112
  z50 := Try.sizeOf112
  v50 := Try.zeroValue112
  t53 := Try.underlying89
  a53 := Try.isAgg89
  z53 := Try.sizeOf89
  v53 := Try.zeroValue89
  t55 := Try.underlying100
  a55 := Try.isAgg100
  z55 := Try.sizeOf100
  v55 := Try.zeroValue100
  t66 := Try.underlying116
  a66 := Try.isAgg116
  z66 := Try.sizeOf116
  v66 := Try.zeroValue116
  t70 := Try.underlying120
  a70 := Try.isAgg120
  z70 := Try.sizeOf120
  v70 := Try.zeroValue120
  t76 := Try.underlying122
  a76 := Try.isAgg122
  z76 := Try.sizeOf122
  v76 := Try.zeroValue122
  t77 := Try.underlying123
  a77 := Try.isAgg123
  z77 := Try.sizeOf123
  v77 := Try.zeroValue123 }
open Go.RowKit Go.Lib Go.Sort in
theorem Try.sortFunc {α : Type} [Inhabited α] (k : Nat) (aE : ∀ w, (isAgg (Try.laysF39_ren.t 24)).run Try.prog w = .ok true w) (zE : ∀ w, (Go.sizeOf (Try.laysF39_ren.t 24)).run Try.prog w = .ok k w) (enc : α → List Value) (hk : ∀ x, (enc x).length = k) (h1 : ∀ x, ∀ v ∈ enc x, v.oneCell' = true) (cf : α → α → Int) (hO : SWO (ltOf cf)) (g : Nat) (cb : Array Value) (blk off cap : Nat) (d : Array α) (w : World)
    (eg : ∀ args w, (callFunc g args).run Try.prog w = .ok (.enter g args) w) (hcmp : CmpLays Try.prog g cb enc k cf blk off d.size w) (hH : HoldsK enc k w blk off d) (hblk : blk < w.heap.size) (hsz : d.size < 4611686018427387904) :
    Calls Try.prog 39 #[.slice (some ⟨blk, off, none⟩) d.size cap, .func (.func g) #[] cb] w fun e w' =>
      e = .returned (.tuple #[]) ∧ ∃ d' n os, PermIn 0 d.size d d' ∧ SortedIn (ltOf cf) 0 d.size d' ∧ w' = sortWorldK enc k w blk off n d' os := AnyQ.slices_SortFunc Try.laysF39 k aE zE enc hk h1 cf hO g cb blk off cap d w eg hcmp hH hblk hsz
end Go.Proofs

namespace Go.AM
open Go.Proofs
set_option maxRecDepth 100000
set_option linter.unusedVariables false
set_option linter.unusedSimpArgs false
/-! ### Sorting pairs, in their place -/
theorem cmpP_lt (p q : Int × Int) : cmpP p q < 0 ↔ p.1 < q.1 ∨ (p.1 = q.1 ∧ p.2 < q.2) := by
  unfold cmpP orI cmpI
  split <;> (repeat' split) <;> omega
theorem lt_iff (p q : Int × Int) : Go.Proofs.ltOf cmpP p q = true ↔ p.1 < q.1 ∨ (p.1 = q.1 ∧ p.2 < q.2) := by
  unfold Go.Proofs.ltOf
  rw [decide_eq_true_iff, cmpP_lt]
theorem lt_iff' (p q : Int × Int) : Go.Proofs.ltOf cmpP p q = false ↔ ¬ (p.1 < q.1 ∨ (p.1 = q.1 ∧ p.2 < q.2)) := by
  rw [← lt_iff]
  simp
theorem swo : Go.Sort.SWO (Go.Proofs.ltOf cmpP) := by
  refine ⟨fun x => ?_, fun x y z h1 h2 => ?_, fun x y z h1 h2 => ?_⟩
  · rw [lt_iff']; omega
  · rw [lt_iff] at *; omega
  · rw [lt_iff'] at *; omega
theorem callFunc_run {P : Program} {g : FuncId} (hc : Callable P g) (args : Array Value) (w : World) : (callFunc g args).run P w = .ok (.enter g args) w := by
  obtain ⟨fn, h1, h2, h3⟩ := hc
  have h4 : ¬ fn.body = none := by cases hb : fn.body <;> simp_all
  have h5 : ¬ fn.name = "runtime.NumGoroutine" := by simpa using h3
  simp [callFunc, h1]
  rw [if_neg h5, if_neg h4]
theorem agg37 (w : World) : (isAgg 37).run Try.prog w = .ok true w := by kernel_rfl
theorem size37 (w : World) : (Go.sizeOf 37).run Try.prog w = .ok 2 w := by kernel_rfl
theorem sort39_FT {H : AHeap} {k g : Nat} {l : List (Int × Int)} (h0 : 0 < l.length) (h : H[k]? = some (.cells g (l.map prA).flatten)) :
    FT Try.prog 39 [.loc k g 0 l.length 2 false, .fn (.func 36) [] []] H fun rv H' => rv = .tuple [] ∧ ∃ l' : List (Int × Int), l'.Perm l ∧ (∀ i j : Nat, i < j → j < l'.length → Go.Proofs.ltOf cmpP l'[j]! l'[i]! = false) ∧ H' = H.set k (.cells g (l'.map prA).flatten) :=
  sortP_FT call39 ord36_PF (fun blk off cap d w hc hH hb hs => Try.sortFunc 2 agg37 size37 prV (fun _ => rfl) (fun x v hv => by
    simp only [prV, List.mem_cons, List.not_mem_nil, or_false] at hv
    rcases hv with rfl | rfl <;> rfl) cmpP swo 36 #[] blk off cap d w (callFunc_run call36) hc hH hb hs) h0 h
end Go.AM

namespace Go.AM
open Go.Proofs
set_option maxRecDepth 100000
set_option linter.unusedVariables false
set_option linter.unusedSimpArgs false
/-! ### All pairs to which one comes -/
abbrev Pr := Int × Int
def ltP (p q : Pr) : Prop := p.1 < q.1 ∨ (p.1 = q.1 ∧ p.2 < q.2)
instance (p q : Pr) : Decidable (ltP p q) := by unfold ltP; infer_instance
theorem ltP_irr (p : Pr) : ¬ ltP p p := by unfold ltP; omega
theorem ltP_trans {p q r : Pr} (h : ltP p q) (k : ltP q r) : ltP p r := by unfold ltP at *; omega
theorem ltP_tot {p q : Pr} (h : ¬ ltP p q) (hn : p ≠ q) : ltP q p := by
  unfold ltP at *
  have : ¬ (p.1 = q.1 ∧ p.2 = q.2) := fun e => hn (Prod.ext e.1 e.2)
  omega
/-- A pair laid in a rising row. -/
def layP : List Pr → Pr → List Pr
  | [], p => [p]
  | q :: l, p => if ltP q p then q :: layP l p else if q = p then q :: l else p :: q :: l
theorem layP_split : ∀ (l : List Pr) (p : Pr) (k : Nat), k ≤ l.length → (∀ i : Nat, i < k → ltP (gi l i) p) → (k < l.length → ¬ ltP (gi l k) p) →
    layP l p = l.take k ++ ((if k = l.length ∨ gi l k ≠ p then [p] else []) ++ l.drop k)
  | [], p, k, hk, _, _ => by
    have : k = 0 := by simpa using hk
    subst this
    simp [layP]
  | q :: l, p, 0, hk, h1, h2 => by
    have hq : ¬ ltP q p := by simpa [gi] using h2 (by simp)
    rw [layP, if_neg hq]
    by_cases e : q = p
    · simp [e, gi]
    · simp [e, gi]
  | q :: l, p, k + 1, hk, h1, h2 => by
    have hq : ltP q p := by simpa [gi] using h1 0 (by omega)
    have hgi : ∀ i : Nat, gi (q :: l) ((i + 1 : Nat) : Int) = gi l i := fun i => by simp [gi, List.getD]
    rw [layP, if_pos hq, layP_split l p k (by simpa using hk) (fun i hi => by rw [← hgi]; exact h1 (i + 1) (by omega)) (fun hl => by rw [← hgi]; exact h2 (by simpa using hl))]
    rw [hgi]
    simp
theorem mem_layP {l : List Pr} {p x : Pr} : x ∈ layP l p ↔ x ∈ l ∨ x = p := by
  induction l with
  | nil => simp [layP]
  | cons q l ih =>
    rw [layP]
    split
    · simp [ih, or_assoc]
    · split
      · rename_i h
        subst h
        rw [List.mem_cons]
        constructor
        · exact .inl
        · rintro (h | h)
          · exact h
          · exact .inl h
      · simp [or_comm, or_left_comm, or_assoc]
theorem layP_rise {l : List Pr} {p : Pr} (h : l.Pairwise ltP) : (layP l p).Pairwise ltP := by
  induction l with
  | nil => simp [layP]
  | cons q l ih =>
    rw [List.pairwise_cons] at h
    rw [layP]
    split
    · rename_i hq
      rw [List.pairwise_cons]
      refine ⟨fun x hx => ?_, ih h.2⟩
      rcases mem_layP.1 hx with hx | rfl
      · exact h.1 x hx
      · exact hq
    · split
      · exact List.pairwise_cons.2 h
      · rename_i h1 h2
        have hpq := ltP_tot h1 h2
        rw [List.pairwise_cons]
        refine ⟨fun x hx => ?_, List.pairwise_cons.2 h⟩
        rcases List.mem_cons.1 hx with rfl | hx
        · exact hpq
        · exact ltP_trans hpq (h.1 x hx)
/-- A row, sorted. -/
def srt (l : List Pr) : List Pr := l.foldl layP []
theorem srt_next {l : List Pr} {i : Nat} (h : i < l.length) : srt (l.take (i + 1)) = layP (srt (l.take i)) (gi l i) := by
  unfold srt
  have e : gi l i = l[i] := by simp [gi, List.getD, h]
  rw [List.take_add_one, List.getElem?_eq_getElem h, e, List.foldl_append]
  rfl
theorem srt_app (l : List Pr) (p : Pr) : srt (l ++ [p]) = layP (srt l) p := by simp [srt, List.foldl_append]
theorem srt_spec : ∀ (l b : List Pr), b.Pairwise ltP → (l.foldl layP b).Pairwise ltP ∧ ∀ x, x ∈ l.foldl layP b ↔ x ∈ b ∨ x ∈ l
  | [], b, h => by simp [h]
  | p :: l, b, h => by
    obtain ⟨h1, h2⟩ := srt_spec l (layP b p) (layP_rise h)
    refine ⟨h1, fun x => ?_⟩
    rw [List.foldl_cons, h2, mem_layP]
    simp [or_assoc]
theorem srt_rise (l : List Pr) : (srt l).Pairwise ltP := (srt_spec l [] .nil).1
theorem mem_srt {l : List Pr} {x : Pr} : x ∈ srt l ↔ x ∈ l := by
  unfold srt
  rw [(srt_spec l [] .nil).2]
  simp
theorem rise_eq : ∀ {l m : List Pr}, l.Pairwise ltP → m.Pairwise ltP → (∀ x, x ∈ l ↔ x ∈ m) → l = m
  | [], [], _, _, _ => rfl
  | [], b :: m, _, _, h => by have := (h b).2 (by simp); cases this
  | a :: l, [], _, _, h => by have := (h a).1 (by simp); cases this
  | a :: l, b :: m, h1, h2, h => by
    rw [List.pairwise_cons] at h1 h2
    have hab : a = b := by
      rcases List.mem_cons.1 ((h a).1 (by simp)) with e | e
      · exact e
      · rcases List.mem_cons.1 ((h b).2 (by simp)) with e' | e'
        · exact e'.symm
        · exact absurd (ltP_trans (h2.1 a e) (h1.1 b e')) (ltP_irr b)
    subst hab
    rw [rise_eq h1.2 h2.2 (fun x => ?_)]
    constructor
    · intro hx
      rcases List.mem_cons.1 ((h x).1 (by simp [hx])) with rfl | hm
      · exact absurd (h1.1 x hx) (ltP_irr x)
      · exact hm
    · intro hx
      rcases List.mem_cons.1 ((h x).2 (by simp [hx])) with rfl | hm
      · exact absurd (h2.1 x hx) (ltP_irr x)
      · exact hm
theorem sorted_srt {l l' : List Pr} (hn : l.Nodup) (hp : l'.Perm l) (hs : ∀ i j : Nat, i < j → j < l'.length → ¬ ltP l'[j]! l'[i]!) : l' = srt l := by
  refine rise_eq ?_ (srt_rise l) fun x => by rw [mem_srt]; exact hp.mem_iff
  have hn' : l'.Nodup := hp.nodup_iff.2 hn
  rw [List.pairwise_iff_getElem]
  intro i j hi hj hij
  have h1 := hs i j hij hj
  rw [getElem!_pos l' j hj, getElem!_pos l' i hi] at h1
  refine ltP_tot h1 fun e => ?_
  have := (List.getElem_inj (h₀ := hj) (h₁ := hi) hn').1 e
  omega
/-! Reaching -/
section
variable (S : Pr → Int × List Pr) (x : Pr)
def insP (o : List Pr) (q : Pr) : List Pr := if q ∈ o then o else o ++ [q]
def growP (o ps : List Pr) : List Pr := ps.foldl insP o
def iterP : Nat → List Pr
  | 0 => [x]
  | i + 1 => if i < (iterP i).length then growP (iterP i) (S (gi (iterP i) i)).2 else iterP i
theorem insP_nd {o : List Pr} {q : Pr} (h : o.Nodup) : (insP o q).Nodup := by
  unfold insP
  split
  · exact h
  · rename_i hn
    rw [List.nodup_append]
    exact ⟨h, by simp, fun a ha b hb => by simp at hb; subst hb; exact fun e => hn (e ▸ ha)⟩
theorem growP_nd : ∀ (ps : List Pr) {o : List Pr}, o.Nodup → (growP o ps).Nodup
  | [], _, h => h
  | p :: ps, _, h => growP_nd ps (insP_nd h)
theorem growP_next {o ps : List Pr} {j : Nat} (h : j < ps.length) : growP o (ps.take (j + 1)) = insP (growP o (ps.take j)) (gi ps j) := by
  unfold growP
  have e : gi ps j = ps[j] := by simp [gi, List.getD, h]
  rw [List.take_add_one, List.getElem?_eq_getElem h, e, List.foldl_append]
  rfl
theorem insP_pre (o : List Pr) (q : Pr) : ∃ t, insP o q = o ++ t ∧ ∀ y ∈ t, y = q := by
  unfold insP
  split
  · exact ⟨[], by simp, by simp⟩
  · exact ⟨[q], rfl, by simp⟩
theorem growP_pre : ∀ (ps o : List Pr), ∃ t, growP o ps = o ++ t ∧ ∀ y ∈ t, y ∈ ps
  | [], o => ⟨[], by simp [growP], by simp⟩
  | p :: ps, o => by
    obtain ⟨t1, h1, k1⟩ := insP_pre o p
    obtain ⟨t2, h2, k2⟩ := growP_pre ps (insP o p)
    refine ⟨t1 ++ t2, ?_, fun y hy => ?_⟩
    · show growP (insP o p) ps = _
      rw [h2, h1, List.append_assoc]
    · rcases List.mem_append.1 hy with hy | hy
      · simp [k1 y hy]
      · simp [k2 y hy]
theorem mem_growP : ∀ {ps o : List Pr} {y : Pr}, y ∈ growP o ps ↔ y ∈ o ∨ y ∈ ps
  | [], o, y => by simp [growP]
  | p :: ps, o, y => by
    show y ∈ growP (insP o p) ps ↔ _
    rw [mem_growP]
    unfold insP
    split
    · rename_i h
      constructor
      · rintro (h1 | h1)
        · exact .inl h1
        · exact .inr (by simp [h1])
      · rintro (h1 | h1)
        · exact .inl h1
        · rcases List.mem_cons.1 h1 with rfl | h1
          · exact .inl h
          · exact .inr h1
    · simp [or_assoc]
theorem iterP_nd : ∀ i, (iterP S x i).Nodup
  | 0 => by simp [iterP]
  | i + 1 => by
    rw [iterP]
    split
    · exact growP_nd _ (iterP_nd i)
    · exact iterP_nd i
theorem iterP_pre (i : Nat) : ∃ t, iterP S x (i + 1) = iterP S x i ++ t := by
  rw [iterP]
  split
  · obtain ⟨t, h, _⟩ := growP_pre (S (gi (iterP S x i) i)).2 (iterP S x i)
    exact ⟨t, h⟩
  · exact ⟨[], by simp⟩
theorem iterP_mem : ∀ (i : Nat) (y : Pr), y ∈ iterP S x i → y = x ∨ ∃ q, y ∈ (S q).2
  | 0, y, h => by simp [iterP] at h; exact .inl h
  | i + 1, y, h => by
    rw [iterP] at h
    split at h
    · rcases mem_growP.1 h with h | h
      · exact iterP_mem i y h
      · exact .inr ⟨_, h⟩
    · exact iterP_mem i y h
theorem iterP_stop {i : Nat} (h : (iterP S x i).length ≤ i) : ∀ j, i ≤ j → iterP S x j = iterP S x i
  | 0, hj => by
    have : i = 0 := by omega
    subst this
    rfl
  | j + 1, hj => by
    by_cases e : i = j + 1
    · rw [e]
    · have ih := iterP_stop h j (by omega)
      rw [iterP, ih, if_neg (by omega)]
end
theorem pigeon : ∀ (N : Nat) (l : List Nat), l.Nodup → (∀ a ∈ l, a < N) → l.length ≤ N
  | 0, l, h, ha => by
    cases l with
    | nil => simp
    | cons a l => have := ha a (by simp); omega
  | N + 1, l, h, ha => by
    by_cases hm : N ∈ l
    · have h1 := pigeon N (l.erase N) (h.erase N) (fun a hq => by
        have h2 := (h.mem_erase_iff (a := a) (b := N)).1 hq
        have := ha a h2.2
        have := h2.1
        omega)
      rw [List.length_erase_of_mem hm] at h1
      omega
    · have := pigeon N l h (fun a hq => by
        have := ha a hq
        have : a ≠ N := fun e => hm (e ▸ hq)
        omega)
      omega
theorem nodup_map {α β : Type} {f : α → β} : ∀ {l : List α}, l.Nodup → (∀ x ∈ l, ∀ y ∈ l, f x = f y → x = y) → (l.map f).Nodup
  | [], _, _ => by simp
  | a :: l, h, hf => by
    rw [List.nodup_cons] at h
    rw [List.map_cons, List.nodup_cons]
    refine ⟨fun hm => ?_, nodup_map h.2 fun x hx y hy => hf x (by simp [hx]) y (by simp [hy])⟩
    obtain ⟨b, hb, he⟩ := List.mem_map.1 hm
    exact h.1 (hf b (by simp [hb]) a (by simp) he ▸ hb)
theorem few_pairs {l : List Pr} {x : Pr} (hn : l.Nodup) {n : Nat} (h100 : n ≤ 100) (h : ∀ y ∈ l, y = x ∨ ((0 ≤ y.1 ∧ y.1 < n) ∧ 0 ≤ y.2 ∧ y.2 < n)) : l.length ≤ 10001 := by
  have h1 : (l.erase x).length ≤ 10000 := by
    have hnd := hn.erase x
    have hin : ∀ y ∈ l.erase x, (0 ≤ y.1 ∧ y.1 < n) ∧ 0 ≤ y.2 ∧ y.2 < n := fun y hy => by
      obtain ⟨e1, e2⟩ := (hn.mem_erase_iff (a := y) (b := x)).1 hy
      exact (h y e2).resolve_left e1
    have := pigeon 10000 ((l.erase x).map fun y => y.1.toNat * 100 + y.2.toNat) (nodup_map hnd fun a ha b hb he => by
      obtain ⟨⟨a1, a2⟩, a3, a4⟩ := hin a ha
      obtain ⟨⟨b1, b2⟩, b3, b4⟩ := hin b hb
      exact Prod.ext (by omega) (by omega)) (fun a ha => by
      obtain ⟨y, hy, rfl⟩ := List.mem_map.1 ha
      obtain ⟨⟨a1, a2⟩, a3, a4⟩ := hin y hy
      omega)
    simpa using this
  by_cases hm : x ∈ l
  · rw [List.length_erase_of_mem hm] at h1
    omega
  · rw [List.erase_of_not_mem hm] at h1
    omega
end Go.AM

namespace Go.AM
open Go.Proofs
set_option maxRecDepth 100000
set_option linter.unusedVariables false
set_option linter.unusedSimpArgs false
/-! ### What is reached, whole -/
inductive Reach (S : Pr → Int × List Pr) : Pr → Pr → Prop where
  | refl (p : Pr) : Reach S p p
  | step {p q r : Pr} (h : Reach S p q) (hr : r ∈ (S q).2) : Reach S p r
theorem Reach.trans {S : Pr → Int × List Pr} {p q r : Pr} (h : Reach S p q) (k : Reach S q r) : Reach S p r := by
  induction k with
  | refl => exact h
  | step _ hr ih => exact .step ih hr
theorem Reach.cases' {S : Pr → Int × List Pr} {p r : Pr} (h : Reach S p r) : r = p ∨ ∃ q ∈ (S p).2, Reach S q r := by
  induction h with
  | refl => exact .inl rfl
  | step h hr ih =>
    rename_i q r
    rcases ih with rfl | ⟨q', h1, h2⟩
    · exact .inr ⟨_, hr, .refl _⟩
    · exact .inr ⟨q', h1, .step h2 hr⟩
section
variable {S : Pr → Int × List Pr} {x : Pr}
theorem iterP_reach : ∀ (i : Nat) (y : Pr), y ∈ iterP S x i → Reach S x y
  | 0, y, h => by
    simp [iterP] at h
    subst h
    exact .refl _
  | i + 1, y, h => by
    rw [iterP] at h
    split at h
    · rename_i hi
      rcases mem_growP.1 h with h | h
      · exact iterP_reach i y h
      · refine .step (iterP_reach i _ ?_) h
        have e : gi (iterP S x i) i = (iterP S x i)[i] := by simp [gi, List.getD, hi]
        rw [e]
        exact List.getElem_mem hi
    · exact iterP_reach i y h
theorem gi_pre {o t : List Pr} {j : Nat} (h : j < o.length) : gi (o ++ t) j = gi o j := by
  simp [gi, List.getD, h, List.getElem?_append_left h]
theorem iterP_closed : ∀ (i j : Nat), j < i → j < (iterP S x i).length → ∀ y ∈ (S (gi (iterP S x i) j)).2, y ∈ iterP S x i
  | i + 1, j, hj, hl, y, hy => by
    obtain ⟨t, ht⟩ := iterP_pre S x i
    by_cases hi : i < (iterP S x i).length
    · have hjl : j < (iterP S x i).length := by omega
      rw [ht, gi_pre hjl] at hy
      by_cases e : j = i
      · subst e
        rw [iterP, if_pos hi]
        exact mem_growP.2 (.inr hy)
      · rw [ht]
        exact List.mem_append_left _ (iterP_closed i j (by omega) hjl y hy)
    · have e : iterP S x (i + 1) = iterP S x i := by rw [iterP, if_neg hi]
      rw [e] at hl hy ⊢
      exact iterP_closed i j (by omega) hl y hy
theorem iterP_whole {N : Nat} (h : (iterP S x N).length ≤ N) (y : Pr) : y ∈ iterP S x N ↔ Reach S x y := by
  refine ⟨iterP_reach N y, fun hr => ?_⟩
  induction hr with
  | refl =>
    have : ∀ i, x ∈ iterP S x i := fun i => by
      induction i with
      | zero => simp [iterP]
      | succ i ih =>
        obtain ⟨t, ht⟩ := iterP_pre S x i
        rw [ht]
        exact List.mem_append_left _ ih
    exact this N
  | step _ hr ih =>
    obtain ⟨j, hj, e⟩ := List.getElem_of_mem ih
    have e' : gi (iterP S x N) j = (iterP S x N)[j] := by simp [gi, List.getD, hj]
    exact iterP_closed N j (by omega) hj _ (by rw [e', e]; exact hr)
theorem iterP_len (i : Nat) : (iterP S x i).length ≤ (iterP S x (i + 1)).length := by
  obtain ⟨t, ht⟩ := iterP_pre S x i
  rw [ht]
  simp
end
/-- All that is reached from a pair, of a kind, in order. -/
abbrev Sp (l : List Sg) (a : Kd) (p : Pr) : Int × List Pr := stepOf l a p.1 p.2
theorem many_is : ∃ n : Nat, n = 10001 := ⟨10001, rfl⟩
noncomputable def many : Nat := Classical.choose many_is
theorem many_eq : many = 10001 := Classical.choose_spec many_is
noncomputable def allP (l : List Sg) (a : Kd) (x : Pr) : List Pr := iterP (Sp l a) x many
def kinds (l : List Sg) (a : Kd) (k : Int) (o : List Pr) : List Pr := o.filter fun p => decide ((Sp l a p).1 = k)
noncomputable def foundP (l : List Sg) (a : Kd) (k : Int) (x : Pr) : List Pr := srt (kinds l a k (allP l a x))
section
variable {l : List Sg} {a : Kd} (hF : Fine l a) (h100 : a.keys.length ≤ 100)
include hF h100
theorem all_in {x : Pr} {o : List Pr} (ho : o.Nodup) (h : ∀ y ∈ o, Reach (Sp l a) x y) : o.length ≤ 10001 := by
  refine few_pairs (n := a.keys.length) (x := x) ho h100 fun y hy => ?_
  have hr := h y hy
  cases hr with
  | refl => exact .inl rfl
  | step _ hr =>
    obtain ⟨⟨q1, q2⟩, q3, q4⟩ := ((stepOf_law hF _ _).1 _ hr).1
    exact .inr ⟨⟨by omega, by omega⟩, by omega, by omega⟩
theorem iter_short (x : Pr) (i : Nat) : (iterP (Sp l a) x i).length ≤ 10001 := all_in hF h100 (iterP_nd _ _ i) fun y hy => iterP_reach i y hy
theorem mem_allP {x y : Pr} : y ∈ allP l a x ↔ Reach (Sp l a) x y := iterP_whole (by rw [many_eq]; exact iter_short hF h100 x _) y
omit hF h100 in
theorem allP_nd (x : Pr) : (allP l a x).Nodup := iterP_nd _ _ _
omit h100 hF in
theorem kinds_nd {k : Int} {o : List Pr} (h : o.Nodup) : (kinds l a k o).Nodup := List.Pairwise.filter _ h
omit h100 hF in
theorem mem_kinds {k : Int} {o : List Pr} {y : Pr} : y ∈ kinds l a k o ↔ y ∈ o ∧ (Sp l a y).1 = k := by simp [kinds]
theorem mem_foundP {k : Int} {x y : Pr} : y ∈ foundP l a k x ↔ Reach (Sp l a) x y ∧ (Sp l a y).1 = k := by
  unfold foundP
  rw [mem_srt, mem_kinds, mem_allP hF h100]
omit h100 hF in
theorem foundP_rise (k : Int) (x : Pr) : (foundP l a k x).Pairwise ltP := srt_rise _
/-- All to which a pair comes is all to which its parts come. -/
theorem foundP_parts {k : Int} (x : Pr) (y : Pr) (hk : k ≠ 1) : y ∈ foundP l a k x ↔ (y = x ∧ (Sp l a x).1 = k) ∨ ∃ q ∈ (Sp l a x).2, y ∈ foundP l a k q := by
  rw [mem_foundP hF h100]
  constructor
  · rintro ⟨h, e⟩
    rcases h.cases' with rfl | ⟨q, h1, h2⟩
    · exact .inl ⟨rfl, e⟩
    · exact .inr ⟨q, h1, (mem_foundP hF h100).2 ⟨h2, e⟩⟩
  · rintro (⟨rfl, e⟩ | ⟨q, h1, h2⟩)
    · exact ⟨.refl _, e⟩
    · obtain ⟨h3, e⟩ := (mem_foundP hF h100).1 h2
      exact ⟨(Reach.step (.refl _) h1).trans h3, e⟩
theorem foundP_end {x : Pr} (h : (Sp l a x).2 = []) {k : Int} (hk : k ≠ 1) : foundP l a k x = if (Sp l a x).1 = k then [x] else [] := by
  refine rise_eq (foundP_rise k x) (by split <;> simp) fun y => ?_
  rw [foundP_parts hF h100 x y hk, h]
  split
  · rename_i e
    simp [e]
  · rename_i e
    simp [e]
end
end Go.AM

namespace Go.AM
open Go.Proofs
set_option maxRecDepth 100000
set_option linter.unusedVariables false
set_option linter.unusedSimpArgs false
def c17 : AFn := ⟨83, .seq (.reg false [⟨some 5, .box (.tmp 1), none⟩, ⟨some 8, .mov (.lit .nilS), none⟩, ⟨some 9, .mov (.lit .nilS), none⟩]) (.seq (.reg false [⟨some 18, .mkmap, none⟩, ⟨some 19, .mov (.tmp 2), none⟩, ⟨some 20, .mov (.tmp 3), none⟩, ⟨some 21, .build [.int .i64 0, .int .i64 0] [(0, 1, .tmp 19), (1, 1, .tmp 20)], none⟩, ⟨none, .upd true [.int .i64, .int .i64] (.tmp 18) (.tmp 21) (.lit (.bool true)), none⟩, ⟨some 22, .mov (.tmp 18), none⟩, ⟨some 10, .mov (.tmp 22), none⟩]) (.seq (.reg false [⟨some 23, .mov (.tmp 2), none⟩, ⟨some 24, .mov (.tmp 3), none⟩, ⟨some 25, .build [.int .i64 0, .int .i64 0] [(0, 1, .tmp 23), (1, 1, .tmp 24)], none⟩, ⟨some 26, .bsloc 2 1 [.int .i64 0, .int .i64 0] [(0, .tmp 25)], none⟩, ⟨some 11, .mov (.tmp 26), none⟩]) (.seq (.reg false [⟨some 27, .mkmap, none⟩, ⟨some 12, .mov (.tmp 27), none⟩]) (.seq (.block 0 (.loop (.seq (.seq (.reg false [⟨some 28, .mov (.tmp 11), none⟩, ⟨some 29, .len (.tmp 28), none⟩, ⟨some 30, .bin .gtr (.tmp 29) (.lit (.int .i64 0)), none⟩]) (.cond (.tmp 30) .skip (.exit 0))) (.block 1 (.seq (.reg false [⟨some 31, .mov (.tmp 11), none⟩, ⟨some 32, .ia 2 (.tmp 31) (.lit (.int .i64 0)), none⟩, ⟨some 33, .load 2 true (.tmp 32), none⟩, ⟨some 13, .alloc [.int .i64 0, .int .i64 0], none⟩, ⟨none, .store 2 (.tmp 13) (.tmp 33), none⟩]) (.seq (.reg false [⟨some 34, .mov (.tmp 11), none⟩, ⟨some 35, .slc 2 (.tmp 34) (some (.lit (.int .i64 1))) none none, none⟩, ⟨some 11, .mov (.tmp 35), none⟩]) (.seq (.reg false [⟨some 36, .mov (.tmp 0), none⟩, ⟨some 37, .load 2 true (.tmp 5), none⟩, ⟨some 38, .iarr 2 1 (.tmp 13) (.lit (.int .i64 0)), none⟩, ⟨some 39, .load 1 false (.tmp 38), none⟩, ⟨some 40, .iarr 2 1 (.tmp 13) (.lit (.int .i64 1)), none⟩, ⟨some 41, .load 1 false (.tmp 40), none⟩, ⟨some 42, .call (.lit (.fn (.func 11) [] [])) [.tmp 36, .tmp 37, .tmp 39, .tmp 41], none⟩, ⟨some 14, .alloc [.int .i64 0, .nilS], none⟩, ⟨none, .store 2 (.tmp 14) (.tmp 42), none⟩]) (.seq (.regD [⟨some 43, .mov (.tmp 12), none⟩, ⟨some 44, .fa 0 (.tmp 14), none⟩, ⟨some 45, .load 1 false (.tmp 44), none⟩, ⟨some 46, .mov (.tmp 12), none⟩, ⟨some 47, .fa 0 (.tmp 14), none⟩, ⟨some 48, .load 1 false (.tmp 47), none⟩, ⟨some 49, .lkp false [.int .i64] .nilS (.tmp 46) (.tmp 48) false, none⟩, ⟨some 50, .load 2 true (.tmp 13), none⟩, ⟨some 51, .bslice 2 1 [.int .i64 0, .int .i64 0] [(0, .tmp 50)], none⟩, ⟨some 52, .app 2 16 (.tmp 49) (.tmp 51), none⟩, ⟨none, .upd false [.int .i64] (.tmp 43) (.tmp 45) (.tmp 52), none⟩] [(⟨some 44, .fa 0 (.tmp 14), none⟩, ⟨some 52, .app 2 16 (.tmp 49) (.tmp 51), none⟩), (⟨some 45, .load 1 false (.tmp 44), none⟩, ⟨some 52, .app 2 16 (.tmp 49) (.tmp 51), none⟩)]) (.seq (.seq .mark (.reg false [⟨some 53, .fa 1 (.tmp 14), none⟩, ⟨some 54, .load 1 false (.tmp 53), none⟩, ⟨some 55, .len (.tmp 54), none⟩, ⟨some 56, .mov (.lit (.int .i64 0)), none⟩])) (.block 2 (.loop (.seq (.reg false [⟨some 57, .bin .lss (.tmp 56) (.tmp 55), none⟩]) (.seq (.cond (.tmp 57) .skip (.exit 2)) (.seq (.block 3 (.seq (.reg false [⟨some 58, .ia 2 (.tmp 54) (.tmp 56), none⟩, ⟨some 59, .load 2 true (.tmp 58), none⟩, ⟨some 16, .alloc [.int .i64 0, .int .i64 0], none⟩, ⟨none, .store 2 (.tmp 16) (.tmp 59), none⟩]) (.seq (.reg false [⟨some 60, .mov (.tmp 10), none⟩, ⟨some 61, .load 2 true (.tmp 16), none⟩, ⟨some 62, .lkp true [.int .i64, .int .i64] (.bool false) (.tmp 60) (.tmp 61) false, none⟩, ⟨some 63, .not (.tmp 62), none⟩]) (.cond (.tmp 63) (.seq (.reg false [⟨some 64, .mov (.tmp 10), none⟩, ⟨some 65, .load 2 true (.tmp 16), none⟩, ⟨none, .upd true [.int .i64, .int .i64] (.tmp 64) (.tmp 65) (.lit (.bool true)), none⟩]) (.reg false [⟨some 66, .mov (.tmp 11), none⟩, ⟨some 67, .load 2 true (.tmp 16), none⟩, ⟨some 68, .bslice 2 1 [.int .i64 0, .int .i64 0] [(0, .tmp 67)], none⟩, ⟨some 69, .app 2 16 (.tmp 66) (.tmp 68), none⟩, ⟨some 11, .mov (.tmp 69), none⟩])) .skip)))) (.reg false [⟨some 70, .bin .add (.tmp 56) (.lit (.int .i64 1)), none⟩, ⟨some 56, .mov (.tmp 70), none⟩]))))))))))))))) (.seq (.reg false [⟨some 17, .mov (.lit (.fn (.func 36) [] [])), none⟩]) (.seq (.reg false [⟨some 71, .mov (.tmp 12), none⟩, ⟨some 72, .lkp false [.int .i64] .nilS (.tmp 71) (.lit (.int .i64 2)) false, none⟩, ⟨some 73, .mov (.tmp 17), none⟩, ⟨some 74, .call (.lit (.fn (.func 39) [] [])) [.tmp 72, .tmp 73], none⟩]) (.seq (.reg false [⟨some 75, .mov (.tmp 12), none⟩, ⟨some 76, .lkp false [.int .i64] .nilS (.tmp 75) (.lit (.int .i64 3)) false, none⟩, ⟨some 77, .mov (.tmp 17), none⟩, ⟨some 78, .call (.lit (.fn (.func 39) [] [])) [.tmp 76, .tmp 77], none⟩]) (.seq (.reg true [⟨some 79, .mov (.tmp 12), none⟩, ⟨some 80, .lkp false [.int .i64] .nilS (.tmp 79) (.lit (.int .i64 2)) false, none⟩, ⟨some 81, .mov (.tmp 12), none⟩, ⟨some 82, .lkp false [.int .i64] .nilS (.tmp 81) (.lit (.int .i64 3)) false, none⟩, ⟨some 8, .mov (.tmp 80), none⟩, ⟨some 9, .mov (.tmp 82), none⟩]) .ret)))))))), [.tmp 8, .tmp 9]⟩
/-! ### All atoms and clashes -/
def an17 : An := ⟨[26], [9]⟩
theorem c17_ok : cFn Try.prog an17 Try.f17 = some c17 := by kernel_rfl
abbrev ent (p : Int × AV) : AV × AV := (i64 p.1, p.2)
abbrev setP (L : List Pr) : List (AV × AV) := L.map fun p => (AV.agg [i64 p.1, i64 p.2], AV.bool true)
def slotB (l : List Sg) (a : Kd) (F : List (Int × AV)) (Dn : List Pr) (k : Int) : ABlk := match mget F k with
  | some (.loc _ g _ _ _ _) => .cells g (fl prc (kinds l a k Dn))
  | _ => .dead 0
structure FndOk (l : List Sg) (a : Kd) (F : List (Int × AV)) (Dn : List Pr) : Prop where
  no : ∀ k, mget F k = none → kinds l a k Dn = []
  yes : ∀ k v, mget F k = some v → ∃ g, v = .loc (4 + k.toNat) g 0 (kinds l a k Dn).length 2 false ∧ 0 < (kinds l a k Dn).length
  all : ∀ e ∈ F, ∃ i g n, e.2 = AV.loc i g 0 n 2 false ∧ i < 8
theorem kinds_app {l : List Sg} {a : Kd} {k : Int} {Dn : List Pr} {p : Pr} : kinds l a k (Dn ++ [p]) = if (Sp l a p).1 = k then kinds l a k Dn ++ [p] else kinds l a k Dn := by
  unfold kinds
  by_cases h : (Sp l a p).1 = k <;> simp [h]
theorem mem_mput {α β : Type} [DecidableEq α] {k : α} {v : β} {e : α × β} : ∀ {F : List (α × β)}, e ∈ mput F k v → e = (k, v) ∨ e ∈ F
  | [], h => by simpa [mput] using h
  | p :: F, h => by
    rw [mput] at h
    split at h
    · rcases List.mem_cons.1 h with rfl | h
      · exact .inl rfl
      · exact .inr (by simp [h])
    · rcases List.mem_cons.1 h with rfl | h
      · exact .inr (by simp)
      · rcases mem_mput h with h | h
        · exact .inl h
        · exact .inr (by simp [h])
theorem FndOk.next {l : List Sg} {a : Kd} {F : List (Int × AV)} {Dn : List Pr} (h : FndOk l a F Dn) {p : Pr} {k : Int} (hk : (Sp l a p).1 = k) (h3 : k.toNat < 4) (g : Nat) :
    FndOk l a (mput F k (.loc (4 + k.toNat) g 0 ((kinds l a k Dn).length + 1) 2 false)) (Dn ++ [p]) := by
  refine ⟨fun k' hn => ?_, fun k' v hv => ?_, fun e he => ?_⟩
  · rw [mget_mput] at hn
    split at hn
    · cases hn
    · rename_i hne
      rw [kinds_app, if_neg (fun e => hne (by rw [← e, hk]))]
      exact h.no k' hn
  · rw [mget_mput] at hv
    split at hv
    · rename_i e
      subst e
      injection hv with hv
      refine ⟨g, ?_, ?_⟩
      · rw [← hv, kinds_app, if_pos hk]
        simp
      · rw [kinds_app, if_pos hk]
        simp
    · rename_i hne
      rw [kinds_app, if_neg (fun e => hne (by rw [← e, hk]))]
      exact h.yes k' v hv
  · rcases mem_mput he with rfl | he
    · exact ⟨_, _, _, rfl, by omega⟩
    · exact h.all e he
theorem slotB_next {l : List Sg} {a : Kd} {F : List (Int × AV)} {Dn : List Pr} {p : Pr} {k : Int} (hk : (Sp l a p).1 = k) (i g n : Nat) (k' : Int) :
    slotB l a (mput F k (.loc i g 0 n 2 false)) (Dn ++ [p]) k' = if k' = k then .cells g (fl prc (kinds l a k Dn ++ [p])) else slotB l a F Dn k' := by
  unfold slotB
  rw [mget_mput]
  by_cases e : k' = k
  · subst e
    simp [kinds_app, hk]
  · rw [if_neg e, if_neg e, kinds_app, if_neg (fun e' => e (by rw [← e', hk]))]
theorem setP_RL (n : Nat) (S : List Pr) : RLB n (.map 0 (setP S)) := by
  simp only [RLB, List.mem_map]
  rintro y ⟨p, _, rfl⟩
  simp
theorem fmap_RL {l : List Sg} {a : Kd} {F : List (Int × AV)} {Dn : List Pr} (h : FndOk l a F Dn) {n : Nat} (hn : 8 ≤ n) : RLB n (.map 0 (F.map ent)) := by
  simp only [RLB, List.mem_map]
  rintro y ⟨p, hp, rfl⟩
  obtain ⟨i, g, m, e, hi⟩ := h.all p hp
  simp [ent, e]
  omega
theorem slotB_RL (l : List Sg) (a : Kd) (F : List (Int × AV)) (Dn : List Pr) (k : Int) (n : Nat) : RLB n (slotB l a F Dn k) := by
  unfold slotB
  split
  · exact fl_RL (by simp) _
  · simp [RLB]
theorem mvV_fl (j g s g' : Nat) (X : List Pr) : (fl prc X).map (mvV j g s g') = fl prc X := by
  induction X with
  | nil => rfl
  | cons p X ih => rw [fl_cons, List.map_append, ih]; rfl
theorem mvB_slot (l : List Sg) (a : Kd) (F : List (Int × AV)) (Dn : List Pr) (k : Int) (j g s g' : Nat) : mvB j g s g' (slotB l a F Dn k) = slotB l a F Dn k := by
  unfold slotB
  split
  · simp [mvB, mvV_fl]
  · rfl
theorem mvB_set (j g s g' : Nat) (L : List Pr) : mvB j g s g' (.map 0 (setP L)) = .map 0 (setP L) := by
  simp [mvB, mvV]
theorem mvB_cells (j g s g' g1 : Nat) (X : List Pr) : mvB j g s g' (.cells g1 (fl prc X)) = .cells g1 (fl prc X) := by
  simp [mvB, mvV_fl]
theorem mvB_map {F : List (Int × AV)} {j s g' n : Nat} {k : Int} (h : ∀ e ∈ F, ∃ i g n, e.2 = AV.loc i g 0 n 2 false ∧ i < 8) (hj : 8 ≤ j) :
    mvB j 0 s g' (.map 0 ((mput F k (.loc j 0 0 n 2 false)).map ent)) = .map 0 ((mput F k (.loc s g' 0 n 2 false)).map ent) := by
  have h1 : ∀ e ∈ F, mvV j 0 s g' e.2 = e.2 := fun e he => by
    obtain ⟨i, g, n, e1, hi⟩ := h e he
    rw [e1]
    simp only [mvV]
    rw [if_neg (by omega)]
  have h2 : ∀ F : List (Int × AV), (∀ e ∈ F, mvV j 0 s g' e.2 = e.2) → (mput F k (.loc j 0 0 n 2 false)).map (fun p => (mvV j 0 s g' (i64 p.1), mvV j 0 s g' p.2)) = (mput F k (.loc s g' 0 n 2 false)).map ent := by
    intro F
    induction F with
    | nil => intro _; simp [mput, mvV, ent]
    | cons e F ih =>
      intro h
      have ih := ih fun e' he' => h e' (by simp [he'])
      have h0 := h e (by simp)
      rw [mput, mput]
      split
      · simp only [List.map_cons, mvV, and_self, if_true, ent]
        congr 1
        refine List.map_congr_left fun e' he' => ?_
        exact Prod.ext rfl (h e' (by simp [he']))
      · simp only [List.map_cons, h0]
        rw [ih]
        rfl
  simp only [mvB, List.map_map]
  rw [← h2 F h1]
  rfl
abbrev allH (l : List Sg) (a : Kd) (S : List Pr) (gl : Nat) (Q : List Pr) (F : List (Int × AV)) (Dn : List Pr) : AHeap :=
  [.cells 0 a.cs, .map 0 (setP S), .cells gl (fl prc Q), .map 0 (F.map ent), slotB l a F Dn 0, slotB l a F Dn 1, slotB l a F Dn 2, slotB l a F Dn 3]
abbrev allT (l : List Sg) (gl off len : Nat) : Tm := [(12, .mapr 3 0), (11, .loc 2 gl off len 2 false), (10, .mapr 1 0), (5, .ptr 0 0 0), (0, sigs l)]
theorem allH_RL {l : List Sg} {a : Kd} {S Q Dn : List Pr} {gl : Nat} {F : List (Int × AV)} (h : FndOk l a F Dn) {n : Nat} (hn : 8 ≤ n) : al (RLB n) (allH l a S gl Q F Dn) :=
  ⟨by simp [RLB], setP_RL _ _, fl_RL (by simp) _, fmap_RL h hn, slotB_RL .., slotB_RL .., slotB_RL .., slotB_RL .., trivial⟩
theorem allT_RL (l : List Sg) (gl off len : Nat) {n : Nat} (hn : 8 ≤ n) : al (fun p => RL n p.2) (allT l gl off len) := by
  simp
  omega
theorem srt_len {o : List Pr} (h : o.Nodup) : (srt o).length = o.length := by
  have h1 : (srt o).Nodup := List.Pairwise.imp (fun {p q} (h : ltP p q) (e : p = q) => ltP_irr q (by rw [e] at h; exact h)) (srt_rise o)
  have : (srt o).Perm o := (List.perm_ext_iff_of_nodup h1 h).2 fun x => mem_srt
  exact this.length_eq
theorem sorted_found {l : List Sg} {a : Kd} {x : Pr} {k : Int} {l' : List Pr} (p1 : l'.Perm (kinds l a k (allP l a x))) (p2 : ∀ i j : Nat, i < j → j < l'.length → Go.Proofs.ltOf cmpP l'[j]! l'[i]! = false) : l' = foundP l a k x :=
  sorted_srt (kinds_nd (allP_nd x)) p1 fun i j hij hj => (lt_iff' _ _).1 (p2 i j hij hj)
theorem sortF {l : List Sg} {a : Kd} {x : Pr} {k : Int} {H : AHeap} {i g : Nat} (h0 : 0 < (kinds l a k (allP l a x)).length) (h : H[i]? = some (.cells g (fl prc (kinds l a k (allP l a x))))) :
    FT Try.prog 39 [.loc i g 0 (kinds l a k (allP l a x)).length 2 false, .fn (.func 36) [] []] H fun rv H' => rv = .tuple [] ∧ H' = H.set i (.cells g (fl prc (foundP l a k x))) := by
  refine (sort39_FT h0 h).mono ?_
  rintro rv H' ⟨rfl, l', p1, p2, rfl⟩
  have := sorted_found p1 p2
  subst this
  exact ⟨rfl, rfl⟩
theorem two_RL (n : Nat) (p q : List Pr) : RL n (.tuple [prs p, prs q]) := by
  refine .tuple _ fun v hv => ?_
  simp only [List.mem_cons, List.not_mem_nil, or_false] at hv
  rcases hv with rfl | rfl
  · exact prs_RL _ _
  · exact prs_RL _ _
theorem loc_len {l : List Sg} {a : Kd} {F : List (Int × AV)} {Dn : List Pr} (h : FndOk l a F Dn) (k : Int) : (mget F k = none ∧ slotB l a F Dn k = .dead 0 ∧ kinds l a k Dn = []) ∨ ∃ g, mget F k = some (.loc (4 + k.toNat) g 0 (kinds l a k Dn).length 2 false) ∧ slotB l a F Dn k = .cells g (fl prc (kinds l a k Dn)) ∧ 0 < (kinds l a k Dn).length := by
  cases hm : mget F k with
  | none => exact .inl ⟨rfl, by simp [slotB, hm], h.no k hm⟩
  | some v =>
    obtain ⟨g, rfl, h0⟩ := h.yes k v hm
    exact .inr ⟨g, rfl, by simp [slotB, hm], h0⟩
def newg (F : List (Int × AV)) (k : Int) : Nat := match mget F k with
  | some (.loc _ g _ _ _ _) => g + 1
  | _ => 1
def nextF (l : List Sg) (a : Kd) (F : List (Int × AV)) (Dn : List Pr) (k : Int) : List (Int × AV) := mput F k (.loc (4 + k.toNat) (newg F k) 0 ((kinds l a k Dn).length + 1) 2 false)
theorem nextF_ok {l : List Sg} {a : Kd} {F : List (Int × AV)} {Dn : List Pr} (h : FndOk l a F Dn) {p : Pr} {k : Int} (hk : (Sp l a p).1 = k) (h3 : k.toNat < 4) : FndOk l a (nextF l a F Dn k) (Dn ++ [p]) := h.next hk h3 _
theorem slotB_nextF {l : List Sg} {a : Kd} {F : List (Int × AV)} {Dn : List Pr} {p : Pr} {k : Int} (hk : (Sp l a p).1 = k) (k' : Int) :
    slotB l a (nextF l a F Dn k) (Dn ++ [p]) k' = if k' = k then .cells (newg F k) (fl prc (kinds l a k Dn ++ [p])) else slotB l a F Dn k' := slotB_next hk ..
theorem cells_way_RL (n : Nat) (k : Int) (ps : List Pr) : RLB n (.cells 0 [i64 k, prs ps]) := by
  intro v hv
  simp only [List.mem_cons, List.not_mem_nil, or_false] at hv
  rcases hv with rfl | rfl
  · simp
  · exact prs_RL _ _
theorem retell_new {lo : Nat} {T : Tm} {l : List Sg} {a : Kd} {S Q Dn : List Pr} {gl : Nat} {F : List (Int × AV)} {p : Pr} {k : Int} {ps : List Pr} (hf : FndOk l a F Dn) (hk : (Sp l a p).1 = k) (h0 : 0 ≤ k ∧ k ≤ 3) (hm : mget F k = none) (hlo : lo ≤ 10)
    {T' : Tm} (h1 : al (fun q => (mvT 10 0 (4 + k.toNat) 1 T).get q.1 = q.2) T') (h2 : al (fun q => RL 10 q.2) T') :
    Wk lo T [.cells 0 a.cs, .map 0 (setP S), .cells gl (fl prc Q), .map 0 ((mput F k (.loc 10 0 0 1 2 false)).map ent), slotB l a F Dn 0, slotB l a F Dn 1, slotB l a F Dn 2, slotB l a F Dn 3, .cells 0 [i64 p.1, i64 p.2], .cells 0 [i64 k, prs ps], .cells 0 [i64 p.1, i64 p.2]]
      T' [.cells 0 a.cs, .map 0 (setP S), .cells gl (fl prc Q), .map 0 ((nextF l a F Dn k).map ent), slotB l a (nextF l a F Dn k) (Dn ++ [p]) 0, slotB l a (nextF l a F Dn k) (Dn ++ [p]) 1, slotB l a (nextF l a F Dn k) (Dn ++ [p]) 2, slotB l a (nextF l a F Dn k) (Dn ++ [p]) 3, .cells 0 [i64 p.1, i64 p.2], .cells 0 [i64 k, prs ps]] := by
  have hz : kinds l a k Dn = [] := hf.no k hm
  have hng : newg F k = 1 := by simp [newg, hm]
  have hs0 : slotB l a F Dn k = .dead 0 := by simp [slotB, hm]
  refine (Wk.move (g := 0) (g0 := 0) (cs := [i64 p.1, i64 p.2]) 10 (4 + k.toNat) rfl ?_).trans (Wk.tell 10 hlo h1 h2 ?_ ?_)
  · skip
    have hk4 : k = 0 ∨ k = 1 ∨ k = 2 ∨ k = 3 := by omega
    rcases hk4 with rfl | rfl | rfl | rfl <;> exact congrArg some hs0
  · simp only [List.map_cons, List.map_nil, mvB_set, mvB_cells, mvB_slot, mvB_map hf.all (Nat.le_of_ble_eq_true rfl : 8 ≤ 10), slotB_nextF hk]
    have e1 : nextF l a F Dn k = mput F k (.loc (4 + k.toNat) (0 + 1) 0 1 2 false) := by simp [nextF, hng, hz]
    rw [e1, hng, hz]
    have hk4 : k = 0 ∨ k = 1 ∨ k = 2 ∨ k = 3 := by omega
    rcases hk4 with rfl | rfl | rfl | rfl <;> simp [mvB, mvV, fl_cons, fl_nil]
  · have := allH_RL (S := S) (gl := gl) (Q := Q) (nextF_ok hf hk (by omega)) (n := 10) (by omega)
    obtain ⟨b0, b1, b2, b3, b4, b5, b6, b7, _⟩ := this
    exact ⟨b0, b1, b2, b3, b4, b5, b6, b7, by simp [RLB], cells_way_RL _ _ _, trivial⟩
theorem retell_old {lo : Nat} {T : Tm} {l : List Sg} {a : Kd} {S Q Dn : List Pr} {gl g2 : Nat} {F : List (Int × AV)} {p : Pr} {k : Int} {ps : List Pr} (hf : FndOk l a F Dn) (hk : (Sp l a p).1 = k) (h0 : 0 ≤ k ∧ k ≤ 3) (hm : mget F k = some (.loc (4 + k.toNat) g2 0 (kinds l a k Dn).length 2 false)) (hlo : lo ≤ 10)
    {T' : Tm} (h1 : al (fun q => T.get q.1 = q.2) T') (h2 : al (fun q => RL 10 q.2) T') :
    Wk lo T (([.cells 0 a.cs, .map 0 (setP S), .cells gl (fl prc Q), .map 0 (F.map ent), slotB l a F Dn 0, slotB l a F Dn 1, slotB l a F Dn 2, slotB l a F Dn 3, .cells 0 [i64 p.1, i64 p.2], .cells 0 [i64 k, prs ps]].set (4 + k.toNat) (.cells (g2 + 1) (fl prc (kinds l a k Dn ++ [p])))).set 3 (.map 0 ((mput F k (.loc (4 + k.toNat) (g2 + 1) 0 ((kinds l a k Dn).length + 1) 2 false)).map ent)))
      T' [.cells 0 a.cs, .map 0 (setP S), .cells gl (fl prc Q), .map 0 ((nextF l a F Dn k).map ent), slotB l a (nextF l a F Dn k) (Dn ++ [p]) 0, slotB l a (nextF l a F Dn k) (Dn ++ [p]) 1, slotB l a (nextF l a F Dn k) (Dn ++ [p]) 2, slotB l a (nextF l a F Dn k) (Dn ++ [p]) 3, .cells 0 [i64 p.1, i64 p.2], .cells 0 [i64 k, prs ps]] := by
  have hng : newg F k = g2 + 1 := by simp [newg, hm]
  refine Wk.tell 10 hlo h1 h2 ?_ ?_
  · simp only [slotB_nextF hk]
    rw [nextF, hng]
    have hk4 : k = 0 ∨ k = 1 ∨ k = 2 ∨ k = 3 := by omega
    rcases hk4 with rfl | rfl | rfl | rfl <;> simp
  · have := allH_RL (S := S) (gl := gl) (Q := Q) (nextF_ok hf hk (by omega)) (n := 10) (by omega)
    obtain ⟨b0, b1, b2, b3, b4, b5, b6, b7, _⟩ := this
    exact ⟨b0, b1, b2, b3, b4, b5, b6, b7, by simp [RLB], cells_way_RL _ _ _, trivial⟩
set_option maxHeartbeats 2000000 in
theorem all_PF {l : List Sg} {a : Kd} (hF : Fine l a) (h100 : a.keys.length ≤ 100) (x y : Int) : PF Try.prog 17 [sigs l, .agg a.cs, i64 x, i64 y] (.tuple [prs (foundP l a 2 (x, y)), prs (foundP l a 3 (x, y))]) := by
  refine PFk 9 hm Try.func17 c17_ok (Nat.le_of_ble_eq_true rfl) (by simp) (two_RL _ _ _) ?_
  simp (maxSteps := 3000000) [-List.length_flatten, -List.map_drop, -List.map_take, Function.comp_def, argsT, Opd.ev, Tm.get, put, ares, mapMo, ares1, snilP, bldParts, bslParts, putAt, AV.cells, AV.one, astore, aload, loadCs, callArgs, abin, abinInt, aapp, elems, appMore, appNone, preLen, aFa, aFld, apart, aExt, aPick, aNot, aLens, aEqa, cellsK, fitsA, LK.fitsA, leavesA, leafA, nilD, aNilc, aCint, aCid, alive, alen, alenOk, Rle, lePs, len_flat, c17, aupd, updA]
  refine run_loopK (fun m T H => ∃ (i gl : Nat) (D : List Pr) (F : List (Int × AV)), m = 10001 - i ∧ i ≤ (iterP (Sp l a) (x, y) i).length ∧ FndOk l a F ((iterP (Sp l a) (x, y) i).take i) ∧
      T = allT l gl (D.length * 2) ((iterP (Sp l a) (x, y) i).length - i) ∧ H = allH l a (iterP (Sp l a) (x, y) i) gl (D ++ (iterP (Sp l a) (x, y) i).drop i) F ((iterP (Sp l a) (x, y) i).take i))
    10001 (allT l 0 0 1) [.cells 0 a.cs, .map 0 [(.agg [i64 x, i64 y], .bool true)], .cells 0 [i64 x, i64 y], .map 0 [], .dead 0, .dead 0, .dead 0, .dead 0]
    ((Wk.tell (T' := allT l 0 0 1) 4 (by omega) (by simp [Tm.get]) (by simp) rfl (by simp [RLB])).trans (Wk.resv2.trans Wk.resv2)) ⟨0, 0, [], [], rfl, by simp, ⟨fun _ _ => rfl, fun _ _ h => (by cases h), fun _ h => (by cases h)⟩, rfl, by simp [iterP, fl, slotB, mget]⟩ ?_
  rintro m T H ⟨i, gl, D, F, rfl, hi, hf, rfl, rfl⟩ KK kx kr kn
  have hL := iter_short hF h100 (x, y) i
  cases hR : (iterP (Sp l a) (x, y) i).drop i with
  | nil =>
    have e1 : (iterP (Sp l a) (x, y) i).length = i := by
      have := congrArg List.length hR
      simp at this
      omega
    have hk2 : lookA false [.int .i64] [.int .i64 2] (F.map ent) = some (mget F 2) := by rw [lookA_map (K := fun k => i64 k) (V := fun v : AV => v) intK intC 2 F]; simp
    have hk3 : lookA false [.int .i64] [.int .i64 3] (F.map ent) = some (mget F 3) := by rw [lookA_map (K := fun k => i64 k) (V := fun v : AV => v) intK intC 3 F]; simp
    have eL : iterP (Sp l a) (x, y) i = allP l a (x, y) := (iterP_stop _ _ (by omega) many (by rw [many_eq]; omega)).symm
    have eD : (iterP (Sp l a) (x, y) i).take i = allP l a (x, y) := by rw [eL]; exact List.take_of_length_le (by rw [← eL]; omega)
    rw [eD] at hf
    rw [e1, eD, eL]
    have hn2 : (kinds l a 2 (allP l a (x, y))).length = (foundP l a 2 (x, y)).length := (srt_len (kinds_nd (allP_nd (l := l) (a := a) (x, y)))).symm
    have hn3 : (kinds l a 3 (allP l a (x, y))).length = (foundP l a 3 (x, y)).length := (srt_len (kinds_nd (allP_nd (l := l) (a := a) (x, y)))).symm
    have l2 := fl_len (f := prc) (sz := 2) (by simp) (foundP l a 2 (x, y))
    have l3 := fl_len (f := prc) (sz := 2) (by simp) (foundP l a 3 (x, y))
    have c2 := chunk_fl (f := prc) (sz := 2) (by simp) (foundP l a 2 (x, y))
    have c3 := chunk_fl (f := prc) (sz := 2) (by simp) (foundP l a 3 (x, y))
    have f0 : ∀ H, (frz true H 7 ∘ fun n => i64 n) = fun n => i64 n := fun H => rfl
    rcases loc_len hf 2 with ⟨m2, s2, z2⟩ | ⟨g2, m2, s2, z2⟩
    · have z2' : foundP l a 2 (x, y) = [] := List.length_eq_zero_iff.1 (by rw [← hn2, z2]; rfl)
      rcases loc_len hf 3 with ⟨m3, s3, z3⟩ | ⟨g3, m3, s3, z3⟩
      · have z3' : foundP l a 3 (x, y) = [] := List.length_eq_zero_iff.1 (by rw [← hn3, z3]; rfl)
        simp (maxSteps := 3000000) [-List.length_flatten, -List.map_drop, -List.map_take, Function.comp_def, argsT, Opd.ev, Tm.get, put, ares, mapMo, ares1, snilP, bldParts, bslParts, putAt, AV.cells, AV.one, astore, aload, loadCs, callArgs, abin, abinInt, aapp, elems, appMore, appNone, preLen, aFa, aFld, apart, aExt, aPick, aNot, aLens, aEqa, cellsK, fitsA, LK.fitsA, leavesA, leafA, nilD, aNilc, aCint, aCid, alive, alen, alenOk, Rle, lePs, len_flat, kx, alkp, amap, hk2, hk3, m2]
        refine PF.call sort0 9 (by simp [lePs, -List.length_flatten, -List.map_drop, -List.map_take, Function.comp_def, len_flat]) ?_
        simp (maxSteps := 3000000) [-List.length_flatten, -List.map_drop, -List.map_take, Function.comp_def, argsT, Opd.ev, Tm.get, put, ares, mapMo, ares1, snilP, bldParts, bslParts, putAt, AV.cells, AV.one, astore, aload, loadCs, callArgs, abin, abinInt, aapp, elems, appMore, appNone, preLen, aFa, aFld, apart, aExt, aPick, aNot, aLens, aEqa, cellsK, fitsA, LK.fitsA, leavesA, leafA, nilD, aNilc, aCint, aCid, alive, alen, alenOk, Rle, lePs, len_flat, Kc, alkp, amap, hk2, hk3, m3]
        refine PF.call sort0 9 (by simp [lePs, -List.length_flatten, -List.map_drop, -List.map_take, Function.comp_def, len_flat]) ?_
        simp (maxSteps := 3000000) [-List.length_flatten, -List.map_drop, -List.map_take, Function.comp_def, argsT, Opd.ev, Tm.get, put, ares, mapMo, ares1, snilP, bldParts, bslParts, putAt, AV.cells, AV.one, astore, aload, loadCs, callArgs, abin, abinInt, aapp, elems, appMore, appNone, preLen, aFa, aFld, apart, aExt, aPick, aNot, aLens, aEqa, cellsK, fitsA, LK.fitsA, leavesA, leafA, nilD, aNilc, aCint, aCid, alive, alen, alenOk, Rle, lePs, len_flat, Kc, alkp, amap, hk2, hk3, m2, m3]
        exact ⟨z2', z3'⟩
      · simp (maxSteps := 3000000) [-List.length_flatten, -List.map_drop, -List.map_take, Function.comp_def, argsT, Opd.ev, Tm.get, put, ares, mapMo, ares1, snilP, bldParts, bslParts, putAt, AV.cells, AV.one, astore, aload, loadCs, callArgs, abin, abinInt, aapp, elems, appMore, appNone, preLen, aFa, aFld, apart, aExt, aPick, aNot, aLens, aEqa, cellsK, fitsA, LK.fitsA, leavesA, leafA, nilD, aNilc, aCint, aCid, alive, alen, alenOk, Rle, lePs, len_flat, kx, alkp, amap, hk2, hk3, m2]
        refine PF.call sort0 9 (by simp [lePs, -List.length_flatten, -List.map_drop, -List.map_take, Function.comp_def, len_flat]) ?_
        simp (maxSteps := 3000000) [-List.length_flatten, -List.map_drop, -List.map_take, Function.comp_def, argsT, Opd.ev, Tm.get, put, ares, mapMo, ares1, snilP, bldParts, bslParts, putAt, AV.cells, AV.one, astore, aload, loadCs, callArgs, abin, abinInt, aapp, elems, appMore, appNone, preLen, aFa, aFld, apart, aExt, aPick, aNot, aLens, aEqa, cellsK, fitsA, LK.fitsA, leavesA, leafA, nilD, aNilc, aCint, aCid, alive, alen, alenOk, Rle, lePs, len_flat, Kc, alkp, amap, hk2, hk3, m3]
        refine (sortF z3 (by show some (slotB l a F (allP l a (x, y)) 3) = _; rw [s3])).mono ?_
        rintro rv H' ⟨rfl, rfl⟩
        simp (maxSteps := 3000000) [-List.length_flatten, -List.map_drop, -List.map_take, Function.comp_def, argsT, Opd.ev, Tm.get, put, ares, mapMo, ares1, snilP, bldParts, bslParts, putAt, AV.cells, AV.one, astore, aload, loadCs, callArgs, abin, abinInt, aapp, elems, appMore, appNone, preLen, aFa, aFld, apart, aExt, aPick, aNot, aLens, aEqa, cellsK, fitsA, LK.fitsA, leavesA, leafA, nilD, aNilc, aCint, aCid, alive, alen, alenOk, Rle, lePs, len_flat, Kc, alkp, amap, hk2, hk3, m2, m3, hn3, l3, c3, z2']
    · rcases loc_len hf 3 with ⟨m3, s3, z3⟩ | ⟨g3, m3, s3, z3⟩
      · have z3' : foundP l a 3 (x, y) = [] := List.length_eq_zero_iff.1 (by rw [← hn3, z3]; rfl)
        simp (maxSteps := 3000000) [-List.length_flatten, -List.map_drop, -List.map_take, Function.comp_def, argsT, Opd.ev, Tm.get, put, ares, mapMo, ares1, snilP, bldParts, bslParts, putAt, AV.cells, AV.one, astore, aload, loadCs, callArgs, abin, abinInt, aapp, elems, appMore, appNone, preLen, aFa, aFld, apart, aExt, aPick, aNot, aLens, aEqa, cellsK, fitsA, LK.fitsA, leavesA, leafA, nilD, aNilc, aCint, aCid, alive, alen, alenOk, Rle, lePs, len_flat, kx, alkp, amap, hk2, hk3, m2]
        refine (sortF z2 (by show some (slotB l a F (allP l a (x, y)) 2) = _; rw [s2])).mono ?_
        rintro rv H' ⟨rfl, rfl⟩
        simp (maxSteps := 3000000) [-List.length_flatten, -List.map_drop, -List.map_take, Function.comp_def, argsT, Opd.ev, Tm.get, put, ares, mapMo, ares1, snilP, bldParts, bslParts, putAt, AV.cells, AV.one, astore, aload, loadCs, callArgs, abin, abinInt, aapp, elems, appMore, appNone, preLen, aFa, aFld, apart, aExt, aPick, aNot, aLens, aEqa, cellsK, fitsA, LK.fitsA, leavesA, leafA, nilD, aNilc, aCint, aCid, alive, alen, alenOk, Rle, lePs, len_flat, Kc, alkp, amap, hk2, hk3, m3]
        refine PF.call sort0 9 (by simp [lePs, -List.length_flatten, -List.map_drop, -List.map_take, Function.comp_def, len_flat]) ?_
        simp (maxSteps := 3000000) [-List.length_flatten, -List.map_drop, -List.map_take, Function.comp_def, argsT, Opd.ev, Tm.get, put, ares, mapMo, ares1, snilP, bldParts, bslParts, putAt, AV.cells, AV.one, astore, aload, loadCs, callArgs, abin, abinInt, aapp, elems, appMore, appNone, preLen, aFa, aFld, apart, aExt, aPick, aNot, aLens, aEqa, cellsK, fitsA, LK.fitsA, leavesA, leafA, nilD, aNilc, aCint, aCid, alive, alen, alenOk, Rle, lePs, len_flat, Kc, alkp, amap, hk2, hk3, m2, m3, hn2, l2, c2, z3']
      · simp (maxSteps := 3000000) [-List.length_flatten, -List.map_drop, -List.map_take, Function.comp_def, argsT, Opd.ev, Tm.get, put, ares, mapMo, ares1, snilP, bldParts, bslParts, putAt, AV.cells, AV.one, astore, aload, loadCs, callArgs, abin, abinInt, aapp, elems, appMore, appNone, preLen, aFa, aFld, apart, aExt, aPick, aNot, aLens, aEqa, cellsK, fitsA, LK.fitsA, leavesA, leafA, nilD, aNilc, aCint, aCid, alive, alen, alenOk, Rle, lePs, len_flat, kx, alkp, amap, hk2, hk3, m2]
        refine (sortF z2 (by show some (slotB l a F (allP l a (x, y)) 2) = _; rw [s2])).mono ?_
        rintro rv H' ⟨rfl, rfl⟩
        simp (maxSteps := 3000000) [-List.length_flatten, -List.map_drop, -List.map_take, Function.comp_def, argsT, Opd.ev, Tm.get, put, ares, mapMo, ares1, snilP, bldParts, bslParts, putAt, AV.cells, AV.one, astore, aload, loadCs, callArgs, abin, abinInt, aapp, elems, appMore, appNone, preLen, aFa, aFld, apart, aExt, aPick, aNot, aLens, aEqa, cellsK, fitsA, LK.fitsA, leavesA, leafA, nilD, aNilc, aCint, aCid, alive, alen, alenOk, Rle, lePs, len_flat, Kc, alkp, amap, hk2, hk3, m3]
        refine (sortF z3 (by show some (slotB l a F (allP l a (x, y)) 3) = _; rw [s3])).mono ?_
        rintro rv H' ⟨rfl, rfl⟩
        simp (maxSteps := 3000000) [-List.length_flatten, -List.map_drop, -List.map_take, Function.comp_def, argsT, Opd.ev, Tm.get, put, ares, mapMo, ares1, snilP, bldParts, bslParts, putAt, AV.cells, AV.one, astore, aload, loadCs, callArgs, abin, abinInt, aapp, elems, appMore, appNone, preLen, aFa, aFld, apart, aExt, aPick, aNot, aLens, aEqa, cellsK, fitsA, LK.fitsA, leavesA, leafA, nilD, aNilc, aCint, aCid, alive, alen, alenOk, Rle, lePs, len_flat, Kc, alkp, amap, hk2, hk3, m2, m3, hn2, l2, c2, hn3, l3, c3]
  | cons p R =>
    have hlt : i < (iterP (Sp l a) (x, y) i).length := by
      have := congrArg List.length hR
      simp at this
      omega
    have hRl : (iterP (Sp l a) (x, y) i).length - i = R.length + 1 := by
      have := congrArg List.length hR
      simpa using this
    rw [hRl]
    have hl1 := load_fl (f := prc) (sz := 2) (by simp) D R p
    have hst : PF Try.prog 11 [sigs l, .agg a.cs, i64 p.1, i64 p.2] (way (Sp l a p).1 (Sp l a p).2) := step_PF hF p.1 p.2
    have hlaw := stepOf_law hF p.1 p.2
    rw [show stepOf l a p.1 p.2 = Sp l a p from rfl] at hlaw
    obtain ⟨q1, q2, q3⟩ := hlaw
    have hdn : (iterP (Sp l a) (x, y) i).take (i + 1) = (iterP (Sp l a) (x, y) i).take i ++ [p] := by
      rw [List.take_add_one]
      have : (iterP (Sp l a) (x, y) i)[i]? = some p := by
        have h0 := congrArg (·[0]?) hR
        simpa using h0
      rw [this]
      rfl
    generalize hDn : (iterP (Sp l a) (x, y) i).take i = Dn at *
    generalize hw : Sp l a p = w at *
    obtain ⟨k, ps⟩ := w
    have hk3 : k.toNat < 4 := by simp only at q2; omega
    have hml : (kinds l a k Dn).length + 1 ≤ maxA := by
      have h1 : (kinds l a k Dn).length ≤ Dn.length := List.length_filter_le _ _
      have h2 : Dn.length ≤ 10001 := by rw [← hDn]; simp; omega
      unfold maxA
      omega
    have hfl := fl_len (f := prc) (sz := 2) (by simp) (kinds l a k Dn)
    have hap := app_fl (f := prc) (sz := 2) (by simp) (kinds l a k Dn) [p]
    rw [fl_cons, fl_nil, List.append_nil] at hap
    have hs3 : ¬ 4 + k.toNat = 3 := by omega
    have hs8 : ¬ 4 + k.toNat = 8 := by omega
    have hs9 : ¬ 4 + k.toNat = 9 := by omega
    have hne : ¬ 9 = 4 + k.toNat := by omega
    have hne' : ¬ 8 = 4 + k.toNat := by omega
    have hlk : lookA false [.int .i64] [.int .i64 k] (F.map ent) = some (mget F k) := by rw [lookA_map (K := fun k => i64 k) (V := fun v : AV => v) intK intC k F]; simp
    have hup : ∀ v, updA false [.int .i64] [.int .i64 k] (i64 k) v (F.map ent) = some ((mput F k v).map ent) := fun v => updA_map (K := fun k => i64 k) (V := fun v : AV => v) intK intC k v F
    refine by_way (A := ?G) (fun key => ?main) ?sub
    case main =>
      rcases loc_len hf k with ⟨m2, s2, z2⟩ | ⟨g2, m2, s2, z2⟩
      · simp (maxSteps := 3000000) [-List.length_flatten, -List.map_drop, -List.map_take, Function.comp_def, argsT, Opd.ev, Tm.get, put, ares, mapMo, ares1, snilP, bldParts, bslParts, putAt, AV.cells, AV.one, astore, aload, loadCs, callArgs, abin, abinInt, aapp, elems, appMore, appNone, preLen, aFa, aFld, apart, aExt, aPick, aNot, aLens, aEqa, cellsK, fitsA, LK.fitsA, leavesA, leafA, nilD, aNilc, aCint, aCid, alive, alen, alenOk, Rle, lePs, len_flat, ↓hl1, aIarr, aindex]
        refine fun _ => ⟨by omega, ?_⟩
        refine PF.call hst 9 (by simp [lePs, -List.length_flatten, -List.map_drop, -List.map_take, Function.comp_def, len_flat]) ?_
        simp (maxSteps := 3000000) [-List.length_flatten, -List.map_drop, -List.map_take, Function.comp_def, argsT, Opd.ev, Tm.get, put, ares, mapMo, ares1, snilP, bldParts, bslParts, putAt, AV.cells, AV.one, astore, aload, loadCs, callArgs, abin, abinInt, aapp, elems, appMore, appNone, preLen, aFa, aFld, apart, aExt, aPick, aNot, aLens, aEqa, cellsK, fitsA, LK.fitsA, leavesA, leafA, nilD, aNilc, aCint, aCid, alive, alen, alenOk, Rle, lePs, len_flat, Kc, alkp, amap, hlk, m2, disP_cons, indB, apartB, apartS, refA, aliveRd, aupd, hup, chunk]
        refine fun h1 => ⟨h1, ?_⟩
        refine run_markT ((14, .ptr 9 0 0) :: allT l gl (D.length * 2 + 2) R.length) [.cells 0 a.cs, .map 0 (setP (iterP (Sp l a) (x, y) i)), .cells gl (fl prc (D ++ p :: R)), .map 0 ((nextF l a F Dn k).map ent), slotB l a (nextF l a F Dn k) (Dn ++ [p]) 0, slotB l a (nextF l a F Dn k) (Dn ++ [p]) 1, slotB l a (nextF l a F Dn k) (Dn ++ [p]) 2, slotB l a (nextF l a F Dn k) (Dn ++ [p]) 3, .cells 0 [i64 p.1, i64 p.2], .cells 0 [i64 k, prs ps]] (retell_new hf (by rw [hw]) q2 m2 (by omega) (by simp [mvT, Tm.get, mvV]) (by simp)) ?_
        exact key ()
      · have hHk : [.cells 0 a.cs, .map 0 (setP (iterP (Sp l a) (x, y) i)), .cells gl (fl prc (D ++ p :: R)), .map 0 (F.map ent), slotB l a F Dn 0, slotB l a F Dn 1, slotB l a F Dn 2, slotB l a F Dn 3, .cells 0 [i64 p.1, i64 p.2], .cells 0 [i64 k, prs ps]][4 + k.toNat]? = some (.cells g2 (fl prc (kinds l a k Dn))) := by
          rw [← s2]
          have hk4 : k = 0 ∨ k = 1 ∨ k = 2 ∨ k = 3 := by simp only at q2; omega
          rcases hk4 with rfl | rfl | rfl | rfl <;> rfl
        simp (maxSteps := 3000000) [-List.length_flatten, -List.map_drop, -List.map_take, Function.comp_def, argsT, Opd.ev, Tm.get, put, ares, mapMo, ares1, snilP, bldParts, bslParts, putAt, AV.cells, AV.one, astore, aload, loadCs, callArgs, abin, abinInt, aapp, elems, appMore, appNone, preLen, aFa, aFld, apart, aExt, aPick, aNot, aLens, aEqa, cellsK, fitsA, LK.fitsA, leavesA, leafA, nilD, aNilc, aCint, aCid, alive, alen, alenOk, Rle, lePs, len_flat, ↓hl1, aIarr, aindex]
        refine fun _ => ⟨by omega, ?_⟩
        refine PF.call hst 9 (by simp [lePs, -List.length_flatten, -List.map_drop, -List.map_take, Function.comp_def, len_flat]) ?_
        simp (maxSteps := 3000000) [-List.length_flatten, -List.map_drop, -List.map_take, Function.comp_def, argsT, Opd.ev, Tm.get, put, ares, mapMo, ares1, snilP, bldParts, bslParts, putAt, AV.cells, AV.one, astore, aload, loadCs, callArgs, abin, abinInt, aapp, elems, appMore, appNone, preLen, aFa, aFld, apart, aExt, aPick, aNot, aLens, aEqa, cellsK, fitsA, LK.fitsA, leavesA, leafA, nilD, aNilc, aCint, aCid, alive, alen, alenOk, Rle, lePs, len_flat, Kc, alkp, amap, hlk, m2, disP_cons, indB, apartB, apartS, refA, aliveRd, aupd, hup, chunk, hne, hne', ↓hHk, hml, hfl, ↓hap, List.getElem_set, hs3, hs8, hs9]
        intro _ _
        refine run_markT ((14, .ptr 9 0 0) :: allT l gl (D.length * 2 + 2) R.length) [.cells 0 a.cs, .map 0 (setP (iterP (Sp l a) (x, y) i)), .cells gl (fl prc (D ++ p :: R)), .map 0 ((nextF l a F Dn k).map ent), slotB l a (nextF l a F Dn k) (Dn ++ [p]) 0, slotB l a (nextF l a F Dn k) (Dn ++ [p]) 1, slotB l a (nextF l a F Dn k) (Dn ++ [p]) 2, slotB l a (nextF l a F Dn k) (Dn ++ [p]) 3, .cells 0 [i64 p.1, i64 p.2], .cells 0 [i64 k, prs ps]] (retell_old hf (by rw [hw]) q2 m2 (by omega) (by simp [Tm.get]) (by simp)) ?_
        exact key ()
    case sub =>
      have hpm : p ∈ iterP (Sp l a) (x, y) i := List.mem_of_mem_drop (by rw [hR]; simp)
      have hdr : (iterP (Sp l a) (x, y) i).drop (i + 1) = R := by
        have := congrArg List.tail hR
        simpa using this
      have hF' := nextF_ok hf (by rw [hw]) hk3
      generalize nextF l a F Dn k = F' at *
      simp (maxSteps := 3000000) [-List.length_flatten, -List.map_drop, -List.map_take, Function.comp_def, argsT, Opd.ev, Tm.get, put, ares, mapMo, ares1, snilP, bldParts, bslParts, putAt, AV.cells, AV.one, astore, aload, loadCs, callArgs, abin, abinInt, aapp, elems, appMore, appNone, preLen, aFa, aFld, apart, aExt, aPick, aNot, aLens, aEqa, cellsK, fitsA, LK.fitsA, leavesA, leafA, nilD, aNilc, aCint, aCid, alive, alen, alenOk, Rle, lePs, len_flat]
      intro hpl
      refine run_loopK (fun m T H => ∃ (j g' : Nat) (D' : List Pr), m = ps.length - j ∧ j ≤ ps.length ∧
          T = (56, i64 j) :: (55, i64 ps.length) :: (54, prs ps) :: allT l g' (D'.length * 2) ((growP (iterP (Sp l a) (x, y) i) (ps.take j)).length - (i + 1)) ∧
          H = allH l a (growP (iterP (Sp l a) (x, y) i) (ps.take j)) g' (D' ++ (growP (iterP (Sp l a) (x, y) i) (ps.take j)).drop (i + 1)) F' (Dn ++ [p]))
        ps.length ((56, i64 0) :: (55, i64 ps.length) :: (54, prs ps) :: allT l gl (D.length * 2 + 2) R.length) (allH l a (iterP (Sp l a) (x, y) i) gl (D ++ p :: R) F' (Dn ++ [p]))
        (Wk.tell 8 (by omega) (by simp [Tm.get]) ⟨by simp, by simp, prs_RL _ _, allT_RL _ _ _ _ (Nat.le_refl _)⟩ rfl (allH_RL hF' (Nat.le_refl _))) ⟨0, gl, D ++ [p], rfl, Nat.zero_le _, ?_, ?_⟩ ?_
      · have e : growP (iterP (Sp l a) (x, y) i) (ps.take 0) = iterP (Sp l a) (x, y) i := by simp [growP]
        have e2 : (D ++ [p]).length * 2 = D.length * 2 + 2 := by simp; omega
        have e3 : (iterP (Sp l a) (x, y) i).length - (i + 1) = R.length := by omega
        rw [e, e2, e3]
        rfl
      · have e : growP (iterP (Sp l a) (x, y) i) (ps.take 0) = iterP (Sp l a) (x, y) i := by simp [growP]
        rw [e, hdr]
        simp
      rintro m T H ⟨j, g', D', rfl, hj, rfl, rfl⟩ KI ix ir inn
      have hpre : i + 1 ≤ (growP (iterP (Sp l a) (x, y) i) (ps.take j)).length := by
        obtain ⟨t, ht, _⟩ := growP_pre (ps.take j) (iterP (Sp l a) (x, y) i)
        rw [ht, List.length_append]
        omega
      have hGl : (growP (iterP (Sp l a) (x, y) i) (ps.take j)).length ≤ 10001 := all_in hF h100 (x := (x, y)) (growP_nd _ (iterP_nd _ _ i)) fun z hz => by
        rcases mem_growP.1 hz with hz | hz
        · exact iterP_reach i z hz
        · refine .step (iterP_reach i p hpm) ?_
          rw [hw]
          exact List.mem_of_mem_take hz
      by_cases hjl : j < ps.length
      · have hnx := growP_next (o := iterP (Sp l a) (x, y) i) hjl
        have hjn : IntKind.i64.wrap ((j : Int) + 1) = ((j + 1 : Nat) : Int) := nxt hjl hpl
        generalize growP (iterP (Sp l a) (x, y) i) (ps.take j) = G at *
        generalize hq : gi ps j = q at *
        have hmid := fl_mid (f := prc) (sz := 2) (by simp) D' (G.drop (i + 1))
        have hEl : (G.drop (i + 1)).length = G.length - (i + 1) := by simp
        rw [hEl] at hmid
        have hml2 : G.length - (i + 1) + 1 ≤ maxA := by unfold maxA; omega
        by_cases hqG : q ∈ G
        · have hin : insP G q = G := by rw [insP, if_pos hqG]
          have hls : lookA true [.int .i64, .int .i64] [.int .i64 q.1, .int .i64 q.2] (setP G) = some (some (.bool true)) := lookA_in pairK pairC hqG
          simp (maxSteps := 3000000) [-List.length_flatten, -List.map_drop, -List.map_take, Function.comp_def, argsT, Opd.ev, Tm.get, put, ares, mapMo, ares1, snilP, bldParts, bslParts, putAt, AV.cells, AV.one, astore, aload, loadCs, callArgs, abin, abinInt, aapp, elems, appMore, appNone, preLen, aFa, aFld, apart, aExt, aPick, aNot, aLens, aEqa, cellsK, fitsA, LK.fitsA, leavesA, leafA, nilD, aNilc, aCint, aCid, alive, alen, alenOk, Rle, lePs, len_flat, hjl, alkp, amap, ↓hls, hqG, hq]
          refine inn _ _ (Kl_next (ps.length - (j + 1)) 8 (by omega) ⟨j + 1, g', D', rfl, hjl, rfl, rfl⟩ ?_ ?_ ?_ ?_ (by omega))
          · simp [Tm.get, hnx, hin, hjn]
          · exact ⟨by simp, by simp, prs_RL _ _, allT_RL _ _ _ _ (Nat.le_refl _)⟩
          · simp [hnx, hin]
          · exact allH_RL hF' (Nat.le_refl _)
        · have hin : insP G q = G ++ [q] := by rw [insP, if_neg hqG]
          have hls : lookA true [.int .i64, .int .i64] [.int .i64 q.1, .int .i64 q.2] (setP G) = some none := lookA_out pairK pairC hqG
          have hus : updA true [.int .i64, .int .i64] [.int .i64 q.1, .int .i64 q.2] (.agg [i64 q.1, i64 q.2]) (.bool true) (setP G) = some (setP (G ++ [q])) := updA_set pairK pairC q G hqG
          simp (maxSteps := 3000000) [-List.length_flatten, -List.map_drop, -List.map_take, Function.comp_def, argsT, Opd.ev, Tm.get, put, ares, mapMo, ares1, snilP, bldParts, bslParts, putAt, AV.cells, AV.one, astore, aload, loadCs, callArgs, abin, abinInt, aapp, elems, appMore, appNone, preLen, aFa, aFld, apart, aExt, aPick, aNot, aLens, aEqa, cellsK, fitsA, LK.fitsA, leavesA, leafA, nilD, aNilc, aCint, aCid, alive, alen, alenOk, Rle, lePs, len_flat, hjl, alkp, amap, ↓hls, hqG, hq, aupd, ↓hus, chunk, hmid.1, hmid.2, hml2, -List.map_append]
          refine fun _ _ => ?_
          have hd2 : (G ++ [q]).drop (i + 1) = G.drop (i + 1) ++ [q] := List.drop_append_of_le_length hpre
          refine inn _ _ (Kl_next (ps.length - (j + 1)) 8 (by omega) ⟨j + 1, g' + 1, [], rfl, hjl, rfl, rfl⟩ ?_ ?_ ?_ ?_ (by omega))
          · simp [Tm.get, hnx, hin, hjn]
            omega
          · exact ⟨by simp, by simp, prs_RL _ _, allT_RL _ _ _ _ (Nat.le_refl _)⟩
          · rw [hnx, hin, hd2]
            simp [fl_app, fl_cons, fl_nil]
          · exact allH_RL hF' (Nat.le_refl _)
      · have ej : j = ps.length := by omega
        subst ej
        have hnx : growP (iterP (Sp l a) (x, y) i) (ps.take ps.length) = iterP (Sp l a) (x, y) (i + 1) := by
          rw [List.take_length, iterP, if_pos hlt]
          have e : gi (iterP (Sp l a) (x, y) i) i = p := by
            have h0 := congrArg (·[0]?) hR
            have h1 : (iterP (Sp l a) (x, y) i)[i]? = some p := by simpa using h0
            simp [gi, List.getD, h1]
          rw [e, hw]
        rw [hnx] at hpre hGl ⊢
        have hdn2 : (iterP (Sp l a) (x, y) (i + 1)).take (i + 1) = Dn ++ [p] := by
          obtain ⟨t, ht⟩ := iterP_pre (Sp l a) (x, y) i
          rw [ht, List.take_append_of_le_length (by omega), hdn]
        simp (maxSteps := 3000000) [-List.length_flatten, -List.map_drop, -List.map_take, Function.comp_def, argsT, Opd.ev, Tm.get, put, ares, mapMo, ares1, snilP, bldParts, bslParts, putAt, AV.cells, AV.one, astore, aload, loadCs, callArgs, abin, abinInt, aapp, elems, appMore, appNone, preLen, aFa, aFld, apart, aExt, aPick, aNot, aLens, aEqa, cellsK, fitsA, LK.fitsA, leavesA, leafA, nilD, aNilc, aCint, aCid, alive, alen, alenOk, Rle, lePs, len_flat, hjl, ix]
        refine kn _ _ (Kl_next (10001 - (i + 1)) 8 (by omega) ⟨i + 1, g', D', F', rfl, hpre, by rw [hdn2]; exact hF', rfl, rfl⟩ (by simp [Tm.get]) (allT_RL _ _ _ _ (Nat.le_refl _)) ?_ ?_ (by omega))
        · rw [hdn2]
          rfl
        · rw [hdn2]
          exact allH_RL hF' (Nat.le_refl _)
end Go.AM

namespace Go.AM
open Go.Proofs
set_option maxRecDepth 100000
set_option linter.unusedVariables false
set_option linter.unusedSimpArgs false
/-! ### The document's rows of pairs -/
theorem gi_mem' {l : List Pr} {i : Nat} (h : i < l.length) : gi l i ∈ l := by
  have e : gi l i = l[i] := by simp [gi, List.getD, h]
  rw [e]
  exact List.getElem_mem h
theorem in40_PF (l : List Pr) (p : Pr) : PF Try.prog 40 [prs l, .agg [i64 p.1, i64 p.2]] (.bool (decide (p ∈ l))) := by
  refine PFk 9 hm Try.func40 c40_ok (Nat.le_of_ble_eq_true rfl) (fun x hx => by
    simp only [List.mem_cons, List.not_mem_nil, or_false] at hx
    rcases hx with rfl | rfl
    · exact prs_RL _ _
    · simp) (by simp) ?_
  simp (maxSteps := 3000000) [-List.length_flatten, -List.map_drop, -List.map_take, Function.comp_def, argsT, Opd.ev, Tm.get, put, ares, mapMo, ares1, snilP, bldParts, bslParts, putAt, AV.cells, AV.one, astore, aload, loadCs, callArgs, abin, abinInt, aapp, elems, appMore, appNone, preLen, aFa, aFld, apart, aExt, aPick, aNot, aLens, aEqa, cellsK, fitsA, LK.fitsA, leavesA, leafA, nilD, aNilc, aCint, aCid, alive, alen, alenOk, Rle, lePs, len_flat, c40]
  refine run_countK l.length 5 [(0, prs l), (3, .ptr 0 0 0)] [.cells 0 [i64 p.1, i64 p.2]] (fun i => ∀ j : Nat, j < i → ¬ gi l j = p) (Wk.sub (by simp [Tm.get])) (fun j hj => by omega) ?_
  intro i hi hj KK kx kr kn
  by_cases h : i < l.length
  · by_cases h1 : gi l i = p
    · have hm : p ∈ l := h1 ▸ gi_mem' h
      simp (maxSteps := 3000000) [-List.length_flatten, -List.map_drop, -List.map_take, Function.comp_def, argsT, Opd.ev, Tm.get, put, ares, mapMo, ares1, snilP, bldParts, bslParts, putAt, AV.cells, AV.one, astore, aload, loadCs, callArgs, abin, abinInt, aapp, elems, appMore, appNone, preLen, aFa, aFld, apart, aExt, aPick, aNot, aLens, aEqa, cellsK, fitsA, LK.fitsA, leavesA, leafA, nilD, aNilc, aCint, aCid, alive, alen, alenOk, Rle, lePs, len_flat, h, kr, h1, hm]
    · have h2 : ¬ ((gi l i).1 = p.1 ∧ (gi l i).2 = p.2) := fun hh => h1 (Prod.ext hh.1 hh.2)
      simp (maxSteps := 3000000) [-List.length_flatten, -List.map_drop, -List.map_take, Function.comp_def, argsT, Opd.ev, Tm.get, put, ares, mapMo, ares1, snilP, bldParts, bslParts, putAt, AV.cells, AV.one, astore, aload, loadCs, callArgs, abin, abinInt, aapp, elems, appMore, appNone, preLen, aFa, aFld, apart, aExt, aPick, aNot, aLens, aEqa, cellsK, fitsA, LK.fitsA, leavesA, leafA, nilD, aNilc, aCint, aCid, alive, alen, alenOk, Rle, lePs, len_flat, h]
      intro ha
      refine ⟨fun a b => absurd ⟨a, b⟩ h2, fun _ => ?_⟩
      refine kn _ _ (Kn_next 1 (by omega) (by omega) (fun j hl => ?_) (by simp [Tm.get, nxt h ha]) ⟨prs_RL _ _, by simp, trivial⟩ rfl (by simp [RLB]))
      rcases Nat.lt_or_ge j i with h3 | h3
      · exact hj j h3
      · have : j = i := by omega
        subst this
        exact h1
  · have hm : p ∉ l := fun hm => by
      obtain ⟨j, hj', rfl⟩ := List.getElem_of_mem hm
      exact hj j (by omega) (by simp [gi, List.getD, hj'])
    simp (maxSteps := 3000000) [-List.length_flatten, -List.map_drop, -List.map_take, Function.comp_def, argsT, Opd.ev, Tm.get, put, ares, mapMo, ares1, snilP, bldParts, bslParts, putAt, AV.cells, AV.one, astore, aload, loadCs, callArgs, abin, abinInt, aapp, elems, appMore, appNone, preLen, aFa, aFld, apart, aExt, aPick, aNot, aLens, aEqa, cellsK, fitsA, LK.fitsA, leavesA, leafA, nilD, aNilc, aCint, aCid, alive, alen, alenOk, Rle, lePs, len_flat, h, kx, hm]
theorem Rle_fl {H : AHeap} {i g n : Nat} {c : Bool} {X : List Pr} (h : H[i]? = some (.cells g (fl prc X))) (hn : n = X.length) : Rle 9 (prs X) (.loc i g 0 n 2 c) H := by
  subst hn
  have h1 := fl_len (f := prc) (sz := 2) (by simp) X
  have h2 := chunk_fl (f := prc) (sz := 2) (by simp) X
  simp [Rle, frz, h, h1, h2, leP]
theorem lay20_PF (l : List Pr) (p : Pr) (hl : l.length ≤ 1000000) : PF Try.prog 20 [prs l, .agg [i64 p.1, i64 p.2]] (prs (layP l p)) := by
  have hargs : ∀ x ∈ [prs l, .agg [i64 p.1, i64 p.2]], RL 0 x := fun x hx => by
    simp only [List.mem_cons, List.not_mem_nil, or_false] at hx
    rcases hx with rfl | rfl
    · exact prs_RL _ _
    · simp
  refine PFk 9 hm Try.func20 c20_ok (Nat.le_of_ble_eq_true rfl) hargs (prs_RL _ _) ?_
  have hlA : l.length + 2 ≤ maxA := by unfold maxA; omega
  simp (maxSteps := 3000000) [-List.length_flatten, -List.map_drop, -List.map_take, Function.comp_def, argsT, Opd.ev, Tm.get, put, ares, mapMo, ares1, snilP, bldParts, bslParts, putAt, AV.cells, AV.one, astore, aload, loadCs, callArgs, abin, abinInt, aapp, elems, appMore, appNone, preLen, aFa, aFld, apart, aExt, aPick, aNot, aLens, aEqa, cellsK, fitsA, LK.fitsA, leavesA, leafA, nilD, aNilc, aCint, aCid, alive, alen, alenOk, Rle, lePs, len_flat, c20]
  refine run_loopK (fun m T H => ∃ k g : Nat, m = l.length - k ∧ k ≤ l.length ∧ (∀ i : Nat, i < k → ltP (gi l i) p) ∧ T = [(6, i64 k), (5, .loc 1 g 0 k 2 false), (3, .ptr 0 0 0), (0, prs l)] ∧ H = [.cells 0 [i64 p.1, i64 p.2], .cells g (fl prc (l.take k))])
    l.length [(6, i64 0), (5, .loc 1 0 0 0 2 false), (3, .ptr 0 0 0), (0, prs l)] [.cells 0 [i64 p.1, i64 p.2], .cells 0 []]
    ((Wk.nil 5 2 (by simp [Tm.get])).trans (Wk.tell 2 (by omega) (by simp [Tm.get]) ⟨by simp, by simp, by simp, prs_RL _ _, trivial⟩ rfl (by simp [RLB]))) ⟨0, 0, rfl, Nat.zero_le _, fun i hi => by omega, rfl, by simp [fl]⟩ ?_
  rintro m T H ⟨k, g, rfl, hk, hlt, rfl, rfl⟩ KK kx kr kn
  have hfl : (fl prc (l.take k)).length = k * 2 := by
    rw [fl_len (f := prc) (sz := 2) (by simp), List.length_take, Nat.min_eq_left hk]
  have htk : (fl prc (l.take k)).take (k * 2) = fl prc (l.take k) := List.take_of_length_le (by omega)
  by_cases hkl : k < l.length ∧ ltP (gi l k) p
  · obtain ⟨h1, h2⟩ := hkl
    have hkn : IntKind.i64.wrap ((k : Int) + 1) = ((k + 1 : Nat) : Int) := nxt h1 (by omega)
    have hkA : k + 1 ≤ maxA := by omega
    have et : l.take (k + 1) = l.take k ++ [gi l k] := by
      have e : gi l k = l[k] := by simp [gi, List.getD, h1]
      rw [List.take_add_one, List.getElem?_eq_getElem h1, e]
      rfl
    have hn : ∀ i : Nat, i < k + 1 → ltP (gi l i) p := fun i hi => by
      rcases Nat.lt_or_ge i k with h3 | h3
      · exact hlt i h3
      · have : i = k := by omega
        subst this
        exact h2
    have fin : ∀ T', al (fun q => Tm.get T' q.1 = q.2) [(6, i64 ((k + 1 : Nat) : Int)), (5, .loc 1 (g + 1) 0 (k + 1) 2 false), (3, .ptr 0 0 0), (0, prs l)] → KK .normal T' [.cells 0 [i64 p.1, i64 p.2], .cells (g + 1) (fl prc (l.take k) ++ [i64 (gi l k).1, i64 (gi l k).2])] := fun T' hT =>
      kn _ _ (Kl_next (l.length - (k + 1)) 2 (by omega) ⟨k + 1, g + 1, rfl, h1, hn, rfl, rfl⟩ hT ⟨by simp, by simp, by simp, prs_RL _ _, trivial⟩ (by rw [et, fl_app, fl_cons, fl_nil]; rfl) ⟨by simp [RLB], fl_RL (by simp) _, trivial⟩ (by omega))
    by_cases h3 : (gi l k).1 < p.1
    · simp (maxSteps := 3000000) [-List.length_flatten, -List.map_drop, -List.map_take, Function.comp_def, argsT, Opd.ev, Tm.get, put, ares, mapMo, ares1, snilP, bldParts, bslParts, putAt, AV.cells, AV.one, astore, aload, loadCs, callArgs, abin, abinInt, aapp, elems, appMore, appNone, preLen, aFa, aFld, apart, aExt, aPick, aNot, aLens, aEqa, cellsK, fitsA, LK.fitsA, leavesA, leafA, nilD, aNilc, aCint, aCid, alive, alen, alenOk, Rle, lePs, len_flat, h1, h3, hfl, htk, hkA, chunk, aIarr, aindex]
      refine fun _ _ _ => fin _ ?_
      simp [Tm.get, hkn]
    · have h4 : (gi l k).1 = p.1 := by unfold ltP at h2; omega
      have h5 : (gi l k).2 < p.2 := by unfold ltP at h2; omega
      simp (maxSteps := 3000000) [-List.length_flatten, -List.map_drop, -List.map_take, Function.comp_def, argsT, Opd.ev, Tm.get, put, ares, mapMo, ares1, snilP, bldParts, bslParts, putAt, AV.cells, AV.one, astore, aload, loadCs, callArgs, abin, abinInt, aapp, elems, appMore, appNone, preLen, aFa, aFld, apart, aExt, aPick, aNot, aLens, aEqa, cellsK, fitsA, LK.fitsA, leavesA, leafA, nilD, aNilc, aCint, aCid, alive, alen, alenOk, Rle, lePs, len_flat, h1, h3, h4, h5, hfl, htk, hkA, chunk, aIarr, aindex]
      refine fun _ _ _ => ?_
      have fin := fin
      rw [h4] at fin
      refine fin _ ?_
      simp [Tm.get, hkn]
  · have hsp := layP_split l p k hk hlt (fun h => fun h' => hkl ⟨h, h'⟩)
    rw [hsp] at kx
    have hkA : k + 1 ≤ maxA := by omega
    have hkA0 : k ≤ maxA := by omega
    have hdl : ((l.drop k).map fun p => [i64 p.1, i64 p.2]).flatten = fl prc (l.drop k) := rfl
    have hX : (l.take k ++ [p]).length = k + 1 := by simp; omega
    have ha1 : fl prc (l.take k) ++ [i64 p.1, i64 p.2] = fl prc (l.take k ++ [p]) := by rw [fl_app, fl_cons, fl_nil]; rfl
    have hfl1 : (fl prc (l.take k ++ [p])).length = (k + 1) * 2 := by rw [fl_len (f := prc) (sz := 2) (by simp), hX]
    have htk1 : (fl prc (l.take k ++ [p])).take ((k + 1) * 2) = fl prc (l.take k ++ [p]) := List.take_of_length_le (by omega)
    have hb0 : fl prc (l.take k) ++ fl prc (l.drop k) = fl prc (l.take k ++ l.drop k) := (fl_app _ _).symm
    have hb1 : fl prc (l.take k ++ [p]) ++ fl prc (l.drop k) = fl prc (l.take k ++ [p] ++ l.drop k) := (fl_app _ _).symm
    by_cases h1 : k < l.length
    · have hne : ¬ (k : Int) = l.length := by omega
      have hne' : ¬ k = l.length := by omega
      have hlk : ¬ l.length ≤ k := by omega
      have hlk2 : k + (l.length - k) ≤ maxA := by omega
      have hlk3 : k + 1 + (l.length - k) ≤ maxA := by omega
      have hnl : ¬ ltP (gi l k) p := fun h => hkl ⟨h1, h⟩
      by_cases h2 : gi l k = p
      · have h3 : ¬ (gi l k).1 < p.1 := by rw [h2]; omega
        have h4 : (gi l k).1 = p.1 := by rw [h2]
        have h5 : ¬ (gi l k).2 < p.2 := by rw [h2]; omega
        have h6 : (gi l k).2 = p.2 := by rw [h2]
        have e : (if k = l.length ∨ gi l k ≠ p then [p] else []) = [] := by rw [if_neg]; rintro (h | h); exact hne' h; exact h h2
        rw [e, List.nil_append] at kx
        generalize hQ : Rle 9 (prs (l.take k ++ l.drop k)) = Q at *
        simp (maxSteps := 3000000) [-List.length_flatten, -List.map_drop, -List.map_take, Function.comp_def, argsT, Opd.ev, Tm.get, put, ares, mapMo, ares1, snilP, bldParts, bslParts, putAt, AV.cells, AV.one, astore, aload, loadCs, callArgs, abin, abinInt, aapp, elems, appMore, appNone, preLen, aFa, aFld, apart, aExt, aPick, aNot, aLens, aEqa, cellsK, fitsA, LK.fitsA, leavesA, leafA, nilD, aNilc, aCint, aCid, alive, alen, alenOk, Rle, lePs, len_flat, h1, h3, h4, h5, hfl, htk, hkA, hkA0, chunk, aIarr, aindex, kx, hne, h6, hlk, hlk2, hlk3, ↓hdl, ↓hb0]
        refine fun _ => ⟨by omega, fun _ => ?_⟩
        rw [← hQ]
        refine Rle_fl (X := l.take k ++ l.drop k) ?_ ?_
        · simp
        · simp
          omega
      · have e : (if k = l.length ∨ gi l k ≠ p then [p] else []) = [p] := by rw [if_pos (.inr h2)]
        rw [e] at kx
        generalize hQ : Rle 9 (prs (l.take k ++ ([p] ++ l.drop k))) = Q at *
        by_cases h4 : (gi l k).1 = p.1
        · have h3 : ¬ (gi l k).1 < p.1 := by omega
          have h5 : ¬ (gi l k).2 < p.2 := fun h => hnl (by unfold ltP; omega)
          have h6 : ¬ (gi l k).2 = p.2 := fun h => h2 (Prod.ext h4 h)
          simp (maxSteps := 3000000) [-List.length_flatten, -List.map_drop, -List.map_take, Function.comp_def, argsT, Opd.ev, Tm.get, put, ares, mapMo, ares1, snilP, bldParts, bslParts, putAt, AV.cells, AV.one, astore, aload, loadCs, callArgs, abin, abinInt, aapp, elems, appMore, appNone, preLen, aFa, aFld, apart, aExt, aPick, aNot, aLens, aEqa, cellsK, fitsA, LK.fitsA, leavesA, leafA, nilD, aNilc, aCint, aCid, alive, alen, alenOk, Rle, lePs, len_flat, h1, h3, h4, h5, hfl, htk, hkA, hkA0, chunk, aIarr, aindex, kx, hne, h6, hlk, hlk2, hlk3, ↓ha1, hfl1, htk1, ↓hdl, ↓hb1]
          refine fun _ _ => ⟨by omega, fun _ => ?_⟩
          rw [← hQ]
          refine Rle_fl (X := l.take k ++ ([p] ++ l.drop k)) ?_ ?_
          · simp
          · simp
            omega
        · have h3 : ¬ (gi l k).1 < p.1 := fun h => hnl (by unfold ltP; omega)
          simp (maxSteps := 3000000) [-List.length_flatten, -List.map_drop, -List.map_take, Function.comp_def, argsT, Opd.ev, Tm.get, put, ares, mapMo, ares1, snilP, bldParts, bslParts, putAt, AV.cells, AV.one, astore, aload, loadCs, callArgs, abin, abinInt, aapp, elems, appMore, appNone, preLen, aFa, aFld, apart, aExt, aPick, aNot, aLens, aEqa, cellsK, fitsA, LK.fitsA, leavesA, leafA, nilD, aNilc, aCint, aCid, alive, alen, alenOk, Rle, lePs, len_flat, h1, h3, h4, hfl, htk, hkA, hkA0, chunk, aIarr, aindex, kx, hne, hlk, hlk2, hlk3, ↓ha1, hfl1, htk1, ↓hdl, ↓hb1]
          refine fun _ _ => ⟨by omega, fun _ => ?_⟩
          rw [← hQ]
          refine Rle_fl (X := l.take k ++ ([p] ++ l.drop k)) ?_ ?_
          · simp
          · simp
            omega
    · have e : k = l.length := by omega
      have e2 : (if k = l.length ∨ gi l k ≠ p then [p] else []) = [p] := by rw [if_pos (.inl e)]
      have e3 : l.drop k = [] := List.drop_of_length_le (by omega)
      have h7 : (k : Int) = l.length := by omega
      have h8 : l.length ≤ k := by omega
      rw [e2, e3] at kx
      generalize hQ : Rle 9 (prs (l.take k ++ ([p] ++ []))) = Q at *
      simp (maxSteps := 3000000) [-List.length_flatten, -List.map_drop, -List.map_take, Function.comp_def, argsT, Opd.ev, Tm.get, put, ares, mapMo, ares1, snilP, bldParts, bslParts, putAt, AV.cells, AV.one, astore, aload, loadCs, callArgs, abin, abinInt, aapp, elems, appMore, appNone, preLen, aFa, aFld, apart, aExt, aPick, aNot, aLens, aEqa, cellsK, fitsA, LK.fitsA, leavesA, leafA, nilD, aNilc, aCint, aCid, alive, alen, alenOk, Rle, lePs, len_flat, h1, h7, h8, hfl, htk, hkA, hkA0, chunk, aIarr, aindex, kx, ↓ha1, hfl1, htk1, e3]
      refine fun _ _ => ?_
      rw [← hQ]
      refine Rle_fl (X := l.take k ++ ([p] ++ [])) ?_ ?_
      · simp
      · simp
        omega
end Go.AM

namespace Go.AM
open Go.Proofs
set_option maxRecDepth 100000
set_option linter.unusedVariables false
set_option linter.unusedSimpArgs false
/-! ### The document's All -/
theorem load_fst (D R : List Pr) (p : Pr) : loadCs 1 false ((fl prc (D ++ p :: R)).drop (D.length * 2)) = some (i64 p.1) := by
  have := drop_flat_at (f := prc) (sz := 2) (by simp) D (p :: R)
  rw [fl_def] at this
  rw [this]
  simp [loadCs]
theorem load_snd (D R : List Pr) (p : Pr) : loadCs 1 false ((fl prc (D ++ p :: R)).drop (D.length * 2 + 1)) = some (i64 p.2) := by
  have := drop_flat_at (f := prc) (sz := 2) (by simp) D (p :: R)
  rw [fl_def] at this
  rw [← List.drop_drop, this]
  simp [loadCs]
theorem srt_kinds_app {l : List Sg} {a : Kd} {k : Int} {Dn : List Pr} {p : Pr} : srt (kinds l a k (Dn ++ [p])) = if (Sp l a p).1 = k then layP (srt (kinds l a k Dn)) p else srt (kinds l a k Dn) := by
  rw [kinds_app]
  split
  · rw [srt_app]
  · rfl
theorem in40_loc {H : AHeap} {i g : Nat} {G : List Pr} {R : AV → AHeap → Prop} (q : Pr) (h : H[i]? = some (.cells g (fl prc G))) (hR : R (.bool (decide (q ∈ G))) H) : FT Try.prog 40 [.loc i g 0 G.length 2 false, .agg [i64 q.1, i64 q.2]] H R := by
  refine PF.borrow (in40_PF G q) 9 9 rfl ?_ hR
  have h1 := fl_len (f := prc) (sz := 2) (by simp) G
  have h2 := chunk_fl (f := prc) (sz := 2) (by simp) G
  simp [frz, h, h1, h2, leP, lePs]
set_option maxHeartbeats 2000000 in
theorem rall_PF {l : List Sg} {a : Kd} (hF : Fine l a) (h100 : a.keys.length ≤ 100) (x y : Int) : PF Try.prog 18 [sigs l, .agg a.cs, i64 x, i64 y] (.tuple [prs (foundP l a 2 (x, y)), prs (foundP l a 3 (x, y))]) := by
  refine PFk 9 hm Try.func18 c18_ok (Nat.le_of_ble_eq_true rfl) (by simp) (two_RL _ _ _) ?_
  simp (maxSteps := 3000000) [-List.length_flatten, -List.map_drop, -List.map_take, Function.comp_def, argsT, Opd.ev, Tm.get, put, ares, mapMo, ares1, snilP, bldParts, bslParts, putAt, AV.cells, AV.one, astore, aload, loadCs, callArgs, abin, abinInt, aapp, elems, appMore, appNone, preLen, aFa, aFld, apart, aExt, aPick, aNot, aLens, aEqa, cellsK, fitsA, LK.fitsA, leavesA, leafA, nilD, aNilc, aCint, aCid, alive, alen, alenOk, Rle, lePs, len_flat, c18]
  refine run_loopK (fun m T H => ∃ (i g : Nat), m = 10001 - i ∧ i ≤ (iterP (Sp l a) (x, y) i).length ∧
      T = [(13, i64 i), (12, prs (srt (kinds l a 3 ((iterP (Sp l a) (x, y) i).take i)))), (11, prs (srt (kinds l a 2 ((iterP (Sp l a) (x, y) i).take i)))), (10, .loc 1 g 0 (iterP (Sp l a) (x, y) i).length 2 false), (5, .ptr 0 0 0), (0, sigs l)] ∧
      H = [.cells 0 a.cs, .cells g (fl prc (iterP (Sp l a) (x, y) i))])
    10001 [(13, i64 0), (12, prs []), (11, prs []), (10, .loc 1 0 0 1 2 false), (5, .ptr 0 0 0), (0, sigs l)] [.cells 0 a.cs, .cells 0 [i64 x, i64 y]]
    ((Wk.tell (T' := [(13, i64 0), (12, .nilS), (11, .nilS), (10, .loc 1 0 0 1 2 false), (5, .ptr 0 0 0), (0, sigs l)]) 2 (by omega) (by simp [Tm.get]) (by simp) rfl (by simp [RLB])).trans (Wk.leT 9 (by simp [Tm.get, leP]))) ⟨0, 0, rfl, by simp, by simp [iterP, kinds, srt], by simp [iterP, fl]⟩ ?_
  rintro m T H ⟨i, g, rfl, hi, rfl, rfl⟩ KK kx kr kn
  have hL := iter_short hF h100 (x, y) i
  have hLA : (iterP (Sp l a) (x, y) i).length ≤ maxA := by unfold maxA; omega
  by_cases hlt : i < (iterP (Sp l a) (x, y) i).length
  · obtain ⟨p, R, hR⟩ : ∃ p R, (iterP (Sp l a) (x, y) i).drop i = p :: R := by
      cases h : (iterP (Sp l a) (x, y) i).drop i with
      | nil => simp at h; omega
      | cons p R => exact ⟨p, R, rfl⟩
    have hsplit : iterP (Sp l a) (x, y) i = (iterP (Sp l a) (x, y) i).take i ++ p :: R := by rw [← hR, List.take_append_drop]
    have htl : ((iterP (Sp l a) (x, y) i).take i).length = i := by simp; omega
    have hdn : (iterP (Sp l a) (x, y) i).take (i + 1) = (iterP (Sp l a) (x, y) i).take i ++ [p] := by
      rw [List.take_add_one]
      have : (iterP (Sp l a) (x, y) i)[i]? = some p := by
        have h0 := congrArg (·[0]?) hR
        simpa using h0
      rw [this]
      rfl
    have l1 := load_fst ((iterP (Sp l a) (x, y) i).take i) R p
    have l2 := load_snd ((iterP (Sp l a) (x, y) i).take i) R p
    have l3 := load_fl (f := prc) (sz := 2) (by simp) ((iterP (Sp l a) (x, y) i).take i) R p
    rw [← hsplit, htl] at l1 l2 l3
    have hst : PF Try.prog 14 [sigs l, .agg a.cs, i64 p.1, i64 p.2] (way (Sp l a p).1 (Sp l a p).2) := rstep_PF hF p.1 p.2
    have hpm : p ∈ iterP (Sp l a) (x, y) i := List.mem_of_mem_drop (by rw [hR]; simp)
    have hk2 := srt_kinds_app (l := l) (a := a) (k := 2) (Dn := (iterP (Sp l a) (x, y) i).take i) (p := p)
    have hk3 := srt_kinds_app (l := l) (a := a) (k := 3) (Dn := (iterP (Sp l a) (x, y) i).take i) (p := p)
    have hs2 : (srt (kinds l a 2 ((iterP (Sp l a) (x, y) i).take i))).length ≤ 1000000 := by
      rw [srt_len (kinds_nd ((iterP_nd _ _ i).sublist (List.take_sublist _ _)))]
      have h1 : (kinds l a 2 ((iterP (Sp l a) (x, y) i).take i)).length ≤ ((iterP (Sp l a) (x, y) i).take i).length := List.length_filter_le _ _
      omega
    have hs3 : (srt (kinds l a 3 ((iterP (Sp l a) (x, y) i).take i))).length ≤ 1000000 := by
      rw [srt_len (kinds_nd ((iterP_nd _ _ i).sublist (List.take_sublist _ _)))]
      have h1 : (kinds l a 3 ((iterP (Sp l a) (x, y) i).take i)).length ≤ ((iterP (Sp l a) (x, y) i).take i).length := List.length_filter_le _ _
      omega
    generalize hDn : (iterP (Sp l a) (x, y) i).take i = Dn at *
    generalize hw : Sp l a p = w at *
    obtain ⟨k, ps⟩ := w
    simp only at hk2 hk3
    refine by_way (A := ?G) (fun key => ?main) ?sub
    case main =>
      by_cases e2 : k = 2
      · have e3 : ¬ k = 3 := by omega
        simp (maxSteps := 3000000) [-List.length_flatten, -List.map_drop, -List.map_take, Function.comp_def, argsT, Opd.ev, Tm.get, put, ares, mapMo, ares1, snilP, bldParts, bslParts, putAt, AV.cells, AV.one, astore, aload, loadCs, callArgs, abin, abinInt, aapp, elems, appMore, appNone, preLen, aFa, aFld, apart, aExt, aPick, aNot, aLens, aEqa, cellsK, fitsA, LK.fitsA, leavesA, leafA, nilD, aNilc, aCint, aCid, alive, alen, alenOk, Rle, lePs, len_flat, hlt, aIarr, aindex, ↓l1, ↓l2]
        refine fun _ => ⟨_, hst, ?_⟩
        simp (maxSteps := 3000000) [-List.length_flatten, -List.map_drop, -List.map_take, Function.comp_def, argsT, Opd.ev, Tm.get, put, ares, mapMo, ares1, snilP, bldParts, bslParts, putAt, AV.cells, AV.one, astore, aload, loadCs, callArgs, abin, abinInt, aapp, elems, appMore, appNone, preLen, aFa, aFld, apart, aExt, aPick, aNot, aLens, aEqa, cellsK, fitsA, LK.fitsA, leavesA, leafA, nilD, aNilc, aCint, aCid, alive, alen, alenOk, Rle, lePs, len_flat, Kc, e2, ↓l3, hlt]
        refine PF.call (lay20_PF _ p hs2) 9 (by simp [lePs, -List.length_flatten, -List.map_drop, -List.map_take, Function.comp_def, len_flat]) ?_
        simp (maxSteps := 3000000) [-List.length_flatten, -List.map_drop, -List.map_take, Function.comp_def, argsT, Opd.ev, Tm.get, put, ares, mapMo, ares1, snilP, bldParts, bslParts, putAt, AV.cells, AV.one, astore, aload, loadCs, callArgs, abin, abinInt, aapp, elems, appMore, appNone, preLen, aFa, aFld, apart, aExt, aPick, aNot, aLens, aEqa, cellsK, fitsA, LK.fitsA, leavesA, leafA, nilD, aNilc, aCint, aCid, alive, alen, alenOk, Rle, lePs, len_flat, Kc]
        refine run_loopK (fun m T H => ∃ (j g' : Nat), m = ps.length - j ∧ j ≤ ps.length ∧
            T = [(15, i64 j), (14, .ptr 2 0 0), (13, i64 i), (12, prs (srt (kinds l a 3 (Dn ++ [p])))), (11, prs (srt (kinds l a 2 (Dn ++ [p])))), (10, .loc 1 g' 0 (growP (iterP (Sp l a) (x, y) i) (ps.take j)).length 2 false), (5, .ptr 0 0 0), (0, sigs l)] ∧
            H = [.cells 0 a.cs, .cells g' (fl prc (growP (iterP (Sp l a) (x, y) i) (ps.take j))), .cells 0 [i64 k, prs ps]])
          ps.length [(15, i64 0), (14, .ptr 2 0 0), (13, i64 i), (12, prs (srt (kinds l a 3 (Dn ++ [p])))), (11, prs (srt (kinds l a 2 (Dn ++ [p])))), (10, .loc 1 g 0 (iterP (Sp l a) (x, y) i).length 2 false), (5, .ptr 0 0 0), (0, sigs l)] [.cells 0 a.cs, .cells g (fl prc (iterP (Sp l a) (x, y) i)), .cells 0 [i64 k, prs ps]]
          (Wk.tell 3 (by omega) (by simp [Tm.get, hk2, hk3, e2]) ⟨by simp, by simp, by simp, prs_RL _ _, prs_RL _ _, by simp, by simp, by simp, trivial⟩ (by simp [e2]) ⟨by simp [RLB], fl_RL (by simp) _, cells_way_RL _ _ _, trivial⟩) ⟨0, g, rfl, Nat.zero_le _, by simp [growP], by simp [growP]⟩ ?_
        exact key ()
      by_cases e3 : k = 3
      · simp (maxSteps := 3000000) [-List.length_flatten, -List.map_drop, -List.map_take, Function.comp_def, argsT, Opd.ev, Tm.get, put, ares, mapMo, ares1, snilP, bldParts, bslParts, putAt, AV.cells, AV.one, astore, aload, loadCs, callArgs, abin, abinInt, aapp, elems, appMore, appNone, preLen, aFa, aFld, apart, aExt, aPick, aNot, aLens, aEqa, cellsK, fitsA, LK.fitsA, leavesA, leafA, nilD, aNilc, aCint, aCid, alive, alen, alenOk, Rle, lePs, len_flat, hlt, aIarr, aindex, ↓l1, ↓l2]
        refine fun _ => ⟨_, hst, ?_⟩
        simp (maxSteps := 3000000) [-List.length_flatten, -List.map_drop, -List.map_take, Function.comp_def, argsT, Opd.ev, Tm.get, put, ares, mapMo, ares1, snilP, bldParts, bslParts, putAt, AV.cells, AV.one, astore, aload, loadCs, callArgs, abin, abinInt, aapp, elems, appMore, appNone, preLen, aFa, aFld, apart, aExt, aPick, aNot, aLens, aEqa, cellsK, fitsA, LK.fitsA, leavesA, leafA, nilD, aNilc, aCint, aCid, alive, alen, alenOk, Rle, lePs, len_flat, Kc, e2, e3, ↓l3, hlt]
        refine PF.call (lay20_PF _ p hs3) 9 (by simp [lePs, -List.length_flatten, -List.map_drop, -List.map_take, Function.comp_def, len_flat]) ?_
        simp (maxSteps := 3000000) [-List.length_flatten, -List.map_drop, -List.map_take, Function.comp_def, argsT, Opd.ev, Tm.get, put, ares, mapMo, ares1, snilP, bldParts, bslParts, putAt, AV.cells, AV.one, astore, aload, loadCs, callArgs, abin, abinInt, aapp, elems, appMore, appNone, preLen, aFa, aFld, apart, aExt, aPick, aNot, aLens, aEqa, cellsK, fitsA, LK.fitsA, leavesA, leafA, nilD, aNilc, aCint, aCid, alive, alen, alenOk, Rle, lePs, len_flat, Kc]
        refine run_loopK (fun m T H => ∃ (j g' : Nat), m = ps.length - j ∧ j ≤ ps.length ∧
            T = [(15, i64 j), (14, .ptr 2 0 0), (13, i64 i), (12, prs (srt (kinds l a 3 (Dn ++ [p])))), (11, prs (srt (kinds l a 2 (Dn ++ [p])))), (10, .loc 1 g' 0 (growP (iterP (Sp l a) (x, y) i) (ps.take j)).length 2 false), (5, .ptr 0 0 0), (0, sigs l)] ∧
            H = [.cells 0 a.cs, .cells g' (fl prc (growP (iterP (Sp l a) (x, y) i) (ps.take j))), .cells 0 [i64 k, prs ps]])
          ps.length [(15, i64 0), (14, .ptr 2 0 0), (13, i64 i), (12, prs (srt (kinds l a 3 (Dn ++ [p])))), (11, prs (srt (kinds l a 2 (Dn ++ [p])))), (10, .loc 1 g 0 (iterP (Sp l a) (x, y) i).length 2 false), (5, .ptr 0 0 0), (0, sigs l)] [.cells 0 a.cs, .cells g (fl prc (iterP (Sp l a) (x, y) i)), .cells 0 [i64 k, prs ps]]
          (Wk.tell 3 (by omega) (by simp [Tm.get, hk2, hk3, e3]) ⟨by simp, by simp, by simp, prs_RL _ _, prs_RL _ _, by simp, by simp, by simp, trivial⟩ (by simp [e3]) ⟨by simp [RLB], fl_RL (by simp) _, cells_way_RL _ _ _, trivial⟩) ⟨0, g, rfl, Nat.zero_le _, by simp [growP], by simp [growP]⟩ ?_
        exact key ()
      · simp (maxSteps := 3000000) [-List.length_flatten, -List.map_drop, -List.map_take, Function.comp_def, argsT, Opd.ev, Tm.get, put, ares, mapMo, ares1, snilP, bldParts, bslParts, putAt, AV.cells, AV.one, astore, aload, loadCs, callArgs, abin, abinInt, aapp, elems, appMore, appNone, preLen, aFa, aFld, apart, aExt, aPick, aNot, aLens, aEqa, cellsK, fitsA, LK.fitsA, leavesA, leafA, nilD, aNilc, aCint, aCid, alive, alen, alenOk, Rle, lePs, len_flat, hlt, aIarr, aindex, ↓l1, ↓l2]
        refine fun _ => ⟨_, hst, ?_⟩
        simp (maxSteps := 3000000) [-List.length_flatten, -List.map_drop, -List.map_take, Function.comp_def, argsT, Opd.ev, Tm.get, put, ares, mapMo, ares1, snilP, bldParts, bslParts, putAt, AV.cells, AV.one, astore, aload, loadCs, callArgs, abin, abinInt, aapp, elems, appMore, appNone, preLen, aFa, aFld, apart, aExt, aPick, aNot, aLens, aEqa, cellsK, fitsA, LK.fitsA, leavesA, leafA, nilD, aNilc, aCint, aCid, alive, alen, alenOk, Rle, lePs, len_flat, Kc, e2, e3, ↓l3, hlt]
        refine run_loopK (fun m T H => ∃ (j g' : Nat), m = ps.length - j ∧ j ≤ ps.length ∧
            T = [(15, i64 j), (14, .ptr 2 0 0), (13, i64 i), (12, prs (srt (kinds l a 3 (Dn ++ [p])))), (11, prs (srt (kinds l a 2 (Dn ++ [p])))), (10, .loc 1 g' 0 (growP (iterP (Sp l a) (x, y) i) (ps.take j)).length 2 false), (5, .ptr 0 0 0), (0, sigs l)] ∧
            H = [.cells 0 a.cs, .cells g' (fl prc (growP (iterP (Sp l a) (x, y) i) (ps.take j))), .cells 0 [i64 k, prs ps]])
          ps.length [(15, i64 0), (14, .ptr 2 0 0), (13, i64 i), (12, prs (srt (kinds l a 3 (Dn ++ [p])))), (11, prs (srt (kinds l a 2 (Dn ++ [p])))), (10, .loc 1 g 0 (iterP (Sp l a) (x, y) i).length 2 false), (5, .ptr 0 0 0), (0, sigs l)] [.cells 0 a.cs, .cells g (fl prc (iterP (Sp l a) (x, y) i)), .cells 0 [i64 k, prs ps]]
          (Wk.tell 3 (by omega) (by simp [Tm.get, hk2, hk3, e2, e3]) ⟨by simp, by simp, by simp, prs_RL _ _, prs_RL _ _, by simp, by simp, by simp, trivial⟩ (by simp) ⟨by simp [RLB], fl_RL (by simp) _, cells_way_RL _ _ _, trivial⟩) ⟨0, g, rfl, Nat.zero_le _, by simp [growP], by simp [growP]⟩ ?_
        exact key ()
    case sub =>
      rintro m T H ⟨j, g', rfl, hj, rfl, rfl⟩ KI ix ir inn
      have hGl : (growP (iterP (Sp l a) (x, y) i) (ps.take j)).length ≤ 10001 := all_in hF h100 (x := (x, y)) (growP_nd _ (iterP_nd _ _ i)) fun z hz => by
        rcases mem_growP.1 hz with hz | hz
        · exact iterP_reach i z hz
        · refine .step (iterP_reach i p hpm) ?_
          rw [hw]
          exact List.mem_of_mem_take hz
      by_cases hjl : j < ps.length
      · have hnx := growP_next (o := iterP (Sp l a) (x, y) i) hjl
        generalize growP (iterP (Sp l a) (x, y) i) (ps.take j) = G at *
        generalize hq : gi ps j = q at *
        have hml2 : G.length + 1 ≤ maxA := by unfold maxA; omega
        have hfl := fl_len (f := prc) (sz := 2) (by simp) G
        have hap : (fl prc G).take (G.length * 2) ++ [i64 q.1, i64 q.2] = fl prc (G ++ [q]) := by
          have := app_fl (f := prc) (sz := 2) (by simp) G [q]
          rw [fl_cons, fl_nil, List.append_nil] at this
          exact this
        simp (maxSteps := 3000000) [-List.length_flatten, -List.map_drop, -List.map_take, Function.comp_def, argsT, Opd.ev, Tm.get, put, ares, mapMo, ares1, snilP, bldParts, bslParts, putAt, AV.cells, AV.one, astore, aload, loadCs, callArgs, abin, abinInt, aapp, elems, appMore, appNone, preLen, aFa, aFld, apart, aExt, aPick, aNot, aLens, aEqa, cellsK, fitsA, LK.fitsA, leavesA, leafA, nilD, aNilc, aCint, aCid, alive, alen, alenOk, Rle, lePs, len_flat, hjl, hq]
        refine fun hpl => in40_loc q rfl ?_
        have hjn : IntKind.i64.wrap ((j : Int) + 1) = ((j + 1 : Nat) : Int) := nxt hjl hpl
        by_cases hqG : q ∈ G
        · have hin : insP G q = G := by rw [insP, if_pos hqG]
          simp (maxSteps := 3000000) [-List.length_flatten, -List.map_drop, -List.map_take, Function.comp_def, argsT, Opd.ev, Tm.get, put, ares, mapMo, ares1, snilP, bldParts, bslParts, putAt, AV.cells, AV.one, astore, aload, loadCs, callArgs, abin, abinInt, aapp, elems, appMore, appNone, preLen, aFa, aFld, apart, aExt, aPick, aNot, aLens, aEqa, cellsK, fitsA, LK.fitsA, leavesA, leafA, nilD, aNilc, aCint, aCid, alive, alen, alenOk, Rle, lePs, len_flat, Kc, hqG]
          refine inn _ _ (Kl_next (ps.length - (j + 1)) 3 (by omega) ⟨j + 1, g', rfl, hjl, rfl, rfl⟩ ?_ ⟨by simp, by simp, by simp, prs_RL _ _, prs_RL _ _, by simp, by simp, by simp, trivial⟩ ?_ ⟨by simp [RLB], fl_RL (by simp) _, cells_way_RL _ _ _, trivial⟩ (by omega))
          · simp [Tm.get, hnx, hin, hjn]
          · simp [hnx, hin]
        · have hin : insP G q = G ++ [q] := by rw [insP, if_neg hqG]
          simp (maxSteps := 3000000) [-List.length_flatten, -List.map_drop, -List.map_take, Function.comp_def, argsT, Opd.ev, Tm.get, put, ares, mapMo, ares1, snilP, bldParts, bslParts, putAt, AV.cells, AV.one, astore, aload, loadCs, callArgs, abin, abinInt, aapp, elems, appMore, appNone, preLen, aFa, aFld, apart, aExt, aPick, aNot, aLens, aEqa, cellsK, fitsA, LK.fitsA, leavesA, leafA, nilD, aNilc, aCint, aCid, alive, alen, alenOk, Rle, lePs, len_flat, Kc, hqG, hjl, hq, hfl, hml2, chunk, ↓hap]
          skip
          refine fun _ _ => ?_
          refine inn _ _ (Kl_next (ps.length - (j + 1)) 3 (by omega) ⟨j + 1, g' + 1, rfl, hjl, rfl, rfl⟩ ?_ ⟨by simp, by simp, by simp, prs_RL _ _, prs_RL _ _, by simp, by simp, by simp, trivial⟩ ?_ ⟨by simp [RLB], fl_RL (by simp) _, cells_way_RL _ _ _, trivial⟩ (by omega))
          · simp [Tm.get, hnx, hin, hjn]
          · simp [hnx, hin]
      · have ej : j = ps.length := by omega
        subst ej
        have hnx : growP (iterP (Sp l a) (x, y) i) (ps.take ps.length) = iterP (Sp l a) (x, y) (i + 1) := by
          rw [List.take_length, iterP, if_pos hlt]
          have e : gi (iterP (Sp l a) (x, y) i) i = p := by
            have h0 := congrArg (·[0]?) hR
            have h1 : (iterP (Sp l a) (x, y) i)[i]? = some p := by simpa using h0
            simp [gi, List.getD, h1]
          rw [e, hw]
        rw [hnx] at hGl ⊢
        have hin : IntKind.i64.wrap ((i : Int) + 1) = ((i + 1 : Nat) : Int) := nxt hlt hLA
        have hle : i + 1 ≤ (iterP (Sp l a) (x, y) (i + 1)).length := Nat.le_trans hlt (iterP_len i)
        have hdn2 : (iterP (Sp l a) (x, y) (i + 1)).take (i + 1) = Dn ++ [p] := by
          obtain ⟨t, ht⟩ := iterP_pre (Sp l a) (x, y) i
          rw [ht, List.take_append_of_le_length (by omega), hdn]
        simp (maxSteps := 3000000) [-List.length_flatten, -List.map_drop, -List.map_take, Function.comp_def, argsT, Opd.ev, Tm.get, put, ares, mapMo, ares1, snilP, bldParts, bslParts, putAt, AV.cells, AV.one, astore, aload, loadCs, callArgs, abin, abinInt, aapp, elems, appMore, appNone, preLen, aFa, aFld, apart, aExt, aPick, aNot, aLens, aEqa, cellsK, fitsA, LK.fitsA, leavesA, leafA, nilD, aNilc, aCint, aCid, alive, alen, alenOk, Rle, lePs, len_flat, hjl, ix]
        refine fun _ => ?_
        refine kn _ _ (Kl_next (10001 - (i + 1)) 2 (by omega) ⟨i + 1, g', rfl, hle, rfl, rfl⟩ ?_ ⟨by simp, prs_RL _ _, prs_RL _ _, by simp, by simp, by simp, trivial⟩ rfl ⟨by simp [RLB], fl_RL (by simp) _, trivial⟩ (by omega))
        rw [hdn2]
        simp [Tm.get, hin]
  · have e1 : (iterP (Sp l a) (x, y) i).length = i := by omega
    have eL : iterP (Sp l a) (x, y) i = allP l a (x, y) := (iterP_stop _ _ (by omega) many (by rw [many_eq]; omega)).symm
    have eD : (iterP (Sp l a) (x, y) i).take i = allP l a (x, y) := by rw [eL]; exact List.take_of_length_le (by rw [← eL]; omega)
    rw [eD]
    simp (maxSteps := 3000000) [-List.length_flatten, -List.map_drop, -List.map_take, Function.comp_def, argsT, Opd.ev, Tm.get, put, ares, mapMo, ares1, snilP, bldParts, bslParts, putAt, AV.cells, AV.one, astore, aload, loadCs, callArgs, abin, abinInt, aapp, elems, appMore, appNone, preLen, aFa, aFld, apart, aExt, aPick, aNot, aLens, aEqa, cellsK, fitsA, LK.fitsA, leavesA, leafA, nilD, aNilc, aCint, aCid, alive, alen, alenOk, Rle, lePs, len_flat, hlt, kx]
    exact fun _ => ⟨rfl, rfl⟩
end Go.AM

namespace Go.AM
open Go.Proofs
set_option maxRecDepth 100000
set_option linter.unusedVariables false
set_option linter.unusedSimpArgs false
def c6 : AFn := ⟨59, .seq (.reg false [⟨some 1, .box (.tmp 0), none⟩, ⟨some 2, .mov (.lit (.bool false)), none⟩]) (.seq (.reg false [⟨some 12, .fa 0 (.tmp 1), none⟩, ⟨some 13, .load 1 false (.tmp 12), none⟩, ⟨some 3, .mov (.tmp 13), none⟩]) (.seq (.reg false [⟨some 14, .fa 1 (.tmp 1), none⟩, ⟨some 15, .load 2 true (.tmp 14), none⟩, ⟨some 4, .alloc [.nilS, .nilS], none⟩, ⟨none, .store 2 (.tmp 4) (.tmp 15), none⟩]) (.seq (.reg false [⟨some 16, .fa 3 (.tmp 1), none⟩, ⟨some 17, .load 1 false (.tmp 16), none⟩, ⟨some 5, .mov (.tmp 17), none⟩]) (.seq (.reg false [⟨some 18, .fa 4 (.tmp 1), none⟩, ⟨some 19, .load 1 false (.tmp 18), none⟩, ⟨some 6, .mov (.tmp 19), none⟩]) (.seq (.reg false [⟨some 20, .call (.lit (.fn (.func 9) [] [])) [], none⟩, ⟨some 7, .mov (.tmp 20), none⟩]) (.seq (.seq (.reg false [⟨some 21, .mov (.tmp 3), none⟩, ⟨some 22, .load 2 true (.tmp 4), none⟩, ⟨some 23, .call (.lit (.fn (.func 10) [] [])) [.tmp 21, .tmp 22], none⟩, ⟨some 24, .not (.tmp 23), none⟩, ⟨some 25, .mov (.tmp 24), none⟩, ⟨some 26, .fa 0 (.tmp 4), some ((25, false))⟩, ⟨some 27, .load 1 false (.tmp 26), some ((25, false))⟩, ⟨some 28, .len (.tmp 27), some ((25, false))⟩, ⟨some 29, .bin .gtr (.tmp 28) (.lit (.int .i64 100)), some ((25, false))⟩, ⟨some 30, .pick (.tmp 25) (.lit (.bool true)) (.tmp 29), none⟩]) (.cond (.tmp 30) (.seq (.reg false [⟨some 31, .mov (.tmp 7), none⟩, ⟨some 2, .mov (.tmp 31), none⟩]) .ret) .skip)) (.seq (.reg false [⟨some 33, .mov (.tmp 3), none⟩, ⟨some 34, .load 2 true (.tmp 4), none⟩, ⟨some 35, .mov (.tmp 5), none⟩, ⟨some 36, .mov (.tmp 6), none⟩, ⟨some 37, .call (.lit (.fn (.func 17) [] [])) [.tmp 33, .tmp 34, .tmp 35, .tmp 36], none⟩, ⟨some 32, .mov (.tmp 37), none⟩, ⟨some 38, .ext (.tmp 32) 0, none⟩, ⟨some 39, .ext (.tmp 32) 1, none⟩, ⟨some 8, .mov (.tmp 38), none⟩, ⟨some 9, .mov (.tmp 39), none⟩]) (.seq (.reg false [⟨some 41, .mov (.tmp 3), none⟩, ⟨some 42, .load 2 true (.tmp 4), none⟩, ⟨some 43, .mov (.tmp 5), none⟩, ⟨some 44, .mov (.tmp 6), none⟩, ⟨some 45, .call (.lit (.fn (.func 18) [] [])) [.tmp 41, .tmp 42, .tmp 43, .tmp 44], none⟩, ⟨some 40, .mov (.tmp 45), none⟩, ⟨some 46, .ext (.tmp 40) 0, none⟩, ⟨some 47, .ext (.tmp 40) 1, none⟩, ⟨some 10, .mov (.tmp 46), none⟩, ⟨some 11, .mov (.tmp 47), none⟩]) (.seq (.reg false [⟨some 48, .mov (.tmp 7), none⟩, ⟨some 49, .mov (.tmp 48), none⟩, ⟨some 50, .mov (.tmp 8), some ((49, true))⟩, ⟨some 51, .mov (.tmp 10), some ((49, true))⟩, ⟨some 52, .call (.lit (.fn (.func 19) [] [])) [.tmp 50, .tmp 51], some ((49, true))⟩, ⟨some 53, .pick (.tmp 49) (.tmp 52) (.lit (.bool false)), none⟩, ⟨some 54, .mov (.tmp 53), none⟩, ⟨some 55, .mov (.tmp 9), some ((54, true))⟩, ⟨some 56, .mov (.tmp 11), some ((54, true))⟩, ⟨some 57, .call (.lit (.fn (.func 19) [] [])) [.tmp 55, .tmp 56], some ((54, true))⟩, ⟨some 58, .pick (.tmp 54) (.tmp 57) (.lit (.bool false)), none⟩, ⟨some 2, .mov (.tmp 58), none⟩]) .ret))))))))), [.tmp 2]⟩
def c7 : AFn := ⟨162, .seq (.reg false [⟨some 1, .box (.tmp 0), none⟩, ⟨some 2, .mov (.lit (.bool false)), none⟩]) (.seq (.reg false [⟨some 19, .fa 0 (.tmp 1), none⟩, ⟨some 20, .load 1 false (.tmp 19), none⟩, ⟨some 3, .mov (.tmp 20), none⟩]) (.seq (.reg false [⟨some 21, .fa 1 (.tmp 1), none⟩, ⟨some 22, .load 2 true (.tmp 21), none⟩, ⟨some 4, .alloc [.nilS, .nilS], none⟩, ⟨none, .store 2 (.tmp 4) (.tmp 22), none⟩]) (.seq (.reg false [⟨some 23, .fa 3 (.tmp 1), none⟩, ⟨some 24, .load 1 false (.tmp 23), none⟩, ⟨some 5, .mov (.tmp 24), none⟩]) (.seq (.reg false [⟨some 25, .fa 4 (.tmp 1), none⟩, ⟨some 26, .load 1 false (.tmp 25), none⟩, ⟨some 6, .mov (.tmp 26), none⟩]) (.seq (.reg false [⟨some 27, .call (.lit (.fn (.func 9) [] [])) [], none⟩, ⟨some 7, .mov (.tmp 27), none⟩]) (.seq (.seq (.reg false [⟨some 28, .mov (.tmp 3), none⟩, ⟨some 29, .load 2 true (.tmp 4), none⟩, ⟨some 30, .call (.lit (.fn (.func 10) [] [])) [.tmp 28, .tmp 29], none⟩, ⟨some 31, .not (.tmp 30), none⟩, ⟨some 32, .mov (.tmp 31), none⟩, ⟨some 33, .mov (.tmp 5), some ((32, false))⟩, ⟨some 34, .bin .lss (.tmp 33) (.lit (.int .i64 0)), some ((32, false))⟩, ⟨some 35, .pick (.tmp 32) (.lit (.bool true)) (.tmp 34), none⟩, ⟨some 36, .mov (.tmp 35), none⟩, ⟨some 37, .mov (.tmp 5), some ((36, false))⟩, ⟨some 38, .fa 0 (.tmp 4), some ((36, false))⟩, ⟨some 39, .load 1 false (.tmp 38), some ((36, false))⟩, ⟨some 40, .len (.tmp 39), some ((36, false))⟩, ⟨some 41, .bin .geq (.tmp 37) (.tmp 40), some ((36, false))⟩, ⟨some 42, .pick (.tmp 36) (.lit (.bool true)) (.tmp 41), none⟩, ⟨some 43, .mov (.tmp 42), none⟩, ⟨some 44, .mov (.tmp 6), some ((43, false))⟩, ⟨some 45, .bin .lss (.tmp 44) (.lit (.int .i64 0)), some ((43, false))⟩, ⟨some 46, .pick (.tmp 43) (.lit (.bool true)) (.tmp 45), none⟩, ⟨some 47, .mov (.tmp 46), none⟩, ⟨some 48, .mov (.tmp 6), some ((47, false))⟩, ⟨some 49, .fa 0 (.tmp 4), some ((47, false))⟩, ⟨some 50, .load 1 false (.tmp 49), some ((47, false))⟩, ⟨some 51, .len (.tmp 50), some ((47, false))⟩, ⟨some 52, .bin .geq (.tmp 48) (.tmp 51), some ((47, false))⟩, ⟨some 53, .pick (.tmp 47) (.lit (.bool true)) (.tmp 52), none⟩, ⟨some 54, .mov (.tmp 53), none⟩, ⟨some 55, .fa 0 (.tmp 4), some ((54, false))⟩, ⟨some 56, .load 1 false (.tmp 55), some ((54, false))⟩, ⟨some 57, .len (.tmp 56), some ((54, false))⟩, ⟨some 58, .bin .gtr (.tmp 57) (.lit (.int .i64 100)), some ((54, false))⟩, ⟨some 59, .pick (.tmp 54) (.lit (.bool true)) (.tmp 58), none⟩]) (.cond (.tmp 59) (.seq (.reg false [⟨some 60, .mov (.tmp 7), none⟩, ⟨some 2, .mov (.tmp 60), none⟩]) .ret) .skip)) (.seq (.reg false [⟨some 62, .mov (.tmp 3), none⟩, ⟨some 63, .load 2 true (.tmp 4), none⟩, ⟨some 64, .mov (.tmp 5), none⟩, ⟨some 65, .mov (.tmp 5), none⟩, ⟨some 66, .call (.lit (.fn (.func 17) [] [])) [.tmp 62, .tmp 63, .tmp 64, .tmp 65], none⟩, ⟨some 61, .mov (.tmp 66), none⟩, ⟨some 67, .ext (.tmp 61) 0, none⟩, ⟨some 68, .ext (.tmp 61) 1, none⟩, ⟨some 8, .mov (.tmp 67), none⟩, ⟨some 9, .mov (.tmp 68), none⟩]) (.seq (.reg false [⟨some 70, .mov (.tmp 3), none⟩, ⟨some 71, .load 2 true (.tmp 4), none⟩, ⟨some 72, .mov (.tmp 6), none⟩, ⟨some 73, .call (.lit (.fn (.func 17) [] [])) [.tmp 70, .tmp 71, .lit (.int .i64 0), .tmp 72], none⟩, ⟨some 69, .mov (.tmp 73), none⟩, ⟨some 74, .ext (.tmp 69) 0, none⟩, ⟨some 75, .ext (.tmp 69) 1, none⟩, ⟨some 10, .mov (.tmp 74), none⟩, ⟨some 11, .mov (.tmp 75), none⟩]) (.seq (.reg false [⟨some 77, .mov (.tmp 3), none⟩, ⟨some 78, .load 2 true (.tmp 4), none⟩, ⟨some 79, .mov (.tmp 5), none⟩, ⟨some 80, .call (.lit (.fn (.func 17) [] [])) [.tmp 77, .tmp 78, .tmp 79, .lit (.int .i64 1)], none⟩, ⟨some 76, .mov (.tmp 80), none⟩, ⟨some 81, .ext (.tmp 76) 0, none⟩, ⟨some 82, .ext (.tmp 76) 1, none⟩, ⟨some 12, .mov (.tmp 81), none⟩, ⟨some 13, .mov (.tmp 82), none⟩]) (.seq (.seq (.reg false [⟨some 83, .mov (.tmp 8), none⟩, ⟨some 84, .len (.tmp 83), none⟩, ⟨some 85, .mov (.tmp 9), none⟩, ⟨some 86, .len (.tmp 85), none⟩, ⟨some 87, .bin .add (.tmp 84) (.tmp 86), none⟩, ⟨some 88, .mov (.tmp 10), none⟩, ⟨some 89, .len (.tmp 88), none⟩, ⟨some 90, .bin .add (.tmp 87) (.tmp 89), none⟩, ⟨some 91, .mov (.tmp 11), none⟩, ⟨some 92, .len (.tmp 91), none⟩, ⟨some 93, .bin .add (.tmp 90) (.tmp 92), none⟩, ⟨some 94, .mov (.tmp 12), none⟩, ⟨some 95, .len (.tmp 94), none⟩, ⟨some 96, .bin .add (.tmp 93) (.tmp 95), none⟩, ⟨some 97, .mov (.tmp 13), none⟩, ⟨some 98, .len (.tmp 97), none⟩, ⟨some 99, .bin .add (.tmp 96) (.tmp 98), none⟩, ⟨some 100, .bin .neq (.tmp 99) (.lit (.int .i64 0)), none⟩]) (.cond (.tmp 100) (.seq (.reg false [⟨some 2, .mov (.lit (.bool false)), none⟩]) .ret) .skip)) (.seq (.reg false [⟨some 101, .fa 0 (.tmp 4), none⟩, ⟨some 102, .load 1 false (.tmp 101), none⟩, ⟨some 103, .mov (.tmp 5), none⟩, ⟨some 104, .ia 1 (.tmp 102) (.tmp 103), none⟩, ⟨some 105, .load 1 false (.tmp 104), none⟩, ⟨some 14, .mov (.tmp 105), none⟩]) (.seq (.reg false [⟨some 106, .fa 0 (.tmp 4), none⟩, ⟨some 107, .load 1 false (.tmp 106), none⟩, ⟨some 108, .mov (.tmp 6), none⟩, ⟨some 109, .ia 1 (.tmp 107) (.tmp 108), none⟩, ⟨some 110, .load 1 false (.tmp 109), none⟩, ⟨some 15, .mov (.tmp 110), none⟩]) (.seq (.reg true [⟨some 111, .mov (.tmp 14), none⟩, ⟨some 112, .ia 1 (.tmp 111) (.lit (.int .i64 0)), none⟩, ⟨some 113, .load 1 false (.tmp 112), none⟩, ⟨some 114, .bin .eql (.tmp 113) (.lit (.int .i64 3)), none⟩, ⟨some 115, .mov (.tmp 114), none⟩, ⟨some 116, .mov (.tmp 15), some ((115, true))⟩, ⟨some 117, .ia 1 (.tmp 116) (.lit (.int .i64 0)), some ((115, true))⟩, ⟨some 118, .load 1 false (.tmp 117), some ((115, true))⟩, ⟨some 119, .bin .eql (.tmp 118) (.lit (.int .i64 3)), some ((115, true))⟩, ⟨some 120, .pick (.tmp 115) (.tmp 119) (.lit (.bool false)), none⟩, ⟨some 121, .mov (.tmp 120), none⟩, ⟨some 122, .mov (.tmp 14), some ((121, true))⟩, ⟨some 123, .ia 1 (.tmp 122) (.lit (.int .i64 1)), some ((121, true))⟩, ⟨some 124, .load 1 false (.tmp 123), some ((121, true))⟩, ⟨some 125, .mov (.tmp 15), some ((121, true))⟩, ⟨some 126, .ia 1 (.tmp 125) (.lit (.int .i64 1)), some ((121, true))⟩, ⟨some 127, .load 1 false (.tmp 126), some ((121, true))⟩, ⟨some 128, .bin .neq (.tmp 124) (.tmp 127), some ((121, true))⟩, ⟨some 129, .pick (.tmp 121) (.tmp 128) (.lit (.bool false)), none⟩, ⟨some 16, .mov (.tmp 129), none⟩]) (.seq (.reg false [⟨some 131, .mov (.tmp 3), none⟩, ⟨some 132, .load 2 true (.tmp 4), none⟩, ⟨some 133, .mov (.tmp 5), none⟩, ⟨some 134, .mov (.tmp 6), none⟩, ⟨some 135, .call (.lit (.fn (.func 17) [] [])) [.tmp 131, .tmp 132, .tmp 133, .tmp 134], none⟩, ⟨some 130, .mov (.tmp 135), none⟩, ⟨some 136, .ext (.tmp 130) 0, none⟩, ⟨some 137, .ext (.tmp 130) 1, none⟩, ⟨some 17, .mov (.tmp 136), none⟩, ⟨some 18, .mov (.tmp 137), none⟩]) (.seq (.reg false [⟨some 138, .mov (.tmp 7), none⟩, ⟨some 139, .mov (.tmp 138), none⟩, ⟨some 140, .mov (.tmp 16), some ((139, true))⟩, ⟨some 141, .not (.tmp 140), some ((139, true))⟩, ⟨some 142, .mov (.tmp 141), some ((139, true))⟩, ⟨some 143, .mov (.tmp 17), some ((142, false))⟩, ⟨some 144, .len (.tmp 143), some ((142, false))⟩, ⟨some 145, .bin .eql (.tmp 144) (.lit (.int .i64 0)), some ((142, false))⟩, ⟨some 146, .mov (.tmp 145), some ((142, false))⟩, ⟨some 147, .mov (.tmp 18), some ((146, true))⟩, ⟨some 148, .len (.tmp 147), some ((146, true))⟩, ⟨some 149, .bin .eql (.tmp 148) (.lit (.int .i64 1)), some ((146, true))⟩, ⟨some 150, .pick (.tmp 146) (.tmp 149) (.lit (.bool false)), some ((142, false))⟩, ⟨some 151, .mov (.tmp 150), some ((142, false))⟩, ⟨some 152, .mov (.tmp 18), some ((151, true))⟩, ⟨some 153, .ia 2 (.tmp 152) (.lit (.int .i64 0)), some ((151, true))⟩, ⟨some 154, .load 2 true (.tmp 153), some ((151, true))⟩, ⟨some 155, .mov (.tmp 5), some ((151, true))⟩, ⟨some 156, .mov (.tmp 6), some ((151, true))⟩, ⟨some 157, .build [.int .i64 0, .int .i64 0] [(0, 1, .tmp 155), (1, 1, .tmp 156)], some ((151, true))⟩, ⟨some 158, .eqa false true [.int .i64, .int .i64] (.tmp 154) (.tmp 157), some ((151, true))⟩, ⟨some 159, .pick (.tmp 151) (.tmp 158) (.lit (.bool false)), some ((142, false))⟩, ⟨some 160, .pick (.tmp 142) (.lit (.bool true)) (.tmp 159), some ((139, true))⟩, ⟨some 161, .pick (.tmp 139) (.tmp 160) (.lit (.bool false)), none⟩, ⟨some 2, .mov (.tmp 161), none⟩]) .ret))))))))))))))), [.tmp 2]⟩
def c8 : AFn := ⟨125, .seq (.reg false [⟨some 1, .box (.tmp 0), none⟩, ⟨some 2, .mov (.lit (.bool false)), none⟩]) (.seq (.reg false [⟨some 18, .fa 0 (.tmp 1), none⟩, ⟨some 19, .load 1 false (.tmp 18), none⟩, ⟨some 3, .mov (.tmp 19), none⟩]) (.seq (.reg false [⟨some 20, .fa 1 (.tmp 1), none⟩, ⟨some 21, .load 2 true (.tmp 20), none⟩, ⟨some 4, .alloc [.nilS, .nilS], none⟩, ⟨none, .store 2 (.tmp 4) (.tmp 21), none⟩]) (.seq (.reg false [⟨some 22, .fa 3 (.tmp 1), none⟩, ⟨some 23, .load 1 false (.tmp 22), none⟩, ⟨some 5, .mov (.tmp 23), none⟩]) (.seq (.reg false [⟨some 24, .fa 4 (.tmp 1), none⟩, ⟨some 25, .load 1 false (.tmp 24), none⟩, ⟨some 6, .mov (.tmp 25), none⟩]) (.seq (.reg false [⟨some 26, .call (.lit (.fn (.func 9) [] [])) [], none⟩, ⟨some 7, .mov (.tmp 26), none⟩]) (.seq (.seq (.reg false [⟨some 27, .mov (.tmp 3), none⟩, ⟨some 28, .load 2 true (.tmp 4), none⟩, ⟨some 29, .call (.lit (.fn (.func 10) [] [])) [.tmp 27, .tmp 28], none⟩, ⟨some 30, .not (.tmp 29), none⟩, ⟨some 31, .mov (.tmp 30), none⟩, ⟨some 32, .fa 0 (.tmp 4), some ((31, false))⟩, ⟨some 33, .load 1 false (.tmp 32), some ((31, false))⟩, ⟨some 34, .len (.tmp 33), some ((31, false))⟩, ⟨some 35, .bin .gtr (.tmp 34) (.lit (.int .i64 100)), some ((31, false))⟩, ⟨some 36, .pick (.tmp 31) (.lit (.bool true)) (.tmp 35), none⟩]) (.cond (.tmp 36) (.seq (.reg false [⟨some 37, .mov (.tmp 7), none⟩, ⟨some 2, .mov (.tmp 37), none⟩]) .ret) .skip)) (.seq (.reg false [⟨some 38, .mov (.tmp 3), none⟩, ⟨some 39, .load 2 true (.tmp 4), none⟩, ⟨some 40, .mov (.tmp 5), none⟩, ⟨some 41, .mov (.tmp 6), none⟩, ⟨some 42, .call (.lit (.fn (.func 11) [] [])) [.tmp 38, .tmp 39, .tmp 40, .tmp 41], none⟩, ⟨some 8, .alloc [.int .i64 0, .nilS], none⟩, ⟨none, .store 2 (.tmp 8) (.tmp 42), none⟩]) (.seq (.reg false [⟨some 44, .mov (.tmp 3), none⟩, ⟨some 45, .load 2 true (.tmp 4), none⟩, ⟨some 46, .mov (.tmp 5), none⟩, ⟨some 47, .mov (.tmp 6), none⟩, ⟨some 48, .call (.lit (.fn (.func 17) [] [])) [.tmp 44, .tmp 45, .tmp 46, .tmp 47], none⟩, ⟨some 43, .mov (.tmp 48), none⟩, ⟨some 49, .ext (.tmp 43) 0, none⟩, ⟨some 50, .ext (.tmp 43) 1, none⟩, ⟨some 9, .mov (.tmp 49), none⟩, ⟨some 10, .mov (.tmp 50), none⟩]) (.seq (.reg false [⟨some 11, .mov (.lit .nilS), none⟩]) (.seq (.reg false [⟨some 12, .mov (.lit .nilS), none⟩]) (.seq (.seq (.reg false [⟨some 51, .fa 0 (.tmp 8), none⟩, ⟨some 52, .load 1 false (.tmp 51), none⟩, ⟨some 53, .bin .eql (.tmp 52) (.lit (.int .i64 2)), none⟩]) (.cond (.tmp 53) (.reg false [⟨some 54, .mov (.tmp 5), none⟩, ⟨some 55, .mov (.tmp 6), none⟩, ⟨some 56, .build [.int .i64 0, .int .i64 0] [(0, 1, .tmp 54), (1, 1, .tmp 55)], none⟩, ⟨some 57, .bslice 2 1 [.int .i64 0, .int .i64 0] [(0, .tmp 56)], none⟩, ⟨some 11, .mov (.tmp 57), none⟩]) .skip)) (.seq (.seq (.reg false [⟨some 58, .fa 0 (.tmp 8), none⟩, ⟨some 59, .load 1 false (.tmp 58), none⟩, ⟨some 60, .bin .eql (.tmp 59) (.lit (.int .i64 3)), none⟩]) (.cond (.tmp 60) (.reg false [⟨some 61, .mov (.tmp 5), none⟩, ⟨some 62, .mov (.tmp 6), none⟩, ⟨some 63, .build [.int .i64 0, .int .i64 0] [(0, 1, .tmp 61), (1, 1, .tmp 62)], none⟩, ⟨some 64, .bslice 2 1 [.int .i64 0, .int .i64 0] [(0, .tmp 63)], none⟩, ⟨some 12, .mov (.tmp 64), none⟩]) .skip)) (.seq (.seq (.reg false [⟨some 13, .mov (.lit (.int .i64 0)), none⟩]) (.block 0 (.loop (.seq (.seq (.reg false [⟨some 65, .mov (.tmp 13), none⟩, ⟨some 66, .fa 1 (.tmp 8), none⟩, ⟨some 67, .load 1 false (.tmp 66), none⟩, ⟨some 68, .len (.tmp 67), none⟩, ⟨some 69, .bin .lss (.tmp 65) (.tmp 68), none⟩]) (.cond (.tmp 69) .skip (.exit 0))) (.seq (.block 1 (.seq (.reg true [⟨some 73, .mov (.tmp 3), none⟩, ⟨some 74, .load 2 true (.tmp 4), none⟩, ⟨some 75, .fa 1 (.tmp 8), none⟩, ⟨some 76, .load 1 false (.tmp 75), none⟩, ⟨some 77, .mov (.tmp 13), none⟩, ⟨some 78, .ia 2 (.tmp 76) (.tmp 77), none⟩, ⟨some 79, .iarr 2 1 (.tmp 78) (.lit (.int .i64 0)), none⟩, ⟨some 80, .load 1 false (.tmp 79), none⟩, ⟨some 81, .fa 1 (.tmp 8), none⟩, ⟨some 82, .load 1 false (.tmp 81), none⟩, ⟨some 83, .mov (.tmp 13), none⟩, ⟨some 84, .ia 2 (.tmp 82) (.tmp 83), none⟩, ⟨some 85, .iarr 2 1 (.tmp 84) (.lit (.int .i64 1)), none⟩, ⟨some 86, .load 1 false (.tmp 85), none⟩, ⟨some 87, .call (.lit (.fn (.func 17) [] [])) [.tmp 73, .tmp 74, .tmp 80, .tmp 86], none⟩, ⟨some 72, .mov (.tmp 87), none⟩, ⟨some 88, .ext (.tmp 72) 0, none⟩, ⟨some 89, .ext (.tmp 72) 1, none⟩, ⟨some 14, .mov (.tmp 88), none⟩, ⟨some 15, .mov (.tmp 89), none⟩]) (.seq (.seq (.reg false [⟨some 16, .mov (.lit (.int .i64 0)), none⟩]) (.block 2 (.loop (.seq (.seq (.reg false [⟨some 90, .mov (.tmp 16), none⟩, ⟨some 91, .mov (.tmp 14), none⟩, ⟨some 92, .len (.tmp 91), none⟩, ⟨some 93, .bin .lss (.tmp 90) (.tmp 92), none⟩]) (.cond (.tmp 93) .skip (.exit 2))) (.seq (.block 3 (.reg false [⟨some 96, .mov (.tmp 11), none⟩, ⟨some 97, .mov (.tmp 14), none⟩, ⟨some 98, .mov (.tmp 16), none⟩, ⟨some 99, .ia 2 (.tmp 97) (.tmp 98), none⟩, ⟨some 100, .load 2 true (.tmp 99), none⟩, ⟨some 101, .call (.lit (.fn (.func 20) [] [])) [.tmp 96, .tmp 100], none⟩, ⟨some 11, .mov (.tmp 101), none⟩])) (.reg false [⟨some 94, .mov (.tmp 16), none⟩, ⟨some 95, .bin .add (.tmp 94) (.lit (.int .i64 1)), none⟩, ⟨some 16, .mov (.tmp 95), none⟩])))))) (.seq (.reg false [⟨some 17, .mov (.lit (.int .i64 0)), none⟩]) (.block 4 (.loop (.seq (.seq (.reg false [⟨some 102, .mov (.tmp 17), none⟩, ⟨some 103, .mov (.tmp 15), none⟩, ⟨some 104, .len (.tmp 103), none⟩, ⟨some 105, .bin .lss (.tmp 102) (.tmp 104), none⟩]) (.cond (.tmp 105) .skip (.exit 4))) (.seq (.block 5 (.reg false [⟨some 108, .mov (.tmp 12), none⟩, ⟨some 109, .mov (.tmp 15), none⟩, ⟨some 110, .mov (.tmp 17), none⟩, ⟨some 111, .ia 2 (.tmp 109) (.tmp 110), none⟩, ⟨some 112, .load 2 true (.tmp 111), none⟩, ⟨some 113, .call (.lit (.fn (.func 20) [] [])) [.tmp 108, .tmp 112], none⟩, ⟨some 12, .mov (.tmp 113), none⟩])) (.reg false [⟨some 106, .mov (.tmp 17), none⟩, ⟨some 107, .bin .add (.tmp 106) (.lit (.int .i64 1)), none⟩, ⟨some 17, .mov (.tmp 107), none⟩]))))))))) (.reg false [⟨some 70, .mov (.tmp 13), none⟩, ⟨some 71, .bin .add (.tmp 70) (.lit (.int .i64 1)), none⟩, ⟨some 13, .mov (.tmp 71), none⟩])))))) (.seq (.reg false [⟨some 114, .mov (.tmp 7), none⟩, ⟨some 115, .mov (.tmp 114), none⟩, ⟨some 116, .mov (.tmp 9), some ((115, true))⟩, ⟨some 117, .mov (.tmp 11), some ((115, true))⟩, ⟨some 118, .call (.lit (.fn (.func 19) [] [])) [.tmp 116, .tmp 117], some ((115, true))⟩, ⟨some 119, .pick (.tmp 115) (.tmp 118) (.lit (.bool false)), none⟩, ⟨some 120, .mov (.tmp 119), none⟩, ⟨some 121, .mov (.tmp 10), some ((120, true))⟩, ⟨some 122, .mov (.tmp 12), some ((120, true))⟩, ⟨some 123, .call (.lit (.fn (.func 19) [] [])) [.tmp 121, .tmp 122], some ((120, true))⟩, ⟨some 124, .pick (.tmp 120) (.tmp 123) (.lit (.bool false)), none⟩, ⟨some 2, .mov (.tmp 124), none⟩]) .ret)))))))))))))), [.tmp 2]⟩
/-! ### The laws of All -/
theorem c6_ok : cFn Try.prog an0 Try.f6 = some c6 := by kernel_rfl
theorem c7_ok : cFn Try.prog an0 Try.f7 = some c7 := by kernel_rfl
theorem c8_ok : cFn Try.prog an0 Try.f8 = some c8 := by kernel_rfl
theorem pairs_same (p : List Pr) : PF Try.prog 19 [prs p, prs p] (.bool true) := by
  have := pairs_PF p p
  simpa using this
theorem law6_PF (l : List Sg) (a : Kd) (x y : Int) (hs : ∀ i : Nat, i < l.length → (gi l i).args.size ≤ maxA) (hk : a.keys.length ≤ 1048576) (hks : ∀ i : Nat, i < a.keys.length → (gi a.keys i).length ≤ maxA) :
    PF Try.prog 6 [.agg ([sigs l] ++ a.cs ++ [i64 x, i64 y])] (.bool true) := by
  refine PFk 9 hm Try.func6 c6_ok (Nat.le_of_ble_eq_true rfl) (by simp) (by simp) ?_
  simp (maxSteps := 3000000) [-List.length_flatten, -List.map_drop, -List.map_take, Function.comp_def, argsT, Opd.ev, Tm.get, put, ares, mapMo, ares1, snilP, bldParts, bslParts, putAt, AV.cells, AV.one, astore, aload, loadCs, callArgs, abin, abinInt, aapp, elems, appMore, appNone, preLen, aFa, aFld, apart, aExt, aPick, aNot, aLens, aEqa, cellsK, fitsA, LK.fitsA, leavesA, leafA, nilD, aNilc, aCint, aCid, alive, alen, alenOk, Rle, lePs, len_flat, c6]
  refine PF.call shown_PF 9 (by simp [lePs]) ?_
  simp (maxSteps := 3000000) [-List.length_flatten, -List.map_drop, -List.map_take, Function.comp_def, argsT, Opd.ev, Tm.get, put, ares, mapMo, ares1, snilP, bldParts, bslParts, putAt, AV.cells, AV.one, astore, aload, loadCs, callArgs, abin, abinInt, aapp, elems, appMore, appNone, preLen, aFa, aFld, apart, aExt, aPick, aNot, aLens, aEqa, cellsK, fitsA, LK.fitsA, leavesA, leafA, nilD, aNilc, aCint, aCid, alive, alen, alenOk, Rle, lePs, len_flat, Kc]
  refine PF.call (of10_PF l a hs hk hks) 9 (by simp [lePs]) ?_
  by_cases ho : ofOk l a = true
  · have hF := ofOk_fine ho
    by_cases h100 : a.keys.length ≤ 100
    · have hn : ¬ (100 : Int) < a.keys.length := by omega
      have r1 := all_PF hF h100 x y
      have r2 := rall_PF hF h100 x y
      generalize foundP l a 2 (x, y) = p at *
      generalize foundP l a 3 (x, y) = q at *
      simp (maxSteps := 3000000) [-List.length_flatten, -List.map_drop, -List.map_take, Function.comp_def, argsT, Opd.ev, Tm.get, put, ares, mapMo, ares1, snilP, bldParts, bslParts, putAt, AV.cells, AV.one, astore, aload, loadCs, callArgs, abin, abinInt, aapp, elems, appMore, appNone, preLen, aFa, aFld, apart, aExt, aPick, aNot, aLens, aEqa, cellsK, fitsA, LK.fitsA, leavesA, leafA, nilD, aNilc, aCint, aCid, alive, alen, alenOk, Rle, lePs, len_flat, Kc, ho, hn]
      refine fun _ => PF.call r1 9 (by simp [lePs]) ?_
      simp (maxSteps := 3000000) [-List.length_flatten, -List.map_drop, -List.map_take, Function.comp_def, argsT, Opd.ev, Tm.get, put, ares, mapMo, ares1, snilP, bldParts, bslParts, putAt, AV.cells, AV.one, astore, aload, loadCs, callArgs, abin, abinInt, aapp, elems, appMore, appNone, preLen, aFa, aFld, apart, aExt, aPick, aNot, aLens, aEqa, cellsK, fitsA, LK.fitsA, leavesA, leafA, nilD, aNilc, aCint, aCid, alive, alen, alenOk, Rle, lePs, len_flat, Kc]
      refine PF.call r2 9 (by simp [lePs]) ?_
      simp (maxSteps := 3000000) [-List.length_flatten, -List.map_drop, -List.map_take, Function.comp_def, argsT, Opd.ev, Tm.get, put, ares, mapMo, ares1, snilP, bldParts, bslParts, putAt, AV.cells, AV.one, astore, aload, loadCs, callArgs, abin, abinInt, aapp, elems, appMore, appNone, preLen, aFa, aFld, apart, aExt, aPick, aNot, aLens, aEqa, cellsK, fitsA, LK.fitsA, leavesA, leafA, nilD, aNilc, aCint, aCid, alive, alen, alenOk, Rle, lePs, len_flat, Kc]
      refine PF.call (pairs_same p) 9 (by simp [lePs]) ?_
      simp (maxSteps := 3000000) [-List.length_flatten, -List.map_drop, -List.map_take, Function.comp_def, argsT, Opd.ev, Tm.get, put, ares, mapMo, ares1, snilP, bldParts, bslParts, putAt, AV.cells, AV.one, astore, aload, loadCs, callArgs, abin, abinInt, aapp, elems, appMore, appNone, preLen, aFa, aFld, apart, aExt, aPick, aNot, aLens, aEqa, cellsK, fitsA, LK.fitsA, leavesA, leafA, nilD, aNilc, aCint, aCid, alive, alen, alenOk, Rle, lePs, len_flat, Kc]
      refine PF.call (pairs_same q) 9 (by simp [lePs]) ?_
      simp (maxSteps := 3000000) [-List.length_flatten, -List.map_drop, -List.map_take, Function.comp_def, argsT, Opd.ev, Tm.get, put, ares, mapMo, ares1, snilP, bldParts, bslParts, putAt, AV.cells, AV.one, astore, aload, loadCs, callArgs, abin, abinInt, aapp, elems, appMore, appNone, preLen, aFa, aFld, apart, aExt, aPick, aNot, aLens, aEqa, cellsK, fitsA, LK.fitsA, leavesA, leafA, nilD, aNilc, aCint, aCid, alive, alen, alenOk, Rle, lePs, len_flat, Kc]
    · have hn : (100 : Int) < a.keys.length := by omega
      simp (maxSteps := 3000000) [-List.length_flatten, -List.map_drop, -List.map_take, Function.comp_def, argsT, Opd.ev, Tm.get, put, ares, mapMo, ares1, snilP, bldParts, bslParts, putAt, AV.cells, AV.one, astore, aload, loadCs, callArgs, abin, abinInt, aapp, elems, appMore, appNone, preLen, aFa, aFld, apart, aExt, aPick, aNot, aLens, aEqa, cellsK, fitsA, LK.fitsA, leavesA, leafA, nilD, aNilc, aCint, aCid, alive, alen, alenOk, Rle, lePs, len_flat, Kc, ho, hn]
  · simp (maxSteps := 3000000) [-List.length_flatten, -List.map_drop, -List.map_take, Function.comp_def, argsT, Opd.ev, Tm.get, put, ares, mapMo, ares1, snilP, bldParts, bslParts, putAt, AV.cells, AV.one, astore, aload, loadCs, callArgs, abin, abinInt, aapp, elems, appMore, appNone, preLen, aFa, aFld, apart, aExt, aPick, aNot, aLens, aEqa, cellsK, fitsA, LK.fitsA, leavesA, leafA, nilD, aNilc, aCint, aCid, alive, alen, alenOk, Rle, lePs, len_flat, Kc, ho]
theorem step_self {l : List Sg} {a : Kd} (_ : Fine l a) (x : Int) : Sp l a (x, x) = (0, []) := by
  unfold Sp stepOf stepWay
  simp
theorem step_zero {l : List Sg} {a : Kd} (hF : Fine l a) (y : Int) : Sp l a (0, y) = (0, []) := by
  have := hF.zero
  unfold Sp stepOf stepWay
  simp [this]
theorem step_one {l : List Sg} {a : Kd} (hF : Fine l a) (x : Int) : Sp l a (x, 1) = (0, []) := by
  have := hF.one
  unfold Sp stepOf stepWay
  simp [this]
theorem step_other {l : List Sg} {a : Kd} (hF : Fine l a) {x y : Int} (hx : 0 ≤ x ∧ x < a.keys.length) (hy : 0 ≤ y ∧ y < a.keys.length) (h1 : (termAt a x).1.kind = 3) (h2 : (termAt a y).1.kind = 3) (h3 : (termAt a x).1.sym ≠ (termAt a y).1.sym) : Sp l a (x, y) = (3, []) := by
  have f1 := (hF.fit hx).1
  have f2 := (hF.fit hy).1
  have hxy : ¬ x = y := fun e => h3 (by rw [e])
  unfold Sp stepOf stepWay
  simp [f1, f2, h1, h2, h3, hxy]
theorem found_none {l : List Sg} {a : Kd} (hF : Fine l a) (h100 : a.keys.length ≤ 100) {p : Pr} (h : Sp l a p = (0, [])) : foundP l a 2 p = [] ∧ foundP l a 3 p = [] := by
  constructor
  · rw [foundP_end hF h100 (by rw [h]) (by omega), h]
    simp
  · rw [foundP_end hF h100 (by rw [h]) (by omega), h]
    simp
theorem key_sym {l : List Sg} {a : Kd} (hF : Fine l a) {x : Int} (h : 0 ≤ x ∧ x < a.keys.length) : 1 < (gi a.keys x).length ∧ gi (gi a.keys x) 1 = (termAt a x).1.sym := by
  have h1 := (hF.fit h).1
  have h2 : ¬ (x < 0 ∨ x ≥ a.keys.length) := by omega
  unfold termAt at h1 ⊢
  rw [if_neg h2] at h1 ⊢
  unfold termOf at h1 ⊢
  by_cases h3 : (gi a.keys x).length < 3
  · simp [h3] at h1
  · rw [if_neg h3]
    exact ⟨by omega, rfl⟩
theorem law7_PF (l : List Sg) (a : Kd) (x y : Int) (hs : ∀ i : Nat, i < l.length → (gi l i).args.size ≤ maxA) (hk : a.keys.length ≤ 1048576) (hks : ∀ i : Nat, i < a.keys.length → (gi a.keys i).length ≤ maxA) :
    PF Try.prog 7 [.agg ([sigs l] ++ a.cs ++ [i64 x, i64 y])] (.bool true) := by
  refine PFk 9 hm Try.func7 c7_ok (Nat.le_of_ble_eq_true rfl) (by simp) (by simp) ?_
  simp (maxSteps := 3000000) [-List.length_flatten, -List.map_drop, -List.map_take, Function.comp_def, argsT, Opd.ev, Tm.get, put, ares, mapMo, ares1, snilP, bldParts, bslParts, putAt, AV.cells, AV.one, astore, aload, loadCs, callArgs, abin, abinInt, aapp, elems, appMore, appNone, preLen, aFa, aFld, apart, aExt, aPick, aNot, aLens, aEqa, cellsK, fitsA, LK.fitsA, leavesA, leafA, nilD, aNilc, aCint, aCid, alive, alen, alenOk, Rle, lePs, len_flat, c7]
  refine PF.call shown_PF 9 (by simp [lePs]) ?_
  simp (maxSteps := 3000000) [-List.length_flatten, -List.map_drop, -List.map_take, Function.comp_def, argsT, Opd.ev, Tm.get, put, ares, mapMo, ares1, snilP, bldParts, bslParts, putAt, AV.cells, AV.one, astore, aload, loadCs, callArgs, abin, abinInt, aapp, elems, appMore, appNone, preLen, aFa, aFld, apart, aExt, aPick, aNot, aLens, aEqa, cellsK, fitsA, LK.fitsA, leavesA, leafA, nilD, aNilc, aCint, aCid, alive, alen, alenOk, Rle, lePs, len_flat, Kc]
  refine PF.call (of10_PF l a hs hk hks) 9 (by simp [lePs]) ?_
  by_cases ho : ofOk l a = true
  · have hF := ofOk_fine ho
    by_cases hx : x < 0
    · simp (maxSteps := 3000000) [-List.length_flatten, -List.map_drop, -List.map_take, Function.comp_def, argsT, Opd.ev, Tm.get, put, ares, mapMo, ares1, snilP, bldParts, bslParts, putAt, AV.cells, AV.one, astore, aload, loadCs, callArgs, abin, abinInt, aapp, elems, appMore, appNone, preLen, aFa, aFld, apart, aExt, aPick, aNot, aLens, aEqa, cellsK, fitsA, LK.fitsA, leavesA, leafA, nilD, aNilc, aCint, aCid, alive, alen, alenOk, Rle, lePs, len_flat, Kc, ho, hx]
    by_cases hx2 : (a.keys.length : Int) ≤ x
    · simp (maxSteps := 3000000) [-List.length_flatten, -List.map_drop, -List.map_take, Function.comp_def, argsT, Opd.ev, Tm.get, put, ares, mapMo, ares1, snilP, bldParts, bslParts, putAt, AV.cells, AV.one, astore, aload, loadCs, callArgs, abin, abinInt, aapp, elems, appMore, appNone, preLen, aFa, aFld, apart, aExt, aPick, aNot, aLens, aEqa, cellsK, fitsA, LK.fitsA, leavesA, leafA, nilD, aNilc, aCint, aCid, alive, alen, alenOk, Rle, lePs, len_flat, Kc, ho, hx, hx2]
    by_cases hy : y < 0
    · simp (maxSteps := 3000000) [-List.length_flatten, -List.map_drop, -List.map_take, Function.comp_def, argsT, Opd.ev, Tm.get, put, ares, mapMo, ares1, snilP, bldParts, bslParts, putAt, AV.cells, AV.one, astore, aload, loadCs, callArgs, abin, abinInt, aapp, elems, appMore, appNone, preLen, aFa, aFld, apart, aExt, aPick, aNot, aLens, aEqa, cellsK, fitsA, LK.fitsA, leavesA, leafA, nilD, aNilc, aCint, aCid, alive, alen, alenOk, Rle, lePs, len_flat, Kc, ho, hx, hx2, hy]
    by_cases hy2 : (a.keys.length : Int) ≤ y
    · simp (maxSteps := 3000000) [-List.length_flatten, -List.map_drop, -List.map_take, Function.comp_def, argsT, Opd.ev, Tm.get, put, ares, mapMo, ares1, snilP, bldParts, bslParts, putAt, AV.cells, AV.one, astore, aload, loadCs, callArgs, abin, abinInt, aapp, elems, appMore, appNone, preLen, aFa, aFld, apart, aExt, aPick, aNot, aLens, aEqa, cellsK, fitsA, LK.fitsA, leavesA, leafA, nilD, aNilc, aCint, aCid, alive, alen, alenOk, Rle, lePs, len_flat, Kc, ho, hx, hx2, hy, hy2]
    by_cases h100 : a.keys.length ≤ 100
    · have hn : ¬ (100 : Int) < a.keys.length := by omega
      have rx : 0 ≤ x ∧ x < a.keys.length := by omega
      have ry : 0 ≤ y ∧ y < a.keys.length := by omega
      have r1 := all_PF hF h100 x x
      have r2 := all_PF hF h100 0 y
      have r3 := all_PF hF h100 x 1
      have r4 := all_PF hF h100 x y
      obtain ⟨e1, e2⟩ := found_none hF h100 (step_self hF x)
      obtain ⟨e3, e4⟩ := found_none hF h100 (step_zero hF y)
      obtain ⟨e5, e6⟩ := found_none hF h100 (step_one hF x)
      rw [e1, e2] at r1
      rw [e3, e4] at r2
      rw [e5, e6] at r3
      obtain ⟨kx0, kx1⟩ := key_kind hF rx
      obtain ⟨ky0, ky1⟩ := key_kind hF ry
      obtain ⟨sx0, sx1⟩ := key_sym hF rx
      obtain ⟨sy0, sy1⟩ := key_sym hF ry
      have hw0 : IntKind.i64.wrap 0 = 0 := w64 (by omega) (by omega)
      have sxi : (1 : Int) < ((gi a.keys x).length : Int) := by omega
      have syi : (1 : Int) < ((gi a.keys y).length : Int) := by omega
      have hother := step_other hF rx ry
      simp (maxSteps := 3000000) [-List.length_flatten, -List.map_drop, -List.map_take, Function.comp_def, argsT, Opd.ev, Tm.get, put, ares, mapMo, ares1, snilP, bldParts, bslParts, putAt, AV.cells, AV.one, astore, aload, loadCs, callArgs, abin, abinInt, aapp, elems, appMore, appNone, preLen, aFa, aFld, apart, aExt, aPick, aNot, aLens, aEqa, cellsK, fitsA, LK.fitsA, leavesA, leafA, nilD, aNilc, aCint, aCid, alive, alen, alenOk, Rle, lePs, len_flat, Kc, ho, hx, hx2, hy, hy2, hn]
      refine fun _ => PF.call r1 9 (by simp [lePs]) ?_
      simp (maxSteps := 3000000) [-List.length_flatten, -List.map_drop, -List.map_take, Function.comp_def, argsT, Opd.ev, Tm.get, put, ares, mapMo, ares1, snilP, bldParts, bslParts, putAt, AV.cells, AV.one, astore, aload, loadCs, callArgs, abin, abinInt, aapp, elems, appMore, appNone, preLen, aFa, aFld, apart, aExt, aPick, aNot, aLens, aEqa, cellsK, fitsA, LK.fitsA, leavesA, leafA, nilD, aNilc, aCint, aCid, alive, alen, alenOk, Rle, lePs, len_flat, Kc]
      refine PF.call r2 9 (by simp [lePs]) ?_
      simp (maxSteps := 3000000) [-List.length_flatten, -List.map_drop, -List.map_take, Function.comp_def, argsT, Opd.ev, Tm.get, put, ares, mapMo, ares1, snilP, bldParts, bslParts, putAt, AV.cells, AV.one, astore, aload, loadCs, callArgs, abin, abinInt, aapp, elems, appMore, appNone, preLen, aFa, aFld, apart, aExt, aPick, aNot, aLens, aEqa, cellsK, fitsA, LK.fitsA, leavesA, leafA, nilD, aNilc, aCint, aCid, alive, alen, alenOk, Rle, lePs, len_flat, Kc]
      refine PF.call r3 9 (by simp [lePs]) ?_
      by_cases g1 : (termAt a x).1.kind = 3
      · by_cases g2 : (termAt a y).1.kind = 3
        · by_cases g3 : (termAt a x).1.sym = (termAt a y).1.sym
          · simp (maxSteps := 3000000) [-List.length_flatten, -List.map_drop, -List.map_take, Function.comp_def, argsT, Opd.ev, Tm.get, put, ares, mapMo, ares1, snilP, bldParts, bslParts, putAt, AV.cells, AV.one, astore, aload, loadCs, callArgs, abin, abinInt, aapp, elems, appMore, appNone, preLen, aFa, aFld, apart, aExt, aPick, aNot, aLens, aEqa, cellsK, fitsA, LK.fitsA, leavesA, leafA, nilD, aNilc, aCint, aCid, alive, alen, alenOk, Rle, lePs, len_flat, Kc, hx, hx2, hy, hy2, rx, ry, kx0, kx1, ky0, ky1, g1, g2, g3, sx0, sx1, sy0, sy1, hw0, sxi, syi]
            refine PF.call r4 9 (by simp [lePs]) ?_
            simp (maxSteps := 3000000) [-List.length_flatten, -List.map_drop, -List.map_take, Function.comp_def, argsT, Opd.ev, Tm.get, put, ares, mapMo, ares1, snilP, bldParts, bslParts, putAt, AV.cells, AV.one, astore, aload, loadCs, callArgs, abin, abinInt, aapp, elems, appMore, appNone, preLen, aFa, aFld, apart, aExt, aPick, aNot, aLens, aEqa, cellsK, fitsA, LK.fitsA, leavesA, leafA, nilD, aNilc, aCint, aCid, alive, alen, alenOk, Rle, lePs, len_flat, Kc]
          · have h := hother g1 g2 g3
            have e7 : foundP l a 2 (x, y) = [] := by rw [foundP_end hF h100 (by rw [h]) (by omega), h]; simp
            have e8 : foundP l a 3 (x, y) = [(x, y)] := by rw [foundP_end hF h100 (by rw [h]) (by omega), h]; simp
            rw [e7, e8] at r4
            simp (maxSteps := 3000000) [-List.length_flatten, -List.map_drop, -List.map_take, Function.comp_def, argsT, Opd.ev, Tm.get, put, ares, mapMo, ares1, snilP, bldParts, bslParts, putAt, AV.cells, AV.one, astore, aload, loadCs, callArgs, abin, abinInt, aapp, elems, appMore, appNone, preLen, aFa, aFld, apart, aExt, aPick, aNot, aLens, aEqa, cellsK, fitsA, LK.fitsA, leavesA, leafA, nilD, aNilc, aCint, aCid, alive, alen, alenOk, Rle, lePs, len_flat, Kc, hx, hx2, hy, hy2, rx, ry, kx0, kx1, ky0, ky1, g1, g2, g3, sx0, sx1, sy0, sy1, hw0, sxi, syi]
            refine PF.call r4 9 (by simp [lePs]) ?_
            simp (maxSteps := 3000000) [-List.length_flatten, -List.map_drop, -List.map_take, Function.comp_def, argsT, Opd.ev, Tm.get, put, ares, mapMo, ares1, snilP, bldParts, bslParts, putAt, AV.cells, AV.one, astore, aload, loadCs, callArgs, abin, abinInt, aapp, elems, appMore, appNone, preLen, aFa, aFld, apart, aExt, aPick, aNot, aLens, aEqa, cellsK, fitsA, LK.fitsA, leavesA, leafA, nilD, aNilc, aCint, aCid, alive, alen, alenOk, Rle, lePs, len_flat, Kc]
            refine fun _ => ⟨rfl, rfl⟩
        · simp (maxSteps := 3000000) [-List.length_flatten, -List.map_drop, -List.map_take, Function.comp_def, argsT, Opd.ev, Tm.get, put, ares, mapMo, ares1, snilP, bldParts, bslParts, putAt, AV.cells, AV.one, astore, aload, loadCs, callArgs, abin, abinInt, aapp, elems, appMore, appNone, preLen, aFa, aFld, apart, aExt, aPick, aNot, aLens, aEqa, cellsK, fitsA, LK.fitsA, leavesA, leafA, nilD, aNilc, aCint, aCid, alive, alen, alenOk, Rle, lePs, len_flat, Kc, hx, hx2, hy, hy2, rx, ry, kx0, kx1, ky0, ky1, g1, g2, sx0, sx1, sy0, sy1, hw0, sxi, syi]
          refine PF.call r4 9 (by simp [lePs]) ?_
          simp (maxSteps := 3000000) [-List.length_flatten, -List.map_drop, -List.map_take, Function.comp_def, argsT, Opd.ev, Tm.get, put, ares, mapMo, ares1, snilP, bldParts, bslParts, putAt, AV.cells, AV.one, astore, aload, loadCs, callArgs, abin, abinInt, aapp, elems, appMore, appNone, preLen, aFa, aFld, apart, aExt, aPick, aNot, aLens, aEqa, cellsK, fitsA, LK.fitsA, leavesA, leafA, nilD, aNilc, aCint, aCid, alive, alen, alenOk, Rle, lePs, len_flat, Kc]
      · simp (maxSteps := 3000000) [-List.length_flatten, -List.map_drop, -List.map_take, Function.comp_def, argsT, Opd.ev, Tm.get, put, ares, mapMo, ares1, snilP, bldParts, bslParts, putAt, AV.cells, AV.one, astore, aload, loadCs, callArgs, abin, abinInt, aapp, elems, appMore, appNone, preLen, aFa, aFld, apart, aExt, aPick, aNot, aLens, aEqa, cellsK, fitsA, LK.fitsA, leavesA, leafA, nilD, aNilc, aCint, aCid, alive, alen, alenOk, Rle, lePs, len_flat, Kc, hx, hx2, hy, hy2, rx, ry, kx0, kx1, ky0, ky1, g1, sx0, sx1, sy0, sy1, hw0, sxi, syi]
        refine PF.call r4 9 (by simp [lePs]) ?_
        simp (maxSteps := 3000000) [-List.length_flatten, -List.map_drop, -List.map_take, Function.comp_def, argsT, Opd.ev, Tm.get, put, ares, mapMo, ares1, snilP, bldParts, bslParts, putAt, AV.cells, AV.one, astore, aload, loadCs, callArgs, abin, abinInt, aapp, elems, appMore, appNone, preLen, aFa, aFld, apart, aExt, aPick, aNot, aLens, aEqa, cellsK, fitsA, LK.fitsA, leavesA, leafA, nilD, aNilc, aCint, aCid, alive, alen, alenOk, Rle, lePs, len_flat, Kc]
    · have hn : (100 : Int) < a.keys.length := by omega
      simp (maxSteps := 3000000) [-List.length_flatten, -List.map_drop, -List.map_take, Function.comp_def, argsT, Opd.ev, Tm.get, put, ares, mapMo, ares1, snilP, bldParts, bslParts, putAt, AV.cells, AV.one, astore, aload, loadCs, callArgs, abin, abinInt, aapp, elems, appMore, appNone, preLen, aFa, aFld, apart, aExt, aPick, aNot, aLens, aEqa, cellsK, fitsA, LK.fitsA, leavesA, leafA, nilD, aNilc, aCint, aCid, alive, alen, alenOk, Rle, lePs, len_flat, Kc, ho, hx, hx2, hy, hy2, hn]
  · simp (maxSteps := 3000000) [-List.length_flatten, -List.map_drop, -List.map_take, Function.comp_def, argsT, Opd.ev, Tm.get, put, ares, mapMo, ares1, snilP, bldParts, bslParts, putAt, AV.cells, AV.one, astore, aload, loadCs, callArgs, abin, abinInt, aapp, elems, appMore, appNone, preLen, aFa, aFld, apart, aExt, aPick, aNot, aLens, aEqa, cellsK, fitsA, LK.fitsA, leavesA, leafA, nilD, aNilc, aCint, aCid, alive, alen, alenOk, Rle, lePs, len_flat, Kc, ho]
/-- What the parts come to, laid one behind the other. -/
def layAll (o ps : List Pr) : List Pr := ps.foldl layP o
theorem layAll_next {o ps : List Pr} {j : Nat} (h : j < ps.length) : layAll o (ps.take (j + 1)) = layP (layAll o (ps.take j)) (gi ps j) := by
  unfold layAll
  have e : gi ps j = ps[j] := by simp [gi, List.getD, h]
  rw [List.take_add_one, List.getElem?_eq_getElem h, e, List.foldl_append]
  rfl
noncomputable def partsF (l : List Sg) (a : Kd) (k : Int) (o : List Pr) (qs : List Pr) : List Pr := qs.foldl (fun o q => layAll o (foundP l a k q)) o
theorem partsF_next {l : List Sg} {a : Kd} {k : Int} {o qs : List Pr} {j : Nat} (h : j < qs.length) : partsF l a k o (qs.take (j + 1)) = layAll (partsF l a k o (qs.take j)) (foundP l a k (gi qs j)) := by
  unfold partsF
  have e : gi qs j = qs[j] := by simp [gi, List.getD, h]
  rw [List.take_add_one, List.getElem?_eq_getElem h, e, List.foldl_append]
  rfl
theorem partsF_spec (l : List Sg) (a : Kd) (k : Int) : ∀ (qs o : List Pr), o.Pairwise ltP → (partsF l a k o qs).Pairwise ltP ∧ ∀ x, x ∈ partsF l a k o qs ↔ x ∈ o ∨ ∃ q ∈ qs, x ∈ foundP l a k q
  | [], o, h => by simp [partsF, h]
  | q :: qs, o, h => by
    obtain ⟨h1, h2⟩ := srt_spec (foundP l a k q) o h
    obtain ⟨h3, h4⟩ := partsF_spec l a k qs _ h1
    refine ⟨h3, fun x => ?_⟩
    have e : partsF l a k o (q :: qs) = partsF l a k ((foundP l a k q).foldl layP o) qs := rfl
    rw [e, h4, h2]
    simp [or_assoc]
def alone (l : List Sg) (a : Kd) (k : Int) (x : Pr) : List Pr := if (Sp l a x).1 = k then [x] else []
theorem made_law {l : List Sg} {a : Kd} (hF : Fine l a) (h100 : a.keys.length ≤ 100) {k : Int} (hk : k ≠ 1) (x : Pr) : partsF l a k (alone l a k x) (Sp l a x).2 = foundP l a k x := by
  obtain ⟨h1, h2⟩ := partsF_spec l a k (Sp l a x).2 (alone l a k x) (by unfold alone; split <;> simp)
  refine rise_eq h1 (foundP_rise k x) fun y => ?_
  rw [h2, foundP_parts hF h100 x y hk]
  unfold alone
  split
  · rename_i h; simp [h]
  · rename_i h; simp [h]
theorem lay_short {l : List Sg} {a : Kd} (hF : Fine l a) (h100 : a.keys.length ≤ 100) {k : Int} (x : Pr) {qs fs : List Pr} {q : Pr} (hqs : ∀ q ∈ qs, q ∈ (Sp l a x).2) (hq : q ∈ (Sp l a x).2) (hfs : ∀ y ∈ fs, y ∈ foundP l a k q) :
    (layAll (partsF l a k (alone l a k x) qs) fs).length ≤ 1000000 := by
  obtain ⟨h1, h2⟩ := partsF_spec l a k qs (alone l a k x) (by unfold alone; split <;> simp)
  obtain ⟨h3, h4⟩ := srt_spec fs _ h1
  have hnd : (layAll (partsF l a k (alone l a k x) qs) fs).Nodup := List.Pairwise.imp (fun {p q} (h : ltP p q) (e : p = q) => ltP_irr q (by rw [e] at h; exact h)) h3
  have := all_in hF h100 (x := x) hnd fun y hy => by
    rcases (h4 y).1 hy with hy | hy
    · rcases (h2 y).1 hy with hy | ⟨q', hq', hy⟩
      · unfold alone at hy
        split at hy
        · simp at hy
          subst hy
          exact .refl _
        · cases hy
      · exact (Reach.step (.refl _) (hqs q' hq')).trans ((mem_foundP hF h100).1 hy).1
    · exact (Reach.step (.refl _) hq).trans ((mem_foundP hF h100).1 (hfs y hy)).1
  omega
theorem eight_RL (n : Nat) {v : AV} (p : List Pr) (h : v = prs p) : RL n v := by subst h; exact prs_RL _ _
set_option maxHeartbeats 2000000 in
theorem law8_PF (l : List Sg) (a : Kd) (x y : Int) (hs : ∀ i : Nat, i < l.length → (gi l i).args.size ≤ maxA) (hk : a.keys.length ≤ 1048576) (hks : ∀ i : Nat, i < a.keys.length → (gi a.keys i).length ≤ maxA) :
    PF Try.prog 8 [.agg ([sigs l] ++ a.cs ++ [i64 x, i64 y])] (.bool true) := by
  refine PFk 9 hm Try.func8 c8_ok (Nat.le_of_ble_eq_true rfl) (by simp) (by simp) ?_
  simp (maxSteps := 3000000) [-List.length_flatten, -List.map_drop, -List.map_take, Function.comp_def, argsT, Opd.ev, Tm.get, put, ares, mapMo, ares1, snilP, bldParts, bslParts, putAt, AV.cells, AV.one, astore, aload, loadCs, callArgs, abin, abinInt, aapp, elems, appMore, appNone, preLen, aFa, aFld, apart, aExt, aPick, aNot, aLens, aEqa, cellsK, fitsA, LK.fitsA, leavesA, leafA, nilD, aNilc, aCint, aCid, alive, alen, alenOk, Rle, lePs, len_flat, c8]
  refine PF.call shown_PF 9 (by simp [lePs]) ?_
  simp (maxSteps := 3000000) [-List.length_flatten, -List.map_drop, -List.map_take, Function.comp_def, argsT, Opd.ev, Tm.get, put, ares, mapMo, ares1, snilP, bldParts, bslParts, putAt, AV.cells, AV.one, astore, aload, loadCs, callArgs, abin, abinInt, aapp, elems, appMore, appNone, preLen, aFa, aFld, apart, aExt, aPick, aNot, aLens, aEqa, cellsK, fitsA, LK.fitsA, leavesA, leafA, nilD, aNilc, aCint, aCid, alive, alen, alenOk, Rle, lePs, len_flat, Kc]
  refine PF.call (of10_PF l a hs hk hks) 9 (by simp [lePs]) ?_
  by_cases ho : ofOk l a = true
  · have hF := ofOk_fine ho
    by_cases h100 : a.keys.length ≤ 100
    · have hn : ¬ (100 : Int) < a.keys.length := by omega
      have r0 : PF Try.prog 11 [sigs l, .agg a.cs, i64 x, i64 y] (way (Sp l a (x, y)).1 (Sp l a (x, y)).2) := step_PF hF x y
      have r1 := all_PF hF h100 x y
      have hm2 := made_law hF h100 (k := 2) (by omega) (x, y)
      have hm3 := made_law hF h100 (k := 3) (by omega) (x, y)
      have hsh := fun (k : Int) (qs fs : List Pr) (q : Pr) => lay_short hF h100 (k := k) (x, y) (qs := qs) (fs := fs) (q := q)
      have ha2 : alone l a 2 (x, y) = if (Sp l a (x, y)).1 = 2 then [(x, y)] else [] := rfl
      have ha3 : alone l a 3 (x, y) = if (Sp l a (x, y)).1 = 3 then [(x, y)] else [] := rfl
      generalize hw : Sp l a (x, y) = w at *
      obtain ⟨k, ps⟩ := w
      simp only at ha2 ha3 hm2 hm3
      refine by_way (A := ?G) (fun key => ?main) ?sub
      case main =>
        by_cases e2 : k = 2
        · simp (maxSteps := 3000000) [-List.length_flatten, -List.map_drop, -List.map_take, Function.comp_def, argsT, Opd.ev, Tm.get, put, ares, mapMo, ares1, snilP, bldParts, bslParts, putAt, AV.cells, AV.one, astore, aload, loadCs, callArgs, abin, abinInt, aapp, elems, appMore, appNone, preLen, aFa, aFld, apart, aExt, aPick, aNot, aLens, aEqa, cellsK, fitsA, LK.fitsA, leavesA, leafA, nilD, aNilc, aCint, aCid, alive, alen, alenOk, Rle, lePs, len_flat, Kc, ho, hn]
          refine fun _ => PF.call r0 9 (by simp [lePs, -List.length_flatten, -List.map_drop, -List.map_take, Function.comp_def, len_flat]) ?_
          simp (maxSteps := 3000000) [-List.length_flatten, -List.map_drop, -List.map_take, Function.comp_def, argsT, Opd.ev, Tm.get, put, ares, mapMo, ares1, snilP, bldParts, bslParts, putAt, AV.cells, AV.one, astore, aload, loadCs, callArgs, abin, abinInt, aapp, elems, appMore, appNone, preLen, aFa, aFld, apart, aExt, aPick, aNot, aLens, aEqa, cellsK, fitsA, LK.fitsA, leavesA, leafA, nilD, aNilc, aCint, aCid, alive, alen, alenOk, Rle, lePs, len_flat, Kc]
          refine PF.call r1 9 (by simp [lePs, -List.length_flatten, -List.map_drop, -List.map_take, Function.comp_def, len_flat]) ?_
          simp (maxSteps := 3000000) [-List.length_flatten, -List.map_drop, -List.map_take, Function.comp_def, argsT, Opd.ev, Tm.get, put, ares, mapMo, ares1, snilP, bldParts, bslParts, putAt, AV.cells, AV.one, astore, aload, loadCs, callArgs, abin, abinInt, aapp, elems, appMore, appNone, preLen, aFa, aFld, apart, aExt, aPick, aNot, aLens, aEqa, cellsK, fitsA, LK.fitsA, leavesA, leafA, nilD, aNilc, aCint, aCid, alive, alen, alenOk, Rle, lePs, len_flat, Kc, e2]
          refine run_loopK (fun m T H => ∃ i : Nat, m = ps.length - i ∧ i ≤ ps.length ∧
            T = [(13, i64 i), (12, prs (partsF l a 3 (alone l a 3 (x, y)) (ps.take i))), (11, prs (partsF l a 2 (alone l a 2 (x, y)) (ps.take i))), (10, prs (foundP l a 3 (x, y))), (9, prs (foundP l a 2 (x, y))), (8, .ptr 2 0 0), (7, .bool true), (4, .ptr 1 0 0), (3, sigs l)] ∧
            H = [.cells 0 ([sigs l] ++ a.cs ++ [i64 x, i64 y]), .cells 0 a.cs, .cells 0 [i64 k, prs ps]])
            ps.length [(13, i64 0), (12, prs (alone l a 3 (x, y))), (11, prs (alone l a 2 (x, y))), (10, prs (foundP l a 3 (x, y))), (9, prs (foundP l a 2 (x, y))), (8, .ptr 2 0 0), (7, .bool true), (4, .ptr 1 0 0), (3, sigs l)] [.cells 0 ([sigs l] ++ a.cs ++ [i64 x, i64 y]), .cells 0 a.cs, .cells 0 [i64 k, prs ps]]
            ((Wk.tell (T' := [(13, i64 0), (12, .nilS), (11, .rows true 2 [[i64 x, i64 y]]), (10, prs (foundP l a 3 (x, y))), (9, prs (foundP l a 2 (x, y))), (8, .ptr 2 0 0), (7, .bool true), (4, .ptr 1 0 0), (3, sigs l)]) (H' := [.cells 0 ([sigs l] ++ a.cs ++ [i64 x, i64 y]), .cells 0 a.cs, .cells 0 [i64 k, prs ps]]) 3 (by omega) (by simp [Tm.get]) ⟨by simp, by simp, by simp, prs_RL _ _, prs_RL _ _, by simp, by simp, by simp, by simp, trivial⟩ (by simp [e2]) ⟨by simp [RLB], by simp [RLB], cells_way_RL _ _ _, trivial⟩).trans (Wk.leT 9 (by simp [Tm.get, leP, ha2, ha3, e2]))) ⟨0, rfl, Nat.zero_le _, rfl, rfl⟩ ?_
          exact key ()
        by_cases e3 : k = 3
        · simp (maxSteps := 3000000) [-List.length_flatten, -List.map_drop, -List.map_take, Function.comp_def, argsT, Opd.ev, Tm.get, put, ares, mapMo, ares1, snilP, bldParts, bslParts, putAt, AV.cells, AV.one, astore, aload, loadCs, callArgs, abin, abinInt, aapp, elems, appMore, appNone, preLen, aFa, aFld, apart, aExt, aPick, aNot, aLens, aEqa, cellsK, fitsA, LK.fitsA, leavesA, leafA, nilD, aNilc, aCint, aCid, alive, alen, alenOk, Rle, lePs, len_flat, Kc, ho, hn]
          refine fun _ => PF.call r0 9 (by simp [lePs, -List.length_flatten, -List.map_drop, -List.map_take, Function.comp_def, len_flat]) ?_
          simp (maxSteps := 3000000) [-List.length_flatten, -List.map_drop, -List.map_take, Function.comp_def, argsT, Opd.ev, Tm.get, put, ares, mapMo, ares1, snilP, bldParts, bslParts, putAt, AV.cells, AV.one, astore, aload, loadCs, callArgs, abin, abinInt, aapp, elems, appMore, appNone, preLen, aFa, aFld, apart, aExt, aPick, aNot, aLens, aEqa, cellsK, fitsA, LK.fitsA, leavesA, leafA, nilD, aNilc, aCint, aCid, alive, alen, alenOk, Rle, lePs, len_flat, Kc]
          refine PF.call r1 9 (by simp [lePs, -List.length_flatten, -List.map_drop, -List.map_take, Function.comp_def, len_flat]) ?_
          simp (maxSteps := 3000000) [-List.length_flatten, -List.map_drop, -List.map_take, Function.comp_def, argsT, Opd.ev, Tm.get, put, ares, mapMo, ares1, snilP, bldParts, bslParts, putAt, AV.cells, AV.one, astore, aload, loadCs, callArgs, abin, abinInt, aapp, elems, appMore, appNone, preLen, aFa, aFld, apart, aExt, aPick, aNot, aLens, aEqa, cellsK, fitsA, LK.fitsA, leavesA, leafA, nilD, aNilc, aCint, aCid, alive, alen, alenOk, Rle, lePs, len_flat, Kc, e2, e3]
          refine run_loopK (fun m T H => ∃ i : Nat, m = ps.length - i ∧ i ≤ ps.length ∧
            T = [(13, i64 i), (12, prs (partsF l a 3 (alone l a 3 (x, y)) (ps.take i))), (11, prs (partsF l a 2 (alone l a 2 (x, y)) (ps.take i))), (10, prs (foundP l a 3 (x, y))), (9, prs (foundP l a 2 (x, y))), (8, .ptr 2 0 0), (7, .bool true), (4, .ptr 1 0 0), (3, sigs l)] ∧
            H = [.cells 0 ([sigs l] ++ a.cs ++ [i64 x, i64 y]), .cells 0 a.cs, .cells 0 [i64 k, prs ps]])
            ps.length [(13, i64 0), (12, prs (alone l a 3 (x, y))), (11, prs (alone l a 2 (x, y))), (10, prs (foundP l a 3 (x, y))), (9, prs (foundP l a 2 (x, y))), (8, .ptr 2 0 0), (7, .bool true), (4, .ptr 1 0 0), (3, sigs l)] [.cells 0 ([sigs l] ++ a.cs ++ [i64 x, i64 y]), .cells 0 a.cs, .cells 0 [i64 k, prs ps]]
            ((Wk.tell (T' := [(13, i64 0), (12, .rows true 2 [[i64 x, i64 y]]), (11, .nilS), (10, prs (foundP l a 3 (x, y))), (9, prs (foundP l a 2 (x, y))), (8, .ptr 2 0 0), (7, .bool true), (4, .ptr 1 0 0), (3, sigs l)]) (H' := [.cells 0 ([sigs l] ++ a.cs ++ [i64 x, i64 y]), .cells 0 a.cs, .cells 0 [i64 k, prs ps]]) 3 (by omega) (by simp [Tm.get]) ⟨by simp, by simp, by simp, prs_RL _ _, prs_RL _ _, by simp, by simp, by simp, by simp, trivial⟩ (by simp [e3]) ⟨by simp [RLB], by simp [RLB], cells_way_RL _ _ _, trivial⟩).trans (Wk.leT 9 (by simp [Tm.get, leP, ha2, ha3, e3]))) ⟨0, rfl, Nat.zero_le _, rfl, rfl⟩ ?_
          exact key ()
        · simp (maxSteps := 3000000) [-List.length_flatten, -List.map_drop, -List.map_take, Function.comp_def, argsT, Opd.ev, Tm.get, put, ares, mapMo, ares1, snilP, bldParts, bslParts, putAt, AV.cells, AV.one, astore, aload, loadCs, callArgs, abin, abinInt, aapp, elems, appMore, appNone, preLen, aFa, aFld, apart, aExt, aPick, aNot, aLens, aEqa, cellsK, fitsA, LK.fitsA, leavesA, leafA, nilD, aNilc, aCint, aCid, alive, alen, alenOk, Rle, lePs, len_flat, Kc, ho, hn]
          refine fun _ => PF.call r0 9 (by simp [lePs, -List.length_flatten, -List.map_drop, -List.map_take, Function.comp_def, len_flat]) ?_
          simp (maxSteps := 3000000) [-List.length_flatten, -List.map_drop, -List.map_take, Function.comp_def, argsT, Opd.ev, Tm.get, put, ares, mapMo, ares1, snilP, bldParts, bslParts, putAt, AV.cells, AV.one, astore, aload, loadCs, callArgs, abin, abinInt, aapp, elems, appMore, appNone, preLen, aFa, aFld, apart, aExt, aPick, aNot, aLens, aEqa, cellsK, fitsA, LK.fitsA, leavesA, leafA, nilD, aNilc, aCint, aCid, alive, alen, alenOk, Rle, lePs, len_flat, Kc]
          refine PF.call r1 9 (by simp [lePs, -List.length_flatten, -List.map_drop, -List.map_take, Function.comp_def, len_flat]) ?_
          simp (maxSteps := 3000000) [-List.length_flatten, -List.map_drop, -List.map_take, Function.comp_def, argsT, Opd.ev, Tm.get, put, ares, mapMo, ares1, snilP, bldParts, bslParts, putAt, AV.cells, AV.one, astore, aload, loadCs, callArgs, abin, abinInt, aapp, elems, appMore, appNone, preLen, aFa, aFld, apart, aExt, aPick, aNot, aLens, aEqa, cellsK, fitsA, LK.fitsA, leavesA, leafA, nilD, aNilc, aCint, aCid, alive, alen, alenOk, Rle, lePs, len_flat, Kc, e2, e3]
          refine run_loopK (fun m T H => ∃ i : Nat, m = ps.length - i ∧ i ≤ ps.length ∧
            T = [(13, i64 i), (12, prs (partsF l a 3 (alone l a 3 (x, y)) (ps.take i))), (11, prs (partsF l a 2 (alone l a 2 (x, y)) (ps.take i))), (10, prs (foundP l a 3 (x, y))), (9, prs (foundP l a 2 (x, y))), (8, .ptr 2 0 0), (7, .bool true), (4, .ptr 1 0 0), (3, sigs l)] ∧
            H = [.cells 0 ([sigs l] ++ a.cs ++ [i64 x, i64 y]), .cells 0 a.cs, .cells 0 [i64 k, prs ps]])
            ps.length [(13, i64 0), (12, prs (alone l a 3 (x, y))), (11, prs (alone l a 2 (x, y))), (10, prs (foundP l a 3 (x, y))), (9, prs (foundP l a 2 (x, y))), (8, .ptr 2 0 0), (7, .bool true), (4, .ptr 1 0 0), (3, sigs l)] [.cells 0 ([sigs l] ++ a.cs ++ [i64 x, i64 y]), .cells 0 a.cs, .cells 0 [i64 k, prs ps]]
            ((Wk.tell (T' := [(13, i64 0), (12, .nilS), (11, .nilS), (10, prs (foundP l a 3 (x, y))), (9, prs (foundP l a 2 (x, y))), (8, .ptr 2 0 0), (7, .bool true), (4, .ptr 1 0 0), (3, sigs l)]) (H' := [.cells 0 ([sigs l] ++ a.cs ++ [i64 x, i64 y]), .cells 0 a.cs, .cells 0 [i64 k, prs ps]]) 3 (by omega) (by simp [Tm.get]) ⟨by simp, by simp, by simp, prs_RL _ _, prs_RL _ _, by simp, by simp, by simp, by simp, trivial⟩ (by simp) ⟨by simp [RLB], by simp [RLB], cells_way_RL _ _ _, trivial⟩).trans (Wk.leT 9 (by simp [Tm.get, leP, ha2, ha3, e2, e3]))) ⟨0, rfl, Nat.zero_le _, rfl, rfl⟩ ?_
          exact key ()
      case sub =>
        rintro m T H ⟨i, rfl, hi, rfl, rfl⟩ KI ix ir inn
        by_cases hil : i < ps.length
        · have hq : gi ps i ∈ ps := gi_mem' hil
          have htk : ∀ q ∈ ps.take i, q ∈ ps := fun q h => List.mem_of_mem_take h
          have rq := all_PF hF h100 (gi ps i).1 (gi ps i).2
          have n2 := partsF_next (l := l) (a := a) (k := 2) (o := alone l a 2 (x, y)) hil
          have n3 := partsF_next (l := l) (a := a) (k := 3) (o := alone l a 3 (x, y)) hil
          have s2 := fun (fs : List Pr) (h : ∀ z ∈ fs, z ∈ foundP l a 2 (gi ps i)) => hsh 2 (ps.take i) fs (gi ps i) htk hq h
          have s3 := fun (fs : List Pr) (h : ∀ z ∈ fs, z ∈ foundP l a 3 (gi ps i)) => hsh 3 (ps.take i) fs (gi ps i) htk hq h
          generalize hA2 : partsF l a 2 (alone l a 2 (x, y)) (ps.take i) = A2 at *
          generalize hA3 : partsF l a 3 (alone l a 3 (x, y)) (ps.take i) = A3 at *
          have ep : ((gi ps i).1, (gi ps i).2) = gi ps i := rfl
          rw [ep] at rq
          generalize hqq : gi ps i = q at *
          simp (maxSteps := 3000000) [-List.length_flatten, -List.map_drop, -List.map_take, Function.comp_def, argsT, Opd.ev, Tm.get, put, ares, mapMo, ares1, snilP, bldParts, bslParts, putAt, AV.cells, AV.one, astore, aload, loadCs, callArgs, abin, abinInt, aapp, elems, appMore, appNone, preLen, aFa, aFld, apart, aExt, aPick, aNot, aLens, aEqa, cellsK, fitsA, LK.fitsA, leavesA, leafA, nilD, aNilc, aCint, aCid, alive, alen, alenOk, Rle, lePs, len_flat, hil, aIarr, aindex, hqq]
          refine fun hpl => ⟨_, rq, ?_⟩
          have hin : IntKind.i64.wrap ((i : Int) + 1) = ((i + 1 : Nat) : Int) := nxt hil hpl
          simp (maxSteps := 3000000) [-List.length_flatten, -List.map_drop, -List.map_take, Function.comp_def, argsT, Opd.ev, Tm.get, put, ares, mapMo, ares1, snilP, bldParts, bslParts, putAt, AV.cells, AV.one, astore, aload, loadCs, callArgs, abin, abinInt, aapp, elems, appMore, appNone, preLen, aFa, aFld, apart, aExt, aPick, aNot, aLens, aEqa, cellsK, fitsA, LK.fitsA, leavesA, leafA, nilD, aNilc, aCint, aCid, alive, alen, alenOk, Rle, lePs, len_flat, Kc]
          refine run_loopK (fun m T H => ∃ j : Nat, m = (foundP l a 2 q).length - j ∧ j ≤ (foundP l a 2 q).length ∧
              T = [(16, i64 j), (15, prs (foundP l a 3 q)), (14, prs (foundP l a 2 q)), (13, i64 i), (12, prs A3), (11, prs (layAll A2 ((foundP l a 2 q).take j))), (10, prs (foundP l a 3 (x, y))), (9, prs (foundP l a 2 (x, y))), (8, .ptr 2 0 0), (7, .bool true), (4, .ptr 1 0 0), (3, sigs l)] ∧ H = [.cells 0 ([sigs l] ++ a.cs ++ [i64 x, i64 y]), .cells 0 a.cs, .cells 0 [i64 k, prs ps]])
            (foundP l a 2 q).length [(16, i64 0), (15, prs (foundP l a 3 q)), (14, prs (foundP l a 2 q)), (13, i64 i), (12, prs A3), (11, prs A2), (10, prs (foundP l a 3 (x, y))), (9, prs (foundP l a 2 (x, y))), (8, .ptr 2 0 0), (7, .bool true), (4, .ptr 1 0 0), (3, sigs l)] [.cells 0 ([sigs l] ++ a.cs ++ [i64 x, i64 y]), .cells 0 a.cs, .cells 0 [i64 k, prs ps]]
            (Wk.tell 3 (by omega) (by simp [Tm.get]) ⟨by simp, prs_RL _ _, prs_RL _ _, by simp, prs_RL _ _, prs_RL _ _, prs_RL _ _, prs_RL _ _, by simp, by simp, by simp, by simp, trivial⟩ rfl ⟨by simp [RLB], by simp [RLB], cells_way_RL _ _ _, trivial⟩) ⟨0, rfl, Nat.zero_le _, rfl, rfl⟩ ?_
          rintro m T H ⟨j, rfl, hj, rfl, rfl⟩ KJ jx jr jn
          by_cases hjl : j < (foundP l a 2 q).length
          · have hl := s2 ((foundP l a 2 q).take j) (fun z hz => List.mem_of_mem_take hz)
            have nx := layAll_next (o := A2) hjl
            simp (maxSteps := 3000000) [-List.length_flatten, -List.map_drop, -List.map_take, Function.comp_def, argsT, Opd.ev, Tm.get, put, ares, mapMo, ares1, snilP, bldParts, bslParts, putAt, AV.cells, AV.one, astore, aload, loadCs, callArgs, abin, abinInt, aapp, elems, appMore, appNone, preLen, aFa, aFld, apart, aExt, aPick, aNot, aLens, aEqa, cellsK, fitsA, LK.fitsA, leavesA, leafA, nilD, aNilc, aCint, aCid, alive, alen, alenOk, Rle, lePs, len_flat, hjl]
            refine fun hfl => ?_
            refine PF.call (lay20_PF _ (gi (foundP l a 2 q) j) hl) 9 (by simp [lePs, -List.length_flatten, -List.map_drop, -List.map_take, Function.comp_def, len_flat]) ?_
            simp (maxSteps := 3000000) [-List.length_flatten, -List.map_drop, -List.map_take, Function.comp_def, argsT, Opd.ev, Tm.get, put, ares, mapMo, ares1, snilP, bldParts, bslParts, putAt, AV.cells, AV.one, astore, aload, loadCs, callArgs, abin, abinInt, aapp, elems, appMore, appNone, preLen, aFa, aFld, apart, aExt, aPick, aNot, aLens, aEqa, cellsK, fitsA, LK.fitsA, leavesA, leafA, nilD, aNilc, aCint, aCid, alive, alen, alenOk, Rle, lePs, len_flat, Kc]
            refine jn _ _ (Kl_next ((foundP l a 2 q).length - (j + 1)) 3 (by omega) ⟨j + 1, rfl, hjl, rfl, rfl⟩ ?_ ⟨by simp, prs_RL _ _, prs_RL _ _, by simp, prs_RL _ _, prs_RL _ _, prs_RL _ _, prs_RL _ _, by simp, by simp, by simp, by simp, trivial⟩ rfl ⟨by simp [RLB], by simp [RLB], cells_way_RL _ _ _, trivial⟩ (by omega))
            simp [Tm.get, nx, nxt hjl hfl]
          · have ej : j = (foundP l a 2 q).length := by omega
            subst ej
            rw [List.take_length]
            simp (maxSteps := 3000000) [-List.length_flatten, -List.map_drop, -List.map_take, Function.comp_def, argsT, Opd.ev, Tm.get, put, ares, mapMo, ares1, snilP, bldParts, bslParts, putAt, AV.cells, AV.one, astore, aload, loadCs, callArgs, abin, abinInt, aapp, elems, appMore, appNone, preLen, aFa, aFld, apart, aExt, aPick, aNot, aLens, aEqa, cellsK, fitsA, LK.fitsA, leavesA, leafA, nilD, aNilc, aCint, aCid, alive, alen, alenOk, Rle, lePs, len_flat, hjl, jx]
            refine fun _ => ?_
            refine run_loopK (fun m T H => ∃ j : Nat, m = (foundP l a 3 q).length - j ∧ j ≤ (foundP l a 3 q).length ∧
                T = [(17, i64 j), (15, prs (foundP l a 3 q)), (13, i64 i), (12, prs (layAll A3 ((foundP l a 3 q).take j))), (11, prs (layAll A2 (foundP l a 2 q))), (10, prs (foundP l a 3 (x, y))), (9, prs (foundP l a 2 (x, y))), (8, .ptr 2 0 0), (7, .bool true), (4, .ptr 1 0 0), (3, sigs l)] ∧ H = [.cells 0 ([sigs l] ++ a.cs ++ [i64 x, i64 y]), .cells 0 a.cs, .cells 0 [i64 k, prs ps]])
              (foundP l a 3 q).length [(17, i64 0), (15, prs (foundP l a 3 q)), (13, i64 i), (12, prs A3), (11, prs (layAll A2 (foundP l a 2 q))), (10, prs (foundP l a 3 (x, y))), (9, prs (foundP l a 2 (x, y))), (8, .ptr 2 0 0), (7, .bool true), (4, .ptr 1 0 0), (3, sigs l)] [.cells 0 ([sigs l] ++ a.cs ++ [i64 x, i64 y]), .cells 0 a.cs, .cells 0 [i64 k, prs ps]]
              (Wk.tell 3 (by omega) (by simp [Tm.get]) ⟨by simp, prs_RL _ _, by simp, prs_RL _ _, prs_RL _ _, prs_RL _ _, prs_RL _ _, by simp, by simp, by simp, by simp, trivial⟩ rfl ⟨by simp [RLB], by simp [RLB], cells_way_RL _ _ _, trivial⟩) ⟨0, rfl, Nat.zero_le _, rfl, rfl⟩ ?_
            rintro m T H ⟨j, rfl, hj, rfl, rfl⟩ KM mx mr mn
            by_cases hjl : j < (foundP l a 3 q).length
            · have hl := s3 ((foundP l a 3 q).take j) (fun z hz => List.mem_of_mem_take hz)
              have nx := layAll_next (o := A3) hjl
              simp (maxSteps := 3000000) [-List.length_flatten, -List.map_drop, -List.map_take, Function.comp_def, argsT, Opd.ev, Tm.get, put, ares, mapMo, ares1, snilP, bldParts, bslParts, putAt, AV.cells, AV.one, astore, aload, loadCs, callArgs, abin, abinInt, aapp, elems, appMore, appNone, preLen, aFa, aFld, apart, aExt, aPick, aNot, aLens, aEqa, cellsK, fitsA, LK.fitsA, leavesA, leafA, nilD, aNilc, aCint, aCid, alive, alen, alenOk, Rle, lePs, len_flat, hjl]
              refine fun hfl => ?_
              refine PF.call (lay20_PF _ (gi (foundP l a 3 q) j) hl) 9 (by simp [lePs, -List.length_flatten, -List.map_drop, -List.map_take, Function.comp_def, len_flat]) ?_
              simp (maxSteps := 3000000) [-List.length_flatten, -List.map_drop, -List.map_take, Function.comp_def, argsT, Opd.ev, Tm.get, put, ares, mapMo, ares1, snilP, bldParts, bslParts, putAt, AV.cells, AV.one, astore, aload, loadCs, callArgs, abin, abinInt, aapp, elems, appMore, appNone, preLen, aFa, aFld, apart, aExt, aPick, aNot, aLens, aEqa, cellsK, fitsA, LK.fitsA, leavesA, leafA, nilD, aNilc, aCint, aCid, alive, alen, alenOk, Rle, lePs, len_flat, Kc]
              refine mn _ _ (Kl_next ((foundP l a 3 q).length - (j + 1)) 3 (by omega) ⟨j + 1, rfl, hjl, rfl, rfl⟩ ?_ ⟨by simp, prs_RL _ _, by simp, prs_RL _ _, prs_RL _ _, prs_RL _ _, prs_RL _ _, by simp, by simp, by simp, by simp, trivial⟩ rfl ⟨by simp [RLB], by simp [RLB], cells_way_RL _ _ _, trivial⟩ (by omega))
              simp [Tm.get, nx, nxt hjl hfl]
            · have ej : j = (foundP l a 3 q).length := by omega
              subst ej
              rw [List.take_length]
              simp (maxSteps := 3000000) [-List.length_flatten, -List.map_drop, -List.map_take, Function.comp_def, argsT, Opd.ev, Tm.get, put, ares, mapMo, ares1, snilP, bldParts, bslParts, putAt, AV.cells, AV.one, astore, aload, loadCs, callArgs, abin, abinInt, aapp, elems, appMore, appNone, preLen, aFa, aFld, apart, aExt, aPick, aNot, aLens, aEqa, cellsK, fitsA, LK.fitsA, leavesA, leafA, nilD, aNilc, aCint, aCid, alive, alen, alenOk, Rle, lePs, len_flat, hjl, mx]
              refine fun _ => ?_
              refine inn _ _ (Kl_next (ps.length - (i + 1)) 3 (by omega) ⟨i + 1, rfl, hil, rfl, rfl⟩ ?_ ⟨by simp, prs_RL _ _, prs_RL _ _, prs_RL _ _, prs_RL _ _, by simp, by simp, by simp, by simp, trivial⟩ rfl ⟨by simp [RLB], by simp [RLB], cells_way_RL _ _ _, trivial⟩ (by omega))
              simp [Tm.get, n2, n3, hin]
        · have ei : i = ps.length := by omega
          subst ei
          rw [List.take_length, hm2, hm3]
          simp (maxSteps := 3000000) [-List.length_flatten, -List.map_drop, -List.map_take, Function.comp_def, argsT, Opd.ev, Tm.get, put, ares, mapMo, ares1, snilP, bldParts, bslParts, putAt, AV.cells, AV.one, astore, aload, loadCs, callArgs, abin, abinInt, aapp, elems, appMore, appNone, preLen, aFa, aFld, apart, aExt, aPick, aNot, aLens, aEqa, cellsK, fitsA, LK.fitsA, leavesA, leafA, nilD, aNilc, aCint, aCid, alive, alen, alenOk, Rle, lePs, len_flat, hil, ix]
          refine fun _ => PF.call (pairs_same (foundP l a 2 (x, y))) 9 (by simp [lePs, -List.length_flatten, -List.map_drop, -List.map_take, Function.comp_def, len_flat]) ?_
          simp (maxSteps := 3000000) [-List.length_flatten, -List.map_drop, -List.map_take, Function.comp_def, argsT, Opd.ev, Tm.get, put, ares, mapMo, ares1, snilP, bldParts, bslParts, putAt, AV.cells, AV.one, astore, aload, loadCs, callArgs, abin, abinInt, aapp, elems, appMore, appNone, preLen, aFa, aFld, apart, aExt, aPick, aNot, aLens, aEqa, cellsK, fitsA, LK.fitsA, leavesA, leafA, nilD, aNilc, aCint, aCid, alive, alen, alenOk, Rle, lePs, len_flat, Kc]
          refine PF.call (pairs_same (foundP l a 3 (x, y))) 9 (by simp [lePs, -List.length_flatten, -List.map_drop, -List.map_take, Function.comp_def, len_flat]) ?_
          simp (maxSteps := 3000000) [-List.length_flatten, -List.map_drop, -List.map_take, Function.comp_def, argsT, Opd.ev, Tm.get, put, ares, mapMo, ares1, snilP, bldParts, bslParts, putAt, AV.cells, AV.one, astore, aload, loadCs, callArgs, abin, abinInt, aapp, elems, appMore, appNone, preLen, aFa, aFld, apart, aExt, aPick, aNot, aLens, aEqa, cellsK, fitsA, LK.fitsA, leavesA, leafA, nilD, aNilc, aCint, aCid, alive, alen, alenOk, Rle, lePs, len_flat, Kc]
    · have hn : (100 : Int) < a.keys.length := by omega
      simp (maxSteps := 3000000) [-List.length_flatten, -List.map_drop, -List.map_take, Function.comp_def, argsT, Opd.ev, Tm.get, put, ares, mapMo, ares1, snilP, bldParts, bslParts, putAt, AV.cells, AV.one, astore, aload, loadCs, callArgs, abin, abinInt, aapp, elems, appMore, appNone, preLen, aFa, aFld, apart, aExt, aPick, aNot, aLens, aEqa, cellsK, fitsA, LK.fitsA, leavesA, leafA, nilD, aNilc, aCint, aCid, alive, alen, alenOk, Rle, lePs, len_flat, Kc, ho, hn]
  · simp (maxSteps := 3000000) [-List.length_flatten, -List.map_drop, -List.map_take, Function.comp_def, argsT, Opd.ev, Tm.get, put, ares, mapMo, ares1, snilP, bldParts, bslParts, putAt, AV.cells, AV.one, astore, aload, loadCs, callArgs, abin, abinInt, aapp, elems, appMore, appNone, preLen, aFa, aFld, apart, aExt, aPick, aNot, aLens, aEqa, cellsK, fitsA, LK.fitsA, leavesA, leafA, nilD, aNilc, aCint, aCid, alive, alen, alenOk, Rle, lePs, len_flat, Kc, ho]
end Go.AM
