/- Contracts of the program's functions. -/
import Derived.Test.YtpdhpjgdboillaaDoorProg
import Derived.Test.YtpdhpjgdboillaaDoorAm4
import Derived.KernelRfl
namespace Go.AM
open Go.Proofs
set_option maxRecDepth 100000
set_option linter.unusedVariables false
set_option linter.unusedSimpArgs false
def ff256 : List AV := List.replicate 256 (.bool false)
def c3 : AFn := ⟨53, .seq (.reg false [⟨some 3, .box (.tmp 1), none⟩, ⟨some 4, .mov (.lit (.bool false)), none⟩]) (.seq (.reg false [⟨some 10, .call (.lit (.fn (.func 8) [] [])) [], none⟩, ⟨some 5, .mov (.tmp 10), none⟩]) (.seq (.seq (.reg false [⟨some 11, .mov (.tmp 0), none⟩, ⟨some 12, .call (.lit (.fn (.func 9) [] [])) [.tmp 11], none⟩, ⟨some 13, .not (.tmp 12), none⟩, ⟨some 14, .mov (.tmp 13), none⟩, ⟨some 15, .mov (.tmp 0), some ((14, false))⟩, ⟨some 16, .call (.lit (.fn (.func 10) [] [])) [.tmp 15], some ((14, false))⟩, ⟨some 17, .not (.tmp 16), some ((14, false))⟩, ⟨some 18, .pick (.tmp 14) (.lit (.bool true)) (.tmp 17), none⟩, ⟨some 19, .mov (.tmp 18), none⟩, ⟨some 20, .fa 0 (.tmp 3), some ((19, false))⟩, ⟨some 21, .load 1 false (.tmp 20), some ((19, false))⟩, ⟨some 22, .lens (.tmp 21), some ((19, false))⟩, ⟨some 23, .fa 1 (.tmp 3), some ((19, false))⟩, ⟨some 24, .load 1 false (.tmp 23), some ((19, false))⟩, ⟨some 25, .lens (.tmp 24), some ((19, false))⟩, ⟨some 26, .bin .add (.tmp 22) (.tmp 25), some ((19, false))⟩, ⟨some 27, .bin .gtr (.tmp 26) (.lit (.int .i64 100)), some ((19, false))⟩, ⟨some 28, .pick (.tmp 19) (.lit (.bool true)) (.tmp 27), none⟩]) (.cond (.tmp 28) (.seq (.reg false [⟨some 29, .mov (.tmp 5), none⟩, ⟨some 4, .mov (.tmp 29), none⟩]) .ret) .skip)) (.seq (.reg false [⟨some 31, .mov (.tmp 0), none⟩, ⟨some 32, .load 2 true (.tmp 3), none⟩, ⟨some 33, .call (.lit (.fn (.func 11) [] [])) [.tmp 31, .tmp 32], none⟩, ⟨some 30, .mov (.tmp 33), none⟩, ⟨some 34, .ext (.tmp 30) 0, none⟩, ⟨some 35, .ext (.tmp 30) 1, none⟩, ⟨some 6, .mov (.tmp 34), none⟩, ⟨some 7, .mov (.tmp 35), none⟩]) (.seq (.reg false [⟨some 37, .mov (.tmp 0), none⟩, ⟨some 38, .load 2 true (.tmp 3), none⟩, ⟨some 39, .call (.lit (.fn (.func 12) [] [])) [.tmp 37, .tmp 38], none⟩, ⟨some 36, .mov (.tmp 39), none⟩, ⟨some 40, .ext (.tmp 36) 0, none⟩, ⟨some 41, .ext (.tmp 36) 1, none⟩, ⟨some 8, .mov (.tmp 40), none⟩, ⟨some 9, .mov (.tmp 41), none⟩]) (.seq (.reg false [⟨some 42, .mov (.tmp 5), none⟩, ⟨some 43, .mov (.tmp 42), none⟩, ⟨some 44, .mov (.tmp 6), some ((43, true))⟩, ⟨some 45, .mov (.tmp 8), some ((43, true))⟩, ⟨some 46, .call (.lit (.fn (.func 13) [] [])) [.tmp 44, .tmp 45], some ((43, true))⟩, ⟨some 47, .pick (.tmp 43) (.tmp 46) (.lit (.bool false)), none⟩, ⟨some 48, .mov (.tmp 47), none⟩, ⟨some 49, .mov (.tmp 7), some ((48, true))⟩, ⟨some 50, .mov (.tmp 9), some ((48, true))⟩, ⟨some 51, .bin .eql (.tmp 49) (.tmp 50), some ((48, true))⟩, ⟨some 52, .pick (.tmp 48) (.tmp 51) (.lit (.bool false)), none⟩, ⟨some 4, .mov (.tmp 52), none⟩]) .ret))))), [.tmp 4]⟩
def c4 : AFn := ⟨106, .seq (.reg false [⟨some 3, .box (.tmp 1), none⟩, ⟨some 4, .mov (.lit (.bool false)), none⟩]) (.seq (.reg false [⟨some 9, .call (.lit (.fn (.func 8) [] [])) [], none⟩, ⟨some 5, .mov (.tmp 9), none⟩]) (.seq (.seq (.reg false [⟨some 10, .mov (.tmp 0), none⟩, ⟨some 11, .call (.lit (.fn (.func 9) [] [])) [.tmp 10], none⟩, ⟨some 12, .not (.tmp 11), none⟩, ⟨some 13, .mov (.tmp 12), none⟩, ⟨some 14, .mov (.tmp 0), some ((13, false))⟩, ⟨some 15, .call (.lit (.fn (.func 10) [] [])) [.tmp 14], some ((13, false))⟩, ⟨some 16, .not (.tmp 15), some ((13, false))⟩, ⟨some 17, .pick (.tmp 13) (.lit (.bool true)) (.tmp 16), none⟩, ⟨some 18, .mov (.tmp 17), none⟩, ⟨some 19, .fa 0 (.tmp 3), some ((18, false))⟩, ⟨some 20, .load 1 false (.tmp 19), some ((18, false))⟩, ⟨some 21, .lens (.tmp 20), some ((18, false))⟩, ⟨some 22, .fa 1 (.tmp 3), some ((18, false))⟩, ⟨some 23, .load 1 false (.tmp 22), some ((18, false))⟩, ⟨some 24, .lens (.tmp 23), some ((18, false))⟩, ⟨some 25, .bin .add (.tmp 21) (.tmp 24), some ((18, false))⟩, ⟨some 26, .bin .gtr (.tmp 25) (.lit (.int .i64 100)), some ((18, false))⟩, ⟨some 27, .pick (.tmp 18) (.lit (.bool true)) (.tmp 26), none⟩]) (.cond (.tmp 27) (.seq (.reg false [⟨some 28, .mov (.tmp 5), none⟩, ⟨some 4, .mov (.tmp 28), none⟩]) .ret) .skip)) (.seq (.reg false [⟨some 30, .mov (.tmp 0), none⟩, ⟨some 31, .load 2 true (.tmp 3), none⟩, ⟨some 32, .call (.lit (.fn (.func 11) [] [])) [.tmp 30, .tmp 31], none⟩, ⟨some 29, .mov (.tmp 32), none⟩, ⟨some 33, .ext (.tmp 29) 0, none⟩, ⟨some 34, .ext (.tmp 29) 1, none⟩, ⟨some 6, .mov (.tmp 33), none⟩, ⟨some 7, .mov (.tmp 34), none⟩]) (.seq (.seq (.reg false [⟨some 35, .mov (.tmp 7), none⟩, ⟨some 36, .bin .neq (.tmp 35) (.lit (.int .i64 0)), none⟩]) (.cond (.tmp 36) (.seq (.reg false [⟨some 37, .mov (.tmp 5), none⟩, ⟨some 38, .mov (.tmp 37), none⟩, ⟨some 39, .mov (.tmp 6), some ((38, true))⟩, ⟨some 40, .mov (.tmp 0), some ((38, true))⟩, ⟨some 41, .call (.lit (.fn (.func 13) [] [])) [.tmp 39, .tmp 40], some ((38, true))⟩, ⟨some 42, .pick (.tmp 38) (.tmp 41) (.lit (.bool false)), none⟩, ⟨some 4, .mov (.tmp 42), none⟩]) .ret) .skip)) (.seq (.seq (.reg true [⟨some 43, .mov (.tmp 6), none⟩, ⟨some 44, .len (.tmp 43), none⟩, ⟨some 45, .mov (.tmp 0), none⟩, ⟨some 46, .len (.tmp 45), none⟩, ⟨some 47, .bin .add (.tmp 46) (.lit (.int .i64 1)), none⟩, ⟨some 48, .bin .neq (.tmp 44) (.tmp 47), none⟩, ⟨some 49, .mov (.tmp 48), none⟩, ⟨some 50, .mov (.tmp 6), some ((49, false))⟩, ⟨some 51, .call (.lit (.fn (.func 10) [] [])) [.tmp 50], some ((49, false))⟩, ⟨some 52, .not (.tmp 51), some ((49, false))⟩, ⟨some 53, .pick (.tmp 49) (.lit (.bool true)) (.tmp 52), none⟩, ⟨some 54, .mov (.tmp 53), none⟩, ⟨some 55, .mov (.tmp 6), some ((54, false))⟩, ⟨some 56, .mov (.tmp 0), some ((54, false))⟩, ⟨some 57, .len (.tmp 56), some ((54, false))⟩, ⟨some 58, .ia 2 (.tmp 55) (.tmp 57), some ((54, false))⟩, ⟨some 59, .load 2 true (.tmp 58), some ((54, false))⟩, ⟨some 60, .load 2 true (.tmp 3), some ((54, false))⟩, ⟨some 61, .eqa true true [.str, .str] (.tmp 59) (.tmp 60), some ((54, false))⟩, ⟨some 62, .pick (.tmp 54) (.lit (.bool true)) (.tmp 61), none⟩, ⟨some 63, .mov (.tmp 62), none⟩, ⟨some 64, .mov (.tmp 0), some ((63, false))⟩, ⟨some 65, .fa 0 (.tmp 3), some ((63, false))⟩, ⟨some 66, .load 1 false (.tmp 65), some ((63, false))⟩, ⟨some 67, .call (.lit (.fn (.func 14) [] [])) [.tmp 64, .tmp 66], some ((63, false))⟩, ⟨some 68, .bin .neq (.tmp 67) (.lit (.int .i64 (-1))), some ((63, false))⟩, ⟨some 69, .pick (.tmp 63) (.lit (.bool true)) (.tmp 68), none⟩]) (.cond (.tmp 69) (.seq (.reg false [⟨some 4, .mov (.lit (.bool false)), none⟩]) .ret) .skip)) (.seq (.seq (.reg false [⟨some 8, .mov (.lit (.int .i64 0)), none⟩]) (.block 0 (.loop (.seq (.seq (.reg false [⟨some 70, .mov (.tmp 8), none⟩, ⟨some 71, .mov (.tmp 0), none⟩, ⟨some 72, .len (.tmp 71), none⟩, ⟨some 73, .bin .lss (.tmp 70) (.tmp 72), none⟩]) (.cond (.tmp 73) .skip (.exit 0))) (.seq (.block 1 (.seq (.reg true [⟨some 76, .mov (.tmp 6), none⟩, ⟨some 77, .mov (.tmp 8), none⟩, ⟨some 78, .ia 2 (.tmp 76) (.tmp 77), none⟩, ⟨some 79, .load 2 true (.tmp 78), none⟩, ⟨some 80, .mov (.tmp 0), none⟩, ⟨some 81, .mov (.tmp 8), none⟩, ⟨some 82, .ia 2 (.tmp 80) (.tmp 81), none⟩, ⟨some 83, .load 2 true (.tmp 82), none⟩, ⟨some 84, .eqa true true [.str, .str] (.tmp 79) (.tmp 83), none⟩, ⟨some 85, .mov (.tmp 84), none⟩, ⟨some 86, .mov (.tmp 6), some ((85, false))⟩, ⟨some 87, .mov (.tmp 0), some ((85, false))⟩, ⟨some 88, .mov (.tmp 8), some ((85, false))⟩, ⟨some 89, .ia 2 (.tmp 87) (.tmp 88), some ((85, false))⟩, ⟨some 90, .fa 0 (.tmp 89), some ((85, false))⟩, ⟨some 91, .load 1 false (.tmp 90), some ((85, false))⟩, ⟨some 92, .call (.lit (.fn (.func 14) [] [])) [.tmp 86, .tmp 91], some ((85, false))⟩, ⟨some 93, .mov (.tmp 8), some ((85, false))⟩, ⟨some 94, .bin .neq (.tmp 92) (.tmp 93), some ((85, false))⟩, ⟨some 95, .pick (.tmp 85) (.lit (.bool true)) (.tmp 94), none⟩]) (.cond (.tmp 95) (.seq (.reg false [⟨some 4, .mov (.lit (.bool false)), none⟩]) .ret) .skip))) (.reg false [⟨some 74, .mov (.tmp 8), none⟩, ⟨some 75, .bin .add (.tmp 74) (.lit (.int .i64 1)), none⟩, ⟨some 8, .mov (.tmp 75), none⟩])))))) (.seq (.reg false [⟨some 96, .mov (.tmp 5), none⟩, ⟨some 97, .mov (.tmp 96), none⟩, ⟨some 98, .mov (.tmp 6), some ((97, true))⟩, ⟨some 99, .fa 0 (.tmp 3), some ((97, true))⟩, ⟨some 100, .load 1 false (.tmp 99), some ((97, true))⟩, ⟨some 101, .call (.lit (.fn (.func 14) [] [])) [.tmp 98, .tmp 100], some ((97, true))⟩, ⟨some 102, .mov (.tmp 0), some ((97, true))⟩, ⟨some 103, .len (.tmp 102), some ((97, true))⟩, ⟨some 104, .bin .eql (.tmp 101) (.tmp 103), some ((97, true))⟩, ⟨some 105, .pick (.tmp 97) (.tmp 104) (.lit (.bool false)), none⟩, ⟨some 4, .mov (.tmp 105), none⟩]) .ret))))))), [.tmp 4]⟩
def c5 : AFn := ⟨45, .seq (.reg false [⟨some 6, .mov (.lit (.bool false)), none⟩]) (.seq (.reg false [⟨some 8, .call (.lit (.fn (.func 8) [] [])) [], none⟩, ⟨some 7, .mov (.tmp 8), none⟩]) (.seq (.reg false [⟨some 9, .mov (.tmp 7), none⟩, ⟨some 10, .mov (.tmp 9), none⟩, ⟨some 11, .mov (.tmp 0), some ((10, true))⟩, ⟨some 12, .mov (.tmp 1), some ((10, true))⟩, ⟨some 13, .call (.lit (.fn (.func 15) [] [])) [.tmp 11, .tmp 12], some ((10, true))⟩, ⟨some 14, .mov (.tmp 1), some ((10, true))⟩, ⟨some 15, .mov (.tmp 0), some ((10, true))⟩, ⟨some 16, .call (.lit (.fn (.func 15) [] [])) [.tmp 14, .tmp 15], some ((10, true))⟩, ⟨some 17, .bin .eql (.tmp 13) (.tmp 16), some ((10, true))⟩, ⟨some 18, .pick (.tmp 10) (.tmp 17) (.lit (.bool false)), none⟩, ⟨some 19, .mov (.tmp 18), none⟩, ⟨some 20, .mov (.tmp 0), some ((19, true))⟩, ⟨some 21, .mov (.tmp 1), some ((19, true))⟩, ⟨some 22, .call (.lit (.fn (.func 15) [] [])) [.tmp 20, .tmp 21], some ((19, true))⟩, ⟨some 23, .mov (.tmp 2), some ((19, true))⟩, ⟨some 24, .call (.lit (.fn (.func 15) [] [])) [.tmp 22, .tmp 23], some ((19, true))⟩, ⟨some 25, .mov (.tmp 0), some ((19, true))⟩, ⟨some 26, .mov (.tmp 1), some ((19, true))⟩, ⟨some 27, .mov (.tmp 2), some ((19, true))⟩, ⟨some 28, .call (.lit (.fn (.func 15) [] [])) [.tmp 26, .tmp 27], some ((19, true))⟩, ⟨some 29, .call (.lit (.fn (.func 15) [] [])) [.tmp 25, .tmp 28], some ((19, true))⟩, ⟨some 30, .bin .eql (.tmp 24) (.tmp 29), some ((19, true))⟩, ⟨some 31, .pick (.tmp 19) (.tmp 30) (.lit (.bool false)), none⟩, ⟨some 32, .mov (.tmp 31), none⟩, ⟨some 33, .mov (.tmp 0), some ((32, true))⟩, ⟨some 34, .call (.lit (.fn (.func 15) [] [])) [.lit (.int .u8 45), .tmp 33], some ((32, true))⟩, ⟨some 35, .call (.lit (.fn (.func 15) [] [])) [.lit (.int .u8 45), .tmp 34], some ((32, true))⟩, ⟨some 36, .mov (.tmp 0), some ((32, true))⟩, ⟨some 37, .call (.lit (.fn (.func 15) [] [])) [.lit (.int .u8 43), .tmp 36], some ((32, true))⟩, ⟨some 38, .bin .eql (.tmp 35) (.tmp 37), some ((32, true))⟩, ⟨some 39, .pick (.tmp 32) (.tmp 38) (.lit (.bool false)), none⟩, ⟨some 40, .mov (.tmp 39), none⟩, ⟨some 41, .mov (.tmp 0), some ((40, true))⟩, ⟨some 42, .call (.lit (.fn (.func 15) [] [])) [.lit (.int .u8 61), .tmp 41], some ((40, true))⟩, ⟨some 43, .bin .eql (.tmp 42) (.lit (.int .u8 61)), some ((40, true))⟩, ⟨some 44, .pick (.tmp 40) (.tmp 43) (.lit (.bool false)), none⟩, ⟨some 6, .mov (.tmp 44), none⟩]) .ret)), [.tmp 6]⟩
def c8 : AFn := ⟨34, .seq (.reg false [⟨some 0, .mov (.lit (.bool false)), none⟩]) (.seq (.reg false [⟨some 4, .build [.str ⟨#[]⟩, .str ⟨#[]⟩] [(0, 1, .lit (.str ⟨#[114, 101, 102]⟩)), (1, 1, .lit (.str ⟨#[43, 43, 45]⟩))], none⟩, ⟨some 5, .call (.lit (.fn (.func 11) [] [])) [.lit .nilS, .tmp 4], none⟩, ⟨some 3, .mov (.tmp 5), none⟩, ⟨some 6, .ext (.tmp 3) 0, none⟩, ⟨some 7, .ext (.tmp 3) 1, none⟩, ⟨some 1, .mov (.tmp 6), none⟩, ⟨some 2, .mov (.tmp 7), none⟩]) (.seq (.reg false [⟨some 8, .call (.lit (.fn (.func 15) [] [])) [.lit (.int .u8 45), .lit (.int .u8 45)], none⟩, ⟨some 9, .bin .eql (.tmp 8) (.lit (.int .u8 43)), none⟩, ⟨some 10, .mov (.tmp 9), none⟩, ⟨some 11, .mov (.tmp 2), some ((10, true))⟩, ⟨some 12, .bin .eql (.tmp 11) (.lit (.int .i64 0)), some ((10, true))⟩, ⟨some 13, .pick (.tmp 10) (.tmp 12) (.lit (.bool false)), none⟩, ⟨some 14, .mov (.tmp 13), none⟩, ⟨some 15, .mov (.tmp 1), some ((14, true))⟩, ⟨some 16, .len (.tmp 15), some ((14, true))⟩, ⟨some 17, .bin .eql (.tmp 16) (.lit (.int .i64 1)), some ((14, true))⟩, ⟨some 18, .pick (.tmp 14) (.tmp 17) (.lit (.bool false)), none⟩, ⟨some 19, .mov (.tmp 18), none⟩, ⟨some 20, .mov (.tmp 1), some ((19, true))⟩, ⟨some 21, .call (.lit (.fn (.func 14) [] [])) [.tmp 20, .lit (.str ⟨#[114, 101, 102]⟩)], some ((19, true))⟩, ⟨some 22, .bin .eql (.tmp 21) (.lit (.int .i64 0)), some ((19, true))⟩, ⟨some 23, .pick (.tmp 19) (.tmp 22) (.lit (.bool false)), none⟩, ⟨some 24, .mov (.tmp 23), none⟩, ⟨some 25, .call (.lit (.fn (.func 16) [] [])) [.lit (.str ⟨#[114, 101, 102]⟩)], some ((24, true))⟩, ⟨some 26, .pick (.tmp 24) (.tmp 25) (.lit (.bool false)), none⟩, ⟨some 27, .mov (.tmp 26), none⟩, ⟨some 28, .call (.lit (.fn (.func 17) [] [])) [.lit (.str ⟨#[88, 49]⟩)], some ((27, true))⟩, ⟨some 29, .pick (.tmp 27) (.tmp 28) (.lit (.bool false)), none⟩, ⟨some 30, .mov (.tmp 29), none⟩, ⟨some 31, .mov (.tmp 1), some ((30, true))⟩, ⟨some 32, .call (.lit (.fn (.func 19) [] [])) [.tmp 31], some ((30, true))⟩, ⟨some 33, .pick (.tmp 30) (.tmp 32) (.lit (.bool false)), none⟩, ⟨some 0, .mov (.tmp 33), none⟩]) .ret)), [.tmp 0]⟩
def c9 : AFn := ⟨28, .seq (.reg false [⟨some 2, .mov (.lit (.bool false)), none⟩]) (.seq (.seq (.reg false [⟨some 3, .mov (.lit (.int .i64 0)), none⟩]) (.block 0 (.loop (.seq (.seq (.reg false [⟨some 4, .mov (.tmp 3), none⟩, ⟨some 5, .mov (.tmp 0), none⟩, ⟨some 6, .len (.tmp 5), none⟩, ⟨some 7, .bin .lss (.tmp 4) (.tmp 6), none⟩]) (.cond (.tmp 7) .skip (.exit 0))) (.seq (.block 1 (.seq (.reg true [⟨some 10, .mov (.tmp 3), none⟩, ⟨some 11, .bin .geq (.tmp 10) (.lit (.int .i64 200)), none⟩, ⟨some 12, .mov (.tmp 11), none⟩, ⟨some 13, .mov (.tmp 0), some ((12, false))⟩, ⟨some 14, .mov (.tmp 3), some ((12, false))⟩, ⟨some 15, .ia 2 (.tmp 13) (.tmp 14), some ((12, false))⟩, ⟨some 16, .fa 0 (.tmp 15), some ((12, false))⟩, ⟨some 17, .load 1 false (.tmp 16), some ((12, false))⟩, ⟨some 18, .lens (.tmp 17), some ((12, false))⟩, ⟨some 19, .mov (.tmp 0), some ((12, false))⟩, ⟨some 20, .mov (.tmp 3), some ((12, false))⟩, ⟨some 21, .ia 2 (.tmp 19) (.tmp 20), some ((12, false))⟩, ⟨some 22, .fa 1 (.tmp 21), some ((12, false))⟩, ⟨some 23, .load 1 false (.tmp 22), some ((12, false))⟩, ⟨some 24, .lens (.tmp 23), some ((12, false))⟩, ⟨some 25, .bin .add (.tmp 18) (.tmp 24), some ((12, false))⟩, ⟨some 26, .bin .gtr (.tmp 25) (.lit (.int .i64 100)), some ((12, false))⟩, ⟨some 27, .pick (.tmp 12) (.lit (.bool true)) (.tmp 26), none⟩]) (.cond (.tmp 27) (.seq (.reg false [⟨some 2, .mov (.lit (.bool false)), none⟩]) .ret) .skip))) (.reg false [⟨some 8, .mov (.tmp 3), none⟩, ⟨some 9, .bin .add (.tmp 8) (.lit (.int .i64 1)), none⟩, ⟨some 3, .mov (.tmp 9), none⟩])))))) (.seq (.reg false [⟨some 2, .mov (.lit (.bool true)), none⟩]) .ret)), [.tmp 2]⟩
def c10 : AFn := ⟨41, .seq (.reg false [⟨some 2, .mov (.lit (.bool false)), none⟩]) (.seq (.seq (.reg false [⟨some 3, .mov (.lit (.int .i64 0)), none⟩]) (.block 0 (.loop (.seq (.seq (.reg false [⟨some 5, .mov (.tmp 3), none⟩, ⟨some 6, .mov (.tmp 0), none⟩, ⟨some 7, .len (.tmp 6), none⟩, ⟨some 8, .bin .lss (.tmp 5) (.tmp 7), none⟩]) (.cond (.tmp 8) .skip (.exit 0))) (.seq (.block 1 (.seq (.reg false [⟨some 11, .mov (.tmp 0), none⟩, ⟨some 12, .mov (.tmp 3), none⟩, ⟨some 13, .ia 2 (.tmp 11) (.tmp 12), none⟩, ⟨some 14, .fa 0 (.tmp 13), none⟩, ⟨some 15, .load 1 false (.tmp 14), none⟩, ⟨some 16, .call (.lit (.fn (.func 20) [] [])) [.tmp 15], none⟩, ⟨some 17, .mov (.tmp 16), none⟩, ⟨some 18, .mov (.tmp 0), some ((17, true))⟩, ⟨some 19, .mov (.tmp 3), some ((17, true))⟩, ⟨some 20, .ia 2 (.tmp 18) (.tmp 19), some ((17, true))⟩, ⟨some 21, .fa 1 (.tmp 20), some ((17, true))⟩, ⟨some 22, .load 1 false (.tmp 21), some ((17, true))⟩, ⟨some 23, .call (.lit (.fn (.func 21) [] [])) [.tmp 22], some ((17, true))⟩, ⟨some 24, .pick (.tmp 17) (.tmp 23) (.lit (.bool false)), none⟩, ⟨some 4, .mov (.tmp 24), none⟩]) (.seq (.reg false [⟨some 25, .mov (.tmp 4), none⟩, ⟨some 26, .not (.tmp 25), none⟩, ⟨some 27, .mov (.tmp 26), none⟩, ⟨some 28, .mov (.tmp 0), some ((27, false))⟩, ⟨some 29, .mov (.tmp 0), some ((27, false))⟩, ⟨some 30, .mov (.tmp 3), some ((27, false))⟩, ⟨some 31, .ia 2 (.tmp 29) (.tmp 30), some ((27, false))⟩, ⟨some 32, .fa 0 (.tmp 31), some ((27, false))⟩, ⟨some 33, .load 1 false (.tmp 32), some ((27, false))⟩, ⟨some 34, .call (.lit (.fn (.func 22) [] [])) [.tmp 28, .tmp 33], some ((27, false))⟩, ⟨some 35, .mov (.tmp 3), some ((27, false))⟩, ⟨some 36, .bin .lss (.tmp 34) (.tmp 35), some ((27, false))⟩, ⟨some 37, .pick (.tmp 27) (.lit (.bool true)) (.tmp 36), none⟩]) (.cond (.tmp 37) (.seq (.reg false [⟨some 2, .mov (.lit (.bool false)), none⟩]) .ret) .skip)))) (.reg false [⟨some 9, .mov (.tmp 3), none⟩, ⟨some 10, .bin .add (.tmp 9) (.lit (.int .i64 1)), none⟩, ⟨some 3, .mov (.tmp 10), none⟩])))))) (.seq (.reg false [⟨some 38, .mov (.tmp 0), none⟩, ⟨some 39, .len (.tmp 38), none⟩, ⟨some 40, .bin .leq (.tmp 39) (.lit (.int .i64 64)), none⟩, ⟨some 2, .mov (.tmp 40), none⟩]) .ret)), [.tmp 2]⟩
def c11 : AFn := ⟨35, .seq (.reg false [⟨some 3, .box (.tmp 1), none⟩, ⟨some 4, .mov (.lit .nilS), none⟩, ⟨some 5, .mov (.lit (.int .i64 0)), none⟩]) (.seq (.block 0 (.seq (.reg false [⟨some 7, .fa 0 (.tmp 3), none⟩, ⟨some 8, .load 1 false (.tmp 7), none⟩, ⟨some 9, .call (.lit (.fn (.func 16) [] [])) [.tmp 8], none⟩, ⟨some 10, .not (.tmp 9), none⟩, ⟨some 6, .mov (.tmp 10), none⟩]) (.cond (.tmp 6) (.seq (.reg false [⟨some 11, .mov (.tmp 0), none⟩, ⟨some 4, .mov (.tmp 11), none⟩, ⟨some 5, .mov (.lit (.int .i64 3)), none⟩]) .ret) (.seq (.reg false [⟨some 13, .fa 1 (.tmp 3), none⟩, ⟨some 14, .load 1 false (.tmp 13), none⟩, ⟨some 15, .call (.lit (.fn (.func 23) [] [])) [.tmp 14], none⟩, ⟨some 16, .not (.tmp 15), none⟩, ⟨some 12, .mov (.tmp 16), none⟩]) (.cond (.tmp 12) (.seq (.reg false [⟨some 17, .mov (.tmp 0), none⟩, ⟨some 4, .mov (.tmp 17), none⟩, ⟨some 5, .mov (.lit (.int .i64 1)), none⟩]) .ret) (.seq (.reg false [⟨some 19, .mov (.tmp 0), none⟩, ⟨some 20, .fa 0 (.tmp 3), none⟩, ⟨some 21, .load 1 false (.tmp 20), none⟩, ⟨some 22, .call (.lit (.fn (.func 14) [] [])) [.tmp 19, .tmp 21], none⟩, ⟨some 23, .bin .geq (.tmp 22) (.lit (.int .i64 0)), none⟩, ⟨some 18, .mov (.tmp 23), none⟩]) (.cond (.tmp 18) (.seq (.reg false [⟨some 24, .mov (.tmp 0), none⟩, ⟨some 4, .mov (.tmp 24), none⟩, ⟨some 5, .mov (.lit (.int .i64 4)), none⟩]) .ret) (.seq (.reg false [⟨some 26, .mov (.tmp 0), none⟩, ⟨some 27, .len (.tmp 26), none⟩, ⟨some 28, .bin .geq (.tmp 27) (.lit (.int .i64 64)), none⟩, ⟨some 25, .mov (.tmp 28), none⟩]) (.cond (.tmp 25) (.seq (.reg false [⟨some 29, .mov (.tmp 0), none⟩, ⟨some 4, .mov (.tmp 29), none⟩, ⟨some 5, .mov (.lit (.int .i64 7)), none⟩]) .ret) .skip))))))))) (.seq (.reg true [⟨some 30, .mov (.tmp 0), none⟩, ⟨some 31, .call (.lit (.fn (.func 24) [] [])) [.tmp 30], none⟩, ⟨some 32, .load 2 true (.tmp 3), none⟩, ⟨some 33, .bslice 2 1 [.str ⟨#[]⟩, .str ⟨#[]⟩] [(0, .tmp 32)], none⟩, ⟨some 34, .app 2 32 (.tmp 31) (.tmp 33), none⟩, ⟨some 4, .mov (.tmp 34), none⟩, ⟨some 5, .mov (.lit (.int .i64 0)), none⟩]) .ret)), [.tmp 4, .tmp 5]⟩
-- f12: NOT COMPILED
def c13 : AFn := ⟨26, .seq (.reg false [⟨some 4, .mov (.lit (.bool false)), none⟩]) (.seq (.seq (.reg false [⟨some 6, .mov (.tmp 0), none⟩, ⟨some 7, .len (.tmp 6), none⟩, ⟨some 8, .mov (.tmp 1), none⟩, ⟨some 9, .len (.tmp 8), none⟩, ⟨some 10, .bin .neq (.tmp 7) (.tmp 9), none⟩]) (.cond (.tmp 10) (.seq (.reg false [⟨some 4, .mov (.lit (.bool false)), none⟩]) .ret) .skip)) (.seq (.seq (.reg false [⟨some 5, .mov (.lit (.int .i64 0)), none⟩]) (.block 0 (.loop (.seq (.seq (.reg false [⟨some 11, .mov (.tmp 5), none⟩, ⟨some 12, .mov (.tmp 0), none⟩, ⟨some 13, .len (.tmp 12), none⟩, ⟨some 14, .bin .lss (.tmp 11) (.tmp 13), none⟩]) (.cond (.tmp 14) .skip (.exit 0))) (.seq (.block 1 (.seq (.reg true [⟨some 17, .mov (.tmp 0), none⟩, ⟨some 18, .mov (.tmp 5), none⟩, ⟨some 19, .ia 2 (.tmp 17) (.tmp 18), none⟩, ⟨some 20, .load 2 true (.tmp 19), none⟩, ⟨some 21, .mov (.tmp 1), none⟩, ⟨some 22, .mov (.tmp 5), none⟩, ⟨some 23, .ia 2 (.tmp 21) (.tmp 22), none⟩, ⟨some 24, .load 2 true (.tmp 23), none⟩, ⟨some 25, .eqa true true [.str, .str] (.tmp 20) (.tmp 24), none⟩]) (.cond (.tmp 25) (.seq (.reg false [⟨some 4, .mov (.lit (.bool false)), none⟩]) .ret) .skip))) (.reg false [⟨some 15, .mov (.tmp 5), none⟩, ⟨some 16, .bin .add (.tmp 15) (.lit (.int .i64 1)), none⟩, ⟨some 5, .mov (.tmp 16), none⟩])))))) (.seq (.reg false [⟨some 4, .mov (.lit (.bool true)), none⟩]) .ret))), [.tmp 4]⟩
def c14 : AFn := ⟨8, .seq (.reg false [⟨some 3, .box (.tmp 1), none⟩, ⟨some 4, .mov (.lit (.int .i64 0)), none⟩]) (.seq (.reg false [⟨some 5, .mov (.tmp 0), none⟩, ⟨some 6, .mkfn (.func 26) [] [.tmp 3], none⟩, ⟨some 7, .call (.lit (.fn (.func 25) [] [])) [.tmp 5, .tmp 6], none⟩, ⟨some 4, .mov (.tmp 7), none⟩]) .ret), [.tmp 4]⟩
def c15 : AFn := ⟨18, .seq (.reg false [⟨some 4, .mov (.lit (.int .u8 0)), none⟩]) (.seq (.block 0 (.seq (.reg false [⟨some 6, .mov (.tmp 0), none⟩, ⟨some 7, .call (.lit (.fn (.func 27) [] [])) [.tmp 6], none⟩, ⟨some 8, .not (.tmp 7), none⟩, ⟨some 9, .mov (.tmp 8), none⟩, ⟨some 10, .mov (.tmp 1), some ((9, false))⟩, ⟨some 11, .call (.lit (.fn (.func 27) [] [])) [.tmp 10], some ((9, false))⟩, ⟨some 12, .not (.tmp 11), some ((9, false))⟩, ⟨some 13, .pick (.tmp 9) (.lit (.bool true)) (.tmp 12), none⟩, ⟨some 5, .mov (.tmp 13), none⟩]) (.cond (.tmp 5) (.seq (.reg false [⟨some 4, .mov (.lit (.int .u8 61)), none⟩]) .ret) (.seq (.reg false [⟨some 15, .mov (.tmp 0), none⟩, ⟨some 16, .mov (.tmp 1), none⟩, ⟨some 17, .bin .eql (.tmp 15) (.tmp 16), none⟩, ⟨some 14, .mov (.tmp 17), none⟩]) (.cond (.tmp 14) (.seq (.reg false [⟨some 4, .mov (.lit (.int .u8 43)), none⟩]) .ret) .skip))))) (.seq (.reg false [⟨some 4, .mov (.lit (.int .u8 45)), none⟩]) .ret)), [.tmp 4]⟩
def c16 : AFn := ⟨7, .seq (.reg false [⟨some 2, .mov (.lit (.bool false)), none⟩]) (.seq (.reg false [⟨some 3, .mov (.tmp 0), none⟩, ⟨some 4, .call (.lit (.fn (.func 29) [] [])) [], none⟩, ⟨some 5, .mkfn (.func 30) [.tmp 4] [], none⟩, ⟨some 6, .call (.lit (.fn (.func 28) [] [])) [.tmp 3, .tmp 5], none⟩, ⟨some 2, .mov (.tmp 6), none⟩]) .ret), [.tmp 2]⟩
def c17 : AFn := ⟨7, .seq (.reg false [⟨some 2, .mov (.lit (.bool false)), none⟩]) (.seq (.reg false [⟨some 3, .mov (.tmp 0), none⟩, ⟨some 4, .call (.lit (.fn (.func 31) [] [])) [], none⟩, ⟨some 5, .mkfn (.func 30) [.tmp 4] [], none⟩, ⟨some 6, .call (.lit (.fn (.func 28) [] [])) [.tmp 3, .tmp 5], none⟩, ⟨some 2, .mov (.tmp 6), none⟩]) .ret), [.tmp 2]⟩
def c18 : AFn := ⟨8, .seq (.reg false [⟨some 4, .mov (.lit (.bool false)), none⟩]) (.seq (.reg false [⟨some 5, .mov (.tmp 0), none⟩, ⟨some 6, .mov (.tmp 1), none⟩, ⟨some 7, .call (.lit (.fn (.func 32) [] [])) [.tmp 5, .tmp 6], none⟩, ⟨some 4, .mov (.tmp 7), none⟩]) .ret), [.tmp 4]⟩
def c19 : AFn := ⟨34, .seq (.reg false [⟨some 2, .mov (.lit (.bool false)), none⟩]) (.seq (.seq (.reg false [⟨some 5, .mov (.tmp 0), none⟩, ⟨some 6, .len (.tmp 5), none⟩, ⟨some 7, .mov (.lit (.int .i64 0)), none⟩]) (.block 0 (.loop (.seq (.reg false [⟨some 8, .bin .lss (.tmp 7) (.tmp 6), none⟩]) (.seq (.cond (.tmp 8) .skip (.exit 0)) (.seq (.block 1 (.seq (.reg false [⟨some 9, .mov (.tmp 7), none⟩, ⟨some 10, .ia 2 (.tmp 5) (.tmp 7), none⟩, ⟨some 11, .load 2 true (.tmp 10), none⟩, ⟨some 4, .alloc [.str ⟨#[]⟩, .str ⟨#[]⟩], none⟩, ⟨some 3, .mov (.tmp 9), none⟩, ⟨none, .store 2 (.tmp 4) (.tmp 11), none⟩]) (.seq (.reg false [⟨some 12, .fa 0 (.tmp 4), none⟩, ⟨some 13, .load 1 false (.tmp 12), none⟩, ⟨some 14, .call (.lit (.fn (.func 16) [] [])) [.tmp 13], none⟩, ⟨some 15, .not (.tmp 14), none⟩, ⟨some 16, .mov (.tmp 15), none⟩, ⟨some 17, .fa 1 (.tmp 4), some ((16, false))⟩, ⟨some 18, .load 1 false (.tmp 17), some ((16, false))⟩, ⟨some 19, .call (.lit (.fn (.func 23) [] [])) [.tmp 18], some ((16, false))⟩, ⟨some 20, .not (.tmp 19), some ((16, false))⟩, ⟨some 21, .pick (.tmp 16) (.lit (.bool true)) (.tmp 20), none⟩, ⟨some 22, .mov (.tmp 21), none⟩, ⟨some 23, .mov (.tmp 0), some ((22, false))⟩, ⟨some 24, .fa 0 (.tmp 4), some ((22, false))⟩, ⟨some 25, .load 1 false (.tmp 24), some ((22, false))⟩, ⟨some 26, .call (.lit (.fn (.func 14) [] [])) [.tmp 23, .tmp 25], some ((22, false))⟩, ⟨some 27, .mov (.tmp 3), some ((22, false))⟩, ⟨some 28, .bin .neq (.tmp 26) (.tmp 27), some ((22, false))⟩, ⟨some 29, .pick (.tmp 22) (.lit (.bool true)) (.tmp 28), none⟩]) (.cond (.tmp 29) (.seq (.reg false [⟨some 2, .mov (.lit (.bool false)), none⟩]) .ret) .skip)))) (.reg false [⟨some 30, .bin .add (.tmp 7) (.lit (.int .i64 1)), none⟩, ⟨some 7, .mov (.tmp 30), none⟩]))))))) (.seq (.reg false [⟨some 31, .mov (.tmp 0), none⟩, ⟨some 32, .len (.tmp 31), none⟩, ⟨some 33, .bin .leq (.tmp 32) (.lit (.int .i64 64)), none⟩, ⟨some 2, .mov (.tmp 33), none⟩]) .ret)), [.tmp 2]⟩
def c20 : AFn := ⟨10, .seq (.reg false [⟨some 2, .mov (.lit (.bool false)), none⟩]) (.seq (.reg false [⟨some 3, .mov (.tmp 0), none⟩, ⟨some 4, .call (.lit (.fn (.func 33) [] [])) [.tmp 3], none⟩, ⟨some 5, .mov (.tmp 4), none⟩, ⟨some 6, .mov (.tmp 0), some ((5, true))⟩, ⟨some 7, .idxs (.tmp 6) (.lit (.int .i64 0)), some ((5, true))⟩, ⟨some 8, .call (.lit (.fn (.func 34) [] [])) [.tmp 7], some ((5, true))⟩, ⟨some 9, .pick (.tmp 5) (.tmp 8) (.lit (.bool false)), none⟩, ⟨some 2, .mov (.tmp 9), none⟩]) .ret), [.tmp 2]⟩
def c21 : AFn := ⟨29, .seq (.reg false [⟨some 2, .mov (.lit (.bool false)), none⟩]) (.seq (.seq (.reg false [⟨some 3, .mov (.lit (.int .i64 0)), none⟩]) (.block 0 (.loop (.seq (.seq (.reg false [⟨some 4, .mov (.tmp 3), none⟩, ⟨some 5, .mov (.tmp 0), none⟩, ⟨some 6, .lens (.tmp 5), none⟩, ⟨some 7, .bin .lss (.tmp 4) (.tmp 6), none⟩]) (.cond (.tmp 7) .skip (.exit 0))) (.seq (.block 1 (.seq (.reg false [⟨some 10, .mov (.tmp 0), none⟩, ⟨some 11, .mov (.tmp 3), none⟩, ⟨some 12, .idxs (.tmp 10) (.tmp 11), none⟩, ⟨some 13, .bin .neq (.tmp 12) (.lit (.int .u8 43)), none⟩, ⟨some 14, .mov (.tmp 13), none⟩, ⟨some 15, .mov (.tmp 0), some ((14, true))⟩, ⟨some 16, .mov (.tmp 3), some ((14, true))⟩, ⟨some 17, .idxs (.tmp 15) (.tmp 16), some ((14, true))⟩, ⟨some 18, .bin .neq (.tmp 17) (.lit (.int .u8 45)), some ((14, true))⟩, ⟨some 19, .pick (.tmp 14) (.tmp 18) (.lit (.bool false)), none⟩, ⟨some 20, .mov (.tmp 19), none⟩, ⟨some 21, .mov (.tmp 0), some ((20, true))⟩, ⟨some 22, .mov (.tmp 3), some ((20, true))⟩, ⟨some 23, .idxs (.tmp 21) (.tmp 22), some ((20, true))⟩, ⟨some 24, .bin .neq (.tmp 23) (.lit (.int .u8 61)), some ((20, true))⟩, ⟨some 25, .pick (.tmp 20) (.tmp 24) (.lit (.bool false)), none⟩]) (.cond (.tmp 25) (.seq (.reg false [⟨some 2, .mov (.lit (.bool false)), none⟩]) .ret) .skip))) (.reg false [⟨some 8, .mov (.tmp 3), none⟩, ⟨some 9, .bin .add (.tmp 8) (.lit (.int .i64 1)), none⟩, ⟨some 3, .mov (.tmp 9), none⟩])))))) (.seq (.reg false [⟨some 26, .mov (.tmp 0), none⟩, ⟨some 27, .lens (.tmp 26), none⟩, ⟨some 28, .bin .leq (.tmp 27) (.lit (.int .i64 8)), none⟩, ⟨some 2, .mov (.tmp 28), none⟩]) .ret)), [.tmp 2]⟩
def c22 : AFn := ⟨20, .seq (.reg false [⟨some 4, .mov (.lit (.int .i64 0)), none⟩]) (.seq (.seq (.reg false [⟨some 5, .mov (.lit (.int .i64 0)), none⟩]) (.block 0 (.loop (.seq (.seq (.reg false [⟨some 6, .mov (.tmp 5), none⟩, ⟨some 7, .mov (.tmp 0), none⟩, ⟨some 8, .len (.tmp 7), none⟩, ⟨some 9, .bin .lss (.tmp 6) (.tmp 8), none⟩]) (.cond (.tmp 9) .skip (.exit 0))) (.seq (.block 1 (.seq (.reg false [⟨some 12, .mov (.tmp 0), none⟩, ⟨some 13, .mov (.tmp 5), none⟩, ⟨some 14, .ia 2 (.tmp 12) (.tmp 13), none⟩, ⟨some 15, .fa 0 (.tmp 14), none⟩, ⟨some 16, .load 1 false (.tmp 15), none⟩, ⟨some 17, .mov (.tmp 1), none⟩, ⟨some 18, .bin .eql (.tmp 16) (.tmp 17), none⟩]) (.cond (.tmp 18) (.seq (.reg false [⟨some 19, .mov (.tmp 5), none⟩, ⟨some 4, .mov (.tmp 19), none⟩]) .ret) .skip))) (.reg false [⟨some 10, .mov (.tmp 5), none⟩, ⟨some 11, .bin .add (.tmp 10) (.lit (.int .i64 1)), none⟩, ⟨some 5, .mov (.tmp 11), none⟩])))))) (.seq (.reg false [⟨some 4, .mov (.lit (.int .i64 (-1))), none⟩]) .ret)), [.tmp 4]⟩
def c23 : AFn := ⟨11, .seq (.reg false [⟨some 2, .mov (.lit (.bool false)), none⟩]) (.seq (.reg false [⟨some 3, .mov (.tmp 0), none⟩, ⟨some 4, .lens (.tmp 3), none⟩, ⟨some 5, .bin .leq (.tmp 4) (.lit (.int .i64 8)), none⟩, ⟨some 6, .mov (.tmp 5), none⟩, ⟨some 7, .mov (.tmp 0), some ((6, true))⟩, ⟨some 8, .call (.lit (.fn (.func 35) [] [])) [.tmp 7, .lit (.str ⟨#[43, 45, 61]⟩)], some ((6, true))⟩, ⟨some 9, .bin .eql (.tmp 8) (.lit (.str ⟨#[]⟩)), some ((6, true))⟩, ⟨some 10, .pick (.tmp 6) (.tmp 9) (.lit (.bool false)), none⟩, ⟨some 2, .mov (.tmp 10), none⟩]) .ret), [.tmp 2]⟩
def c24 : AFn := ⟨9, .seq (.reg false [⟨some 2, .mov (.lit .nilS), none⟩]) (.seq (.reg false [⟨some 3, .mov (.tmp 0), none⟩, ⟨some 4, .mov (.tmp 0), none⟩, ⟨some 5, .len (.tmp 4), none⟩, ⟨some 6, .mov (.tmp 0), none⟩, ⟨some 7, .len (.tmp 6), none⟩, ⟨some 8, .slc 2 (.tmp 3) none (some (.tmp 5)) (some (.tmp 7)), none⟩, ⟨some 2, .mov (.tmp 8), none⟩]) .ret), [.tmp 2]⟩
def c25 : AFn := ⟨19, .seq (.reg false [⟨some 4, .mov (.lit (.int .i64 0)), none⟩]) (.seq (.seq (.reg false [⟨some 6, .mov (.tmp 0), none⟩, ⟨some 7, .len (.tmp 6), none⟩, ⟨some 8, .mov (.lit (.int .i64 0)), none⟩]) (.block 0 (.loop (.seq (.reg false [⟨some 9, .bin .lss (.tmp 8) (.tmp 7), none⟩]) (.seq (.cond (.tmp 9) .skip (.exit 0)) (.seq (.block 1 (.seq (.reg false [⟨some 10, .mov (.tmp 8), none⟩, ⟨some 5, .mov (.tmp 10), none⟩]) (.seq (.reg false [⟨some 11, .mov (.tmp 1), none⟩, ⟨some 12, .mov (.tmp 0), none⟩, ⟨some 13, .mov (.tmp 5), none⟩, ⟨some 14, .ia 2 (.tmp 12) (.tmp 13), none⟩, ⟨some 15, .load 2 true (.tmp 14), none⟩, ⟨some 16, .call (.tmp 11) [.tmp 15], none⟩]) (.cond (.tmp 16) (.seq (.reg false [⟨some 17, .mov (.tmp 5), none⟩, ⟨some 4, .mov (.tmp 17), none⟩]) .ret) .skip)))) (.reg false [⟨some 18, .bin .add (.tmp 8) (.lit (.int .i64 1)), none⟩, ⟨some 8, .mov (.tmp 18), none⟩]))))))) (.seq (.reg false [⟨some 4, .mov (.lit (.int .i64 (-1))), none⟩]) .ret)), [.tmp 4]⟩
def c26 : AFn := ⟨8, .seq (.reg false [⟨some 2, .box (.tmp 0), none⟩, ⟨some 3, .mov (.lit (.bool false)), none⟩]) (.seq (.reg false [⟨some 4, .fa 0 (.tmp 2), none⟩, ⟨some 5, .load 1 false (.tmp 4), none⟩, ⟨some 6, .load 1 false (.tmp 1), none⟩, ⟨some 7, .bin .eql (.tmp 5) (.tmp 6), none⟩, ⟨some 3, .mov (.tmp 7), none⟩]) .ret), [.tmp 3]⟩
def c27 : AFn := ⟨9, .seq (.reg false [⟨some 2, .mov (.lit (.bool false)), none⟩]) (.seq (.reg false [⟨some 3, .mov (.tmp 0), none⟩, ⟨some 4, .bin .eql (.tmp 3) (.lit (.int .u8 43)), none⟩, ⟨some 5, .mov (.tmp 4), none⟩, ⟨some 6, .mov (.tmp 0), some ((5, false))⟩, ⟨some 7, .bin .eql (.tmp 6) (.lit (.int .u8 45)), some ((5, false))⟩, ⟨some 8, .pick (.tmp 5) (.lit (.bool true)) (.tmp 7), none⟩, ⟨some 2, .mov (.tmp 8), none⟩]) .ret), [.tmp 2]⟩
def c28 : AFn := ⟨24, .seq (.reg false [⟨some 4, .mov (.lit (.bool false)), none⟩]) (.seq (.seq (.reg false [⟨some 5, .mov (.tmp 0), none⟩, ⟨some 6, .lens (.tmp 5), none⟩, ⟨some 7, .bin .eql (.tmp 6) (.lit (.int .i64 0)), none⟩, ⟨some 8, .mov (.tmp 7), none⟩, ⟨some 9, .mov (.tmp 0), some ((8, false))⟩, ⟨some 10, .lens (.tmp 9), some ((8, false))⟩, ⟨some 11, .bin .gtr (.tmp 10) (.lit (.int .i64 20)), some ((8, false))⟩, ⟨some 12, .pick (.tmp 8) (.lit (.bool true)) (.tmp 11), none⟩, ⟨some 13, .mov (.tmp 12), none⟩, ⟨some 14, .mov (.tmp 1), some ((13, false))⟩, ⟨some 15, .mov (.tmp 0), some ((13, false))⟩, ⟨some 16, .idxs (.tmp 15) (.lit (.int .i64 0)), some ((13, false))⟩, ⟨some 17, .call (.tmp 14) [.tmp 16], some ((13, false))⟩, ⟨some 18, .not (.tmp 17), some ((13, false))⟩, ⟨some 19, .pick (.tmp 13) (.lit (.bool true)) (.tmp 18), none⟩]) (.cond (.tmp 19) (.seq (.reg false [⟨some 4, .mov (.lit (.bool false)), none⟩]) .ret) .skip)) (.seq (.reg false [⟨some 20, .mov (.tmp 0), none⟩, ⟨some 21, .s2b (.tmp 20), none⟩, ⟨some 22, .call (.lit (.fn (.func 36) [] [])) [.tmp 21, .lit (.fn (.func 37) [] [])], none⟩, ⟨some 23, .not (.tmp 22), none⟩, ⟨some 4, .mov (.tmp 23), none⟩]) .ret)), [.tmp 4]⟩
def c29 : AFn := ⟨2, .seq (.reg false [⟨some 0, .alloc [.int .u8 0, .int .u8 0], none⟩]) (.seq (.reg false [⟨some 1, .build [.int .u8 0, .int .u8 0] [(0, 1, .lit (.int .u8 97)), (1, 1, .lit (.int .u8 122))], none⟩, ⟨none, .store 2 (.tmp 0) (.tmp 1), none⟩]) .ret), [.cell 0 2 true]⟩
def c30 : AFn := ⟨15, .seq (.reg false [⟨some 2, .box (.tmp 0), none⟩, ⟨some 4, .mov (.lit (.bool false)), none⟩]) (.seq (.reg false [⟨some 5, .mov (.tmp 1), none⟩, ⟨some 6, .fa 0 (.tmp 2), none⟩, ⟨some 7, .load 1 false (.tmp 6), none⟩, ⟨some 8, .bin .geq (.tmp 5) (.tmp 7), none⟩, ⟨some 9, .mov (.tmp 8), none⟩, ⟨some 10, .mov (.tmp 1), some ((9, true))⟩, ⟨some 11, .fa 1 (.tmp 2), some ((9, true))⟩, ⟨some 12, .load 1 false (.tmp 11), some ((9, true))⟩, ⟨some 13, .bin .leq (.tmp 10) (.tmp 12), some ((9, true))⟩, ⟨some 14, .pick (.tmp 9) (.tmp 13) (.lit (.bool false)), none⟩, ⟨some 4, .mov (.tmp 14), none⟩]) .ret), [.tmp 4]⟩
def c31 : AFn := ⟨2, .seq (.reg false [⟨some 0, .alloc [.int .u8 0, .int .u8 0], none⟩]) (.seq (.reg false [⟨some 1, .build [.int .u8 0, .int .u8 0] [(0, 1, .lit (.int .u8 65)), (1, 1, .lit (.int .u8 90))], none⟩, ⟨none, .store 2 (.tmp 0) (.tmp 1), none⟩]) .ret), [.cell 0 2 true]⟩
def c32 : AFn := ⟨26, .seq (.reg false [⟨some 4, .mov (.lit (.bool false)), none⟩]) (.seq (.seq (.reg false [⟨some 6, .mov (.tmp 0), none⟩, ⟨some 7, .len (.tmp 6), none⟩, ⟨some 8, .mov (.tmp 1), none⟩, ⟨some 9, .len (.tmp 8), none⟩, ⟨some 10, .bin .neq (.tmp 7) (.tmp 9), none⟩]) (.cond (.tmp 10) (.seq (.reg false [⟨some 4, .mov (.lit (.bool false)), none⟩]) .ret) .skip)) (.seq (.seq (.reg false [⟨some 11, .mov (.tmp 0), none⟩, ⟨some 12, .len (.tmp 11), none⟩, ⟨some 13, .mov (.lit (.int .i64 0)), none⟩]) (.block 0 (.loop (.seq (.reg false [⟨some 14, .bin .lss (.tmp 13) (.tmp 12), none⟩]) (.seq (.cond (.tmp 14) .skip (.exit 0)) (.seq (.block 1 (.seq (.reg false [⟨some 15, .mov (.tmp 13), none⟩, ⟨some 5, .mov (.tmp 15), none⟩]) (.seq (.reg true [⟨some 16, .mov (.tmp 0), none⟩, ⟨some 17, .mov (.tmp 5), none⟩, ⟨some 18, .ia 2 (.tmp 16) (.tmp 17), none⟩, ⟨some 19, .load 2 true (.tmp 18), none⟩, ⟨some 20, .mov (.tmp 1), none⟩, ⟨some 21, .mov (.tmp 5), none⟩, ⟨some 22, .ia 2 (.tmp 20) (.tmp 21), none⟩, ⟨some 23, .load 2 true (.tmp 22), none⟩, ⟨some 24, .eqa true true [.str, .str] (.tmp 19) (.tmp 23), none⟩]) (.cond (.tmp 24) (.seq (.reg false [⟨some 4, .mov (.lit (.bool false)), none⟩]) .ret) .skip)))) (.reg false [⟨some 25, .bin .add (.tmp 13) (.lit (.int .i64 1)), none⟩, ⟨some 13, .mov (.tmp 25), none⟩]))))))) (.seq (.reg false [⟨some 4, .mov (.lit (.bool true)), none⟩]) .ret))), [.tmp 4]⟩
def c33 : AFn := ⟨56, .seq (.reg false [⟨some 2, .mov (.lit (.bool false)), none⟩]) (.seq (.seq (.reg false [⟨some 6, .mov (.tmp 0), none⟩, ⟨some 7, .lens (.tmp 6), none⟩, ⟨some 8, .bin .lss (.tmp 7) (.lit (.int .i64 1)), none⟩, ⟨some 9, .mov (.tmp 8), none⟩, ⟨some 10, .mov (.tmp 0), some ((9, false))⟩, ⟨some 11, .lens (.tmp 10), some ((9, false))⟩, ⟨some 12, .bin .gtr (.tmp 11) (.lit (.int .i64 20)), some ((9, false))⟩, ⟨some 13, .pick (.tmp 9) (.lit (.bool true)) (.tmp 12), none⟩]) (.cond (.tmp 13) (.seq (.reg false [⟨some 2, .mov (.lit (.bool false)), none⟩]) .ret) .skip)) (.seq (.seq (.reg false [⟨some 3, .mov (.lit (.int .i64 0)), none⟩]) (.block 0 (.loop (.seq (.seq (.reg false [⟨some 14, .mov (.tmp 3), none⟩, ⟨some 15, .mov (.tmp 0), none⟩, ⟨some 16, .lens (.tmp 15), none⟩, ⟨some 17, .bin .lss (.tmp 14) (.tmp 16), none⟩]) (.cond (.tmp 17) .skip (.exit 0))) (.seq (.block 1 (.seq (.reg false [⟨some 20, .mov (.tmp 0), none⟩, ⟨some 21, .mov (.tmp 3), none⟩, ⟨some 22, .idxs (.tmp 20) (.tmp 21), none⟩, ⟨some 23, .bin .geq (.tmp 22) (.lit (.int .u8 48)), none⟩, ⟨some 24, .mov (.tmp 23), none⟩, ⟨some 25, .mov (.tmp 0), some ((24, true))⟩, ⟨some 26, .mov (.tmp 3), some ((24, true))⟩, ⟨some 27, .idxs (.tmp 25) (.tmp 26), some ((24, true))⟩, ⟨some 28, .bin .leq (.tmp 27) (.lit (.int .u8 57)), some ((24, true))⟩, ⟨some 29, .pick (.tmp 24) (.tmp 28) (.lit (.bool false)), none⟩, ⟨some 30, .mov (.tmp 29), none⟩, ⟨some 31, .mov (.tmp 0), some ((30, false))⟩, ⟨some 32, .mov (.tmp 3), some ((30, false))⟩, ⟨some 33, .idxs (.tmp 31) (.tmp 32), some ((30, false))⟩, ⟨some 34, .bin .eql (.tmp 33) (.lit (.int .u8 95)), some ((30, false))⟩, ⟨some 35, .pick (.tmp 30) (.lit (.bool true)) (.tmp 34), none⟩, ⟨some 4, .mov (.tmp 35), none⟩]) (.seq (.reg false [⟨some 36, .mov (.tmp 0), none⟩, ⟨some 37, .mov (.tmp 3), none⟩, ⟨some 38, .idxs (.tmp 36) (.tmp 37), none⟩, ⟨some 39, .call (.lit (.fn (.func 34) [] [])) [.tmp 38], none⟩, ⟨some 40, .mov (.tmp 39), none⟩, ⟨some 41, .mov (.tmp 0), some ((40, false))⟩, ⟨some 42, .mov (.tmp 3), some ((40, false))⟩, ⟨some 43, .idxs (.tmp 41) (.tmp 42), some ((40, false))⟩, ⟨some 44, .call (.lit (.fn (.func 39) [] [])) [.tmp 43], some ((40, false))⟩, ⟨some 45, .pick (.tmp 40) (.lit (.bool true)) (.tmp 44), none⟩, ⟨some 5, .mov (.tmp 45), none⟩]) (.seq (.reg false [⟨some 46, .mov (.tmp 5), none⟩, ⟨some 47, .not (.tmp 46), none⟩, ⟨some 48, .mov (.tmp 47), none⟩, ⟨some 49, .mov (.tmp 3), some ((48, true))⟩, ⟨some 50, .bin .eql (.tmp 49) (.lit (.int .i64 0)), some ((48, true))⟩, ⟨some 51, .mov (.tmp 50), some ((48, true))⟩, ⟨some 52, .mov (.tmp 4), some ((51, false))⟩, ⟨some 53, .not (.tmp 52), some ((51, false))⟩, ⟨some 54, .pick (.tmp 51) (.lit (.bool true)) (.tmp 53), some ((48, true))⟩, ⟨some 55, .pick (.tmp 48) (.tmp 54) (.lit (.bool false)), none⟩]) (.cond (.tmp 55) (.seq (.reg false [⟨some 2, .mov (.lit (.bool false)), none⟩]) .ret) .skip))))) (.reg false [⟨some 18, .mov (.tmp 3), none⟩, ⟨some 19, .bin .add (.tmp 18) (.lit (.int .i64 1)), none⟩, ⟨some 3, .mov (.tmp 19), none⟩])))))) (.seq (.reg false [⟨some 2, .mov (.lit (.bool true)), none⟩]) .ret))), [.tmp 2]⟩
def c34 : AFn := ⟨9, .seq (.reg false [⟨some 2, .mov (.lit (.bool false)), none⟩]) (.seq (.reg false [⟨some 3, .mov (.tmp 0), none⟩, ⟨some 4, .bin .geq (.tmp 3) (.lit (.int .u8 97)), none⟩, ⟨some 5, .mov (.tmp 4), none⟩, ⟨some 6, .mov (.tmp 0), some ((5, true))⟩, ⟨some 7, .bin .leq (.tmp 6) (.lit (.int .u8 122)), some ((5, true))⟩, ⟨some 8, .pick (.tmp 5) (.tmp 7) (.lit (.bool false)), none⟩, ⟨some 2, .mov (.tmp 8), none⟩]) .ret), [.tmp 2]⟩
def c35 : AFn := ⟨43, .seq (.reg false [⟨some 4, .mov (.lit (.str ⟨#[]⟩)), none⟩]) (.seq (.seq (.reg false [⟨some 7, .mov (.tmp 0), none⟩, ⟨some 8, .bin .eql (.tmp 7) (.lit (.str ⟨#[]⟩)), none⟩, ⟨some 9, .mov (.tmp 8), none⟩, ⟨some 10, .mov (.tmp 1), some ((9, false))⟩, ⟨some 11, .bin .eql (.tmp 10) (.lit (.str ⟨#[]⟩)), some ((9, false))⟩, ⟨some 12, .pick (.tmp 9) (.lit (.bool true)) (.tmp 11), none⟩]) (.cond (.tmp 12) (.seq (.reg false [⟨some 13, .mov (.tmp 0), none⟩, ⟨some 4, .mov (.tmp 13), none⟩]) .ret) .skip)) (.seq (.seq (.reg false [⟨some 14, .mov (.tmp 1), none⟩, ⟨some 15, .lens (.tmp 14), none⟩, ⟨some 16, .bin .eql (.tmp 15) (.lit (.int .i64 1)), none⟩, ⟨some 17, .mov (.tmp 16), none⟩, ⟨some 18, .mov (.tmp 1), some ((17, true))⟩, ⟨some 19, .idxs (.tmp 18) (.lit (.int .i64 0)), some ((17, true))⟩, ⟨some 20, .bin .lss (.tmp 19) (.lit (.int .u8 128)), some ((17, true))⟩, ⟨some 21, .pick (.tmp 17) (.tmp 20) (.lit (.bool false)), none⟩]) (.cond (.tmp 21) (.seq (.reg true [⟨some 22, .mov (.tmp 0), none⟩, ⟨some 23, .mov (.tmp 1), none⟩, ⟨some 24, .idxs (.tmp 23) (.lit (.int .i64 0)), none⟩, ⟨some 25, .call (.lit (.fn (.func 41) [] [])) [.tmp 22, .tmp 24], none⟩, ⟨some 26, .mov (.tmp 1), none⟩, ⟨some 27, .idxs (.tmp 26) (.lit (.int .i64 0)), none⟩, ⟨some 28, .call (.lit (.fn (.func 40) [] [])) [.tmp 25, .tmp 27], none⟩, ⟨some 4, .mov (.tmp 28), none⟩]) .ret) .skip)) (.seq (.seq (.reg false [⟨some 30, .mov (.tmp 1), none⟩, ⟨some 31, .call (.lit (.fn (.func 42) [] [])) [.tmp 30], none⟩, ⟨some 29, .mov (.tmp 31), none⟩, ⟨some 32, .ext (.tmp 29) 0, none⟩, ⟨some 33, .ext (.tmp 29) 1, none⟩, ⟨some 5, .alloc ff256, none⟩, ⟨none, .store 256 (.tmp 5) (.tmp 32), none⟩, ⟨some 6, .mov (.tmp 33), none⟩]) (.seq (.reg false [⟨some 34, .mov (.tmp 6), none⟩]) (.cond (.tmp 34) (.seq (.reg false [⟨some 35, .mov (.tmp 0), none⟩, ⟨some 36, .call (.lit (.fn (.func 44) [] [])) [.tmp 35, .tmp 5], none⟩, ⟨some 37, .call (.lit (.fn (.func 43) [] [])) [.tmp 36, .tmp 5], none⟩, ⟨some 4, .mov (.tmp 37), none⟩]) .ret) .skip))) (.seq (.reg false [⟨some 38, .mov (.tmp 0), none⟩, ⟨some 39, .mov (.tmp 1), none⟩, ⟨some 40, .call (.lit (.fn (.func 46) [] [])) [.tmp 38, .tmp 39], none⟩, ⟨some 41, .mov (.tmp 1), none⟩, ⟨some 42, .call (.lit (.fn (.func 45) [] [])) [.tmp 40, .tmp 41], none⟩, ⟨some 4, .mov (.tmp 42), none⟩]) .ret)))), [.tmp 4]⟩
def c36 : AFn := ⟨9, .seq (.reg false [⟨some 4, .mov (.lit (.bool false)), none⟩]) (.seq (.reg false [⟨some 5, .mov (.tmp 0), none⟩, ⟨some 6, .mov (.tmp 1), none⟩, ⟨some 7, .call (.lit (.fn (.func 47) [] [])) [.tmp 5, .tmp 6], none⟩, ⟨some 8, .bin .geq (.tmp 7) (.lit (.int .i64 0)), none⟩, ⟨some 4, .mov (.tmp 8), none⟩]) .ret), [.tmp 4]⟩
def c37 : AFn := ⟨6, .seq (.reg false [⟨some 2, .mov (.lit (.bool false)), none⟩]) (.seq (.reg false [⟨some 3, .mov (.tmp 0), none⟩, ⟨some 4, .call (.lit (.fn (.func 38) [] [])) [.tmp 3], none⟩, ⟨some 5, .not (.tmp 4), none⟩, ⟨some 2, .mov (.tmp 5), none⟩]) .ret), [.tmp 2]⟩
def c38 : AFn := ⟨20, .seq (.reg false [⟨some 2, .mov (.lit (.bool false)), none⟩]) (.seq (.reg false [⟨some 3, .call (.lit (.fn (.func 29) [] [])) [], none⟩, ⟨some 4, .mov (.tmp 0), none⟩, ⟨some 5, .call (.lit (.fn (.func 30) [] [])) [.tmp 3, .tmp 4], none⟩, ⟨some 6, .mov (.tmp 5), none⟩, ⟨some 7, .call (.lit (.fn (.func 31) [] [])) [], some ((6, false))⟩, ⟨some 8, .mov (.tmp 0), some ((6, false))⟩, ⟨some 9, .call (.lit (.fn (.func 30) [] [])) [.tmp 7, .tmp 8], some ((6, false))⟩, ⟨some 10, .pick (.tmp 6) (.lit (.bool true)) (.tmp 9), none⟩, ⟨some 11, .mov (.tmp 10), none⟩, ⟨some 12, .build [.int .u8 0, .int .u8 0] [(0, 1, .lit (.int .u8 48)), (1, 1, .lit (.int .u8 57))], some ((11, false))⟩, ⟨some 13, .mov (.tmp 0), some ((11, false))⟩, ⟨some 14, .call (.lit (.fn (.func 30) [] [])) [.tmp 12, .tmp 13], some ((11, false))⟩, ⟨some 15, .pick (.tmp 11) (.lit (.bool true)) (.tmp 14), none⟩, ⟨some 16, .mov (.tmp 15), none⟩, ⟨some 17, .mov (.tmp 0), some ((16, false))⟩, ⟨some 18, .bin .eql (.tmp 17) (.lit (.int .u8 95)), some ((16, false))⟩, ⟨some 19, .pick (.tmp 16) (.lit (.bool true)) (.tmp 18), none⟩, ⟨some 2, .mov (.tmp 19), none⟩]) .ret), [.tmp 2]⟩
def c39 : AFn := ⟨9, .seq (.reg false [⟨some 2, .mov (.lit (.bool false)), none⟩]) (.seq (.reg false [⟨some 3, .mov (.tmp 0), none⟩, ⟨some 4, .bin .geq (.tmp 3) (.lit (.int .u8 65)), none⟩, ⟨some 5, .mov (.tmp 4), none⟩, ⟨some 6, .mov (.tmp 0), some ((5, true))⟩, ⟨some 7, .bin .leq (.tmp 6) (.lit (.int .u8 90)), some ((5, true))⟩, ⟨some 8, .pick (.tmp 5) (.tmp 7) (.lit (.bool false)), none⟩, ⟨some 2, .mov (.tmp 8), none⟩]) .ret), [.tmp 2]⟩
def c40 : AFn := ⟨17, .seq (.reg false [⟨some 4, .mov (.lit (.str ⟨#[]⟩)), none⟩]) (.seq (.block 0 (.loop (.seq (.seq (.reg false [⟨some 5, .mov (.tmp 0), none⟩, ⟨some 6, .lens (.tmp 5), none⟩, ⟨some 7, .bin .gtr (.tmp 6) (.lit (.int .i64 0)), none⟩, ⟨some 8, .mov (.tmp 7), none⟩, ⟨some 9, .mov (.tmp 0), some ((8, true))⟩, ⟨some 10, .idxs (.tmp 9) (.lit (.int .i64 0)), some ((8, true))⟩, ⟨some 11, .mov (.tmp 1), some ((8, true))⟩, ⟨some 12, .bin .eql (.tmp 10) (.tmp 11), some ((8, true))⟩, ⟨some 13, .pick (.tmp 8) (.tmp 12) (.lit (.bool false)), none⟩]) (.cond (.tmp 13) .skip (.exit 0))) (.block 1 (.reg false [⟨some 14, .mov (.tmp 0), none⟩, ⟨some 15, .slstr (.tmp 14) (some (.lit (.int .i64 1))) none, none⟩, ⟨some 0, .mov (.tmp 15), none⟩]))))) (.seq (.reg false [⟨some 16, .mov (.tmp 0), none⟩, ⟨some 4, .mov (.tmp 16), none⟩]) .ret)), [.tmp 4]⟩
def c41 : AFn := ⟨23, .seq (.reg false [⟨some 4, .mov (.lit (.str ⟨#[]⟩)), none⟩]) (.seq (.block 0 (.loop (.seq (.seq (.reg false [⟨some 5, .mov (.tmp 0), none⟩, ⟨some 6, .lens (.tmp 5), none⟩, ⟨some 7, .bin .gtr (.tmp 6) (.lit (.int .i64 0)), none⟩, ⟨some 8, .mov (.tmp 7), none⟩, ⟨some 9, .mov (.tmp 0), some ((8, true))⟩, ⟨some 10, .mov (.tmp 0), some ((8, true))⟩, ⟨some 11, .lens (.tmp 10), some ((8, true))⟩, ⟨some 12, .bin .sub (.tmp 11) (.lit (.int .i64 1)), some ((8, true))⟩, ⟨some 13, .idxs (.tmp 9) (.tmp 12), some ((8, true))⟩, ⟨some 14, .mov (.tmp 1), some ((8, true))⟩, ⟨some 15, .bin .eql (.tmp 13) (.tmp 14), some ((8, true))⟩, ⟨some 16, .pick (.tmp 8) (.tmp 15) (.lit (.bool false)), none⟩]) (.cond (.tmp 16) .skip (.exit 0))) (.block 1 (.reg false [⟨some 17, .mov (.tmp 0), none⟩, ⟨some 18, .mov (.tmp 0), none⟩, ⟨some 19, .lens (.tmp 18), none⟩, ⟨some 20, .bin .sub (.tmp 19) (.lit (.int .i64 1)), none⟩, ⟨some 21, .slstr (.tmp 17) none (some (.tmp 20)), none⟩, ⟨some 0, .mov (.tmp 21), none⟩]))))) (.seq (.reg false [⟨some 22, .mov (.tmp 0), none⟩, ⟨some 4, .mov (.tmp 22), none⟩]) .ret)), [.tmp 4]⟩
def c42 : AFn := ⟨21, .seq (.reg false [⟨some 2, .alloc ff256, none⟩, ⟨some 3, .mov (.lit (.bool false)), none⟩]) (.seq (.seq (.reg false [⟨some 4, .mov (.lit (.int .i64 0)), none⟩]) (.block 0 (.loop (.seq (.seq (.reg false [⟨some 6, .mov (.tmp 4), none⟩, ⟨some 7, .mov (.tmp 0), none⟩, ⟨some 8, .lens (.tmp 7), none⟩, ⟨some 9, .bin .lss (.tmp 6) (.tmp 8), none⟩]) (.cond (.tmp 9) .skip (.exit 0))) (.seq (.block 1 (.seq (.reg false [⟨some 12, .mov (.tmp 0), none⟩, ⟨some 13, .mov (.tmp 4), none⟩, ⟨some 14, .idxs (.tmp 12) (.tmp 13), none⟩, ⟨some 5, .mov (.tmp 14), none⟩]) (.seq (.seq (.reg false [⟨some 15, .mov (.tmp 5), none⟩, ⟨some 16, .bin .geq (.tmp 15) (.lit (.int .u8 128)), none⟩]) (.cond (.tmp 16) (.seq (.reg false [⟨some 17, .load 256 true (.tmp 2), none⟩, ⟨none, .store 256 (.tmp 2) (.tmp 17), none⟩, ⟨some 3, .mov (.lit (.bool false)), none⟩]) .ret) .skip)) (.reg false [⟨some 18, .mov (.tmp 5), none⟩, ⟨some 19, .iarr 256 1 (.tmp 2) (.tmp 18), none⟩, ⟨none, .store 1 (.tmp 19) (.lit (.bool true)), none⟩])))) (.reg false [⟨some 10, .mov (.tmp 4), none⟩, ⟨some 11, .bin .add (.tmp 10) (.lit (.int .i64 1)), none⟩, ⟨some 4, .mov (.tmp 11), none⟩])))))) (.seq (.reg false [⟨some 20, .load 256 true (.tmp 2), none⟩, ⟨none, .store 256 (.tmp 2) (.tmp 20), none⟩, ⟨some 3, .mov (.lit (.bool true)), none⟩]) .ret)), [.cell 2 256 true, .tmp 3]⟩
def c43 : AFn := ⟨16, .seq (.reg false [⟨some 4, .mov (.lit (.str ⟨#[]⟩)), none⟩]) (.seq (.block 0 (.loop (.seq (.seq (.reg false [⟨some 5, .mov (.tmp 0), none⟩, ⟨some 6, .lens (.tmp 5), none⟩, ⟨some 7, .bin .gtr (.tmp 6) (.lit (.int .i64 0)), none⟩]) (.cond (.tmp 7) .skip (.exit 0))) (.block 1 (.seq (.seq (.reg false [⟨some 8, .mov (.tmp 1), none⟩, ⟨some 9, .mov (.tmp 0), none⟩, ⟨some 10, .idxs (.tmp 9) (.lit (.int .i64 0)), none⟩, ⟨some 11, .call (.lit (.fn (.func 48) [] [])) [.tmp 8, .tmp 10], none⟩, ⟨some 12, .not (.tmp 11), none⟩]) (.cond (.tmp 12) (.exit 0) .skip)) (.reg false [⟨some 13, .mov (.tmp 0), none⟩, ⟨some 14, .slstr (.tmp 13) (some (.lit (.int .i64 1))) none, none⟩, ⟨some 0, .mov (.tmp 14), none⟩])))))) (.seq (.reg false [⟨some 15, .mov (.tmp 0), none⟩, ⟨some 4, .mov (.tmp 15), none⟩]) .ret)), [.tmp 4]⟩
def c44 : AFn := ⟨22, .seq (.reg false [⟨some 4, .mov (.lit (.str ⟨#[]⟩)), none⟩]) (.seq (.block 0 (.loop (.seq (.seq (.reg false [⟨some 5, .mov (.tmp 0), none⟩, ⟨some 6, .lens (.tmp 5), none⟩, ⟨some 7, .bin .gtr (.tmp 6) (.lit (.int .i64 0)), none⟩]) (.cond (.tmp 7) .skip (.exit 0))) (.block 1 (.seq (.seq (.reg false [⟨some 8, .mov (.tmp 1), none⟩, ⟨some 9, .mov (.tmp 0), none⟩, ⟨some 10, .mov (.tmp 0), none⟩, ⟨some 11, .lens (.tmp 10), none⟩, ⟨some 12, .bin .sub (.tmp 11) (.lit (.int .i64 1)), none⟩, ⟨some 13, .idxs (.tmp 9) (.tmp 12), none⟩, ⟨some 14, .call (.lit (.fn (.func 48) [] [])) [.tmp 8, .tmp 13], none⟩, ⟨some 15, .not (.tmp 14), none⟩]) (.cond (.tmp 15) (.exit 0) .skip)) (.reg false [⟨some 16, .mov (.tmp 0), none⟩, ⟨some 17, .mov (.tmp 0), none⟩, ⟨some 18, .lens (.tmp 17), none⟩, ⟨some 19, .bin .sub (.tmp 18) (.lit (.int .i64 1)), none⟩, ⟨some 20, .slstr (.tmp 16) none (some (.tmp 19)), none⟩, ⟨some 0, .mov (.tmp 20), none⟩])))))) (.seq (.reg false [⟨some 21, .mov (.tmp 0), none⟩, ⟨some 4, .mov (.tmp 21), none⟩]) .ret)), [.tmp 4]⟩
def c47 : AFn := ⟨19, .seq (.reg false [⟨some 4, .mov (.lit (.int .i64 0)), none⟩]) (.seq (.seq (.reg false [⟨some 6, .mov (.tmp 0), none⟩, ⟨some 7, .len (.tmp 6), none⟩, ⟨some 8, .mov (.lit (.int .i64 0)), none⟩]) (.block 0 (.loop (.seq (.reg false [⟨some 9, .bin .lss (.tmp 8) (.tmp 7), none⟩]) (.seq (.cond (.tmp 9) .skip (.exit 0)) (.seq (.block 1 (.seq (.reg false [⟨some 10, .mov (.tmp 8), none⟩, ⟨some 5, .mov (.tmp 10), none⟩]) (.seq (.reg false [⟨some 11, .mov (.tmp 1), none⟩, ⟨some 12, .mov (.tmp 0), none⟩, ⟨some 13, .mov (.tmp 5), none⟩, ⟨some 14, .ia 1 (.tmp 12) (.tmp 13), none⟩, ⟨some 15, .load 1 false (.tmp 14), none⟩, ⟨some 16, .call (.tmp 11) [.tmp 15], none⟩]) (.cond (.tmp 16) (.seq (.reg false [⟨some 17, .mov (.tmp 5), none⟩, ⟨some 4, .mov (.tmp 17), none⟩]) .ret) .skip)))) (.reg false [⟨some 18, .bin .add (.tmp 8) (.lit (.int .i64 1)), none⟩, ⟨some 8, .mov (.tmp 18), none⟩]))))))) (.seq (.reg false [⟨some 4, .mov (.lit (.int .i64 (-1))), none⟩]) .ret)), [.tmp 4]⟩
def c48 : AFn := ⟨10, .seq (.reg false [⟨some 4, .mov (.lit (.bool false)), none⟩]) (.seq (.reg false [⟨some 5, .mov (.tmp 0), none⟩, ⟨some 6, .mov (.tmp 1), none⟩, ⟨some 7, .nilc (.tmp 5), none⟩, ⟨some 8, .iarr 256 1 (.tmp 7) (.tmp 6), none⟩, ⟨some 9, .load 1 false (.tmp 8), none⟩, ⟨some 4, .mov (.tmp 9), none⟩]) .ret), [.tmp 4]⟩
theorem hm : Tryd.prog.follows .mixedOrders = true := by kernel_rfl
def an0 : An := ⟨[], []⟩
theorem c22_ok : cFn Tryd.prog an0 Tryd.f22 = some c22 := by kernel_rfl
theorem find_PF (l : List Sg) (s : ByteArray) : PF Tryd.prog 22 [sigs l, .str s] (i64 (fstAt (fun x => decide (x.name = s)) l)) := by
  refine PFk 9 hm Tryd.func22 c22_ok (Nat.le_of_ble_eq_true rfl) (by simp) (by simp) ?_
  simp (maxSteps := 3000000) [-List.length_flatten, -List.map_drop, -List.map_take, Function.comp_def, argsT, Opd.ev, Tm.get, put, ares, mapMo, ares1, snilP, bldParts, bslParts, putAt, AV.cells, AV.one, astore, aload, loadCs, callArgs, abin, abinInt, aapp, elems, appMore, appNone, preLen, aFa, aFld, apart, aExt, aPick, aNot, aLens, aEqa, cellsK, fitsA, LK.fitsA, leavesA, leafA, nilD, aNilc, aCint, aCid, alive, alen, alenOk, Rle, lePs, len_flat, c22]
  refine run_loop (fun n T H => ∃ i : Nat, n = l.length - i ∧ i ≤ l.length ∧ T = [(5, i64 i), (0, sigs l), (1, .str s)] ∧ H = [] ∧ ∀ j : Nat, j < i → ¬ (gi l j).name = s) l.length [(5, i64 0), (0, sigs l), (1, .str s)] []
    (Wk.tell 0 (Nat.le_refl _) (by simp [Tm.get]) (by simp) rfl (by simp)) ⟨0, by simp, by simp, by simp, rfl, by simp⟩ ?_
  rintro n T H ⟨i, rfl, hi, rfl, rfl, hj⟩
  simp (maxSteps := 3000000) [-List.length_flatten, -List.map_drop, -List.map_take, Function.comp_def, argsT, Opd.ev, Tm.get, put, ares, mapMo, ares1, snilP, bldParts, bslParts, putAt, AV.cells, AV.one, astore, aload, loadCs, callArgs, abin, abinInt, aapp, elems, appMore, appNone, preLen, aFa, aFld, apart, aExt, aPick, aNot, aLens, aEqa, cellsK, fitsA, LK.fitsA, leavesA, leafA, nilD, aNilc, aCint, aCid, alive, alen, alenOk, Rle, lePs, len_flat]
  intro ha
  refine ⟨fun h1 => ⟨h1, fun h2 => (fstAt_some h1 (by simpa using h2) (fun j hl => by simpa using hj j hl)).symm, fun h2 => ?_⟩, fun h1 => ?_⟩
  · refine Kl_next (l.length - (i + 1)) 0 (Nat.le_refl _) ⟨i + 1, rfl, h1, rfl, rfl, fun j hl => ?_⟩ (by simp [Tm.get, nxt h1 ha]) (by simp) rfl (by simp) (by omega)
    rcases Nat.lt_or_ge j i with h3 | h3
    · exact hj j h3
    · have : j = i := by omega
      subst this
      exact h2
  · exact (fstAt_none (fun j hl => by simpa using hj j (by omega))).symm
theorem c34_ok : cFn Tryd.prog an0 Tryd.f34 = some c34 := by kernel_rfl
theorem small_PF (c : Int) : PF Tryd.prog 34 [.int .u8 c] (.bool (decide (97 ≤ c) && decide (c ≤ 122))) := by
  refine PFk 9 hm Tryd.func34 c34_ok (Nat.le_of_ble_eq_true rfl) (by simp) (by simp) ?_
  simp (maxSteps := 3000000) [-List.length_flatten, -List.map_drop, -List.map_take, Function.comp_def, argsT, Opd.ev, Tm.get, put, ares, mapMo, ares1, snilP, bldParts, bslParts, putAt, AV.cells, AV.one, astore, aload, loadCs, callArgs, abin, abinInt, aapp, elems, appMore, appNone, preLen, aFa, aFld, apart, aExt, aPick, aNot, aLens, aEqa, cellsK, fitsA, LK.fitsA, leavesA, leafA, nilD, aNilc, aCint, aCid, alive, alen, alenOk, Rle, lePs, len_flat, c34]
  omega
theorem c39_ok : cFn Tryd.prog an0 Tryd.f39 = some c39 := by kernel_rfl
theorem big_PF (c : Int) : PF Tryd.prog 39 [.int .u8 c] (.bool (decide (65 ≤ c) && decide (c ≤ 90))) := by
  refine PFk 9 hm Tryd.func39 c39_ok (Nat.le_of_ble_eq_true rfl) (by simp) (by simp) ?_
  simp (maxSteps := 3000000) [-List.length_flatten, -List.map_drop, -List.map_take, Function.comp_def, argsT, Opd.ev, Tm.get, put, ares, mapMo, ares1, snilP, bldParts, bslParts, putAt, AV.cells, AV.one, astore, aload, loadCs, callArgs, abin, abinInt, aapp, elems, appMore, appNone, preLen, aFa, aFld, apart, aExt, aPick, aNot, aLens, aEqa, cellsK, fitsA, LK.fitsA, leavesA, leafA, nilD, aNilc, aCint, aCid, alive, alen, alenOk, Rle, lePs, len_flat, c39]
  omega
theorem c21_ok : cFn Tryd.prog an0 Tryd.f21 = some c21 := by kernel_rfl
theorem args_PF (s : ByteArray) (hs : s.size ≤ maxA) : PF Tryd.prog 21 [.str s] (.bool (argsOk s)) := by
  refine PFk 9 hm Tryd.func21 c21_ok (Nat.le_of_ble_eq_true rfl) (by simp) (by simp) ?_
  simp (maxSteps := 3000000) [-List.length_flatten, -List.map_drop, -List.map_take, Function.comp_def, argsT, Opd.ev, Tm.get, put, ares, mapMo, ares1, snilP, bldParts, bslParts, putAt, AV.cells, AV.one, astore, aload, loadCs, callArgs, abin, abinInt, aapp, elems, appMore, appNone, preLen, aFa, aFld, apart, aExt, aPick, aNot, aLens, aEqa, cellsK, fitsA, LK.fitsA, leavesA, leafA, nilD, aNilc, aCint, aCid, alive, alen, alenOk, Rle, lePs, len_flat, c21]
  refine run_count s.size 3 [(0, .str s)] [] (fun i => ∀ j : Nat, j < i → argOk (byte s j)) (Wk.tell 0 (Nat.le_refl _) (by simp [Tm.get]) (by simp) rfl (by simp)) (fun j hj => by omega) ?_
  intro i hi hj
  simp (maxSteps := 3000000) [-List.length_flatten, -List.map_drop, -List.map_take, Function.comp_def, argsT, Opd.ev, Tm.get, put, ares, mapMo, ares1, snilP, bldParts, bslParts, putAt, AV.cells, AV.one, astore, aload, loadCs, callArgs, abin, abinInt, aapp, elems, appMore, appNone, preLen, aFa, aFld, apart, aExt, aPick, aNot, aLens, aEqa, cellsK, fitsA, LK.fitsA, leavesA, leafA, nilD, aNilc, aCint, aCid, alive, alen, alenOk, Rle, lePs, len_flat]
  intro _
  have next : ∀ h : i < s.size, argOk (byte s i) → ∀ j : Nat, j < i + 1 → argOk (byte s j) := fun h hb j hl => by
    rcases Nat.lt_or_ge j i with h3 | h3
    · exact hj j h3
    · have : j = i := by omega
      subst this
      exact hb
  repeat' (first | assumption | with_reducible apply And.intro | with_reducible intro _)
  all_goals first
    | exact Kn_next 0 (Nat.le_refl _) (by omega) (next (by assumption) (by unfold argOk; omega)) (by simp [Tm.get, nxt (show i < s.size by assumption) hs]) (by simp) rfl (by simp)
    | skip
  · rename_i h1 h2 h3 h4
    have : ¬ ∀ i : Nat, i < s.size → argOk (byte s i) := fun h => by have := h i h1; unfold argOk at this; omega
    simp [argsOk, this]
  · rename_i h1
    have : ∀ i : Nat, i < s.size → argOk (byte s i) := fun j hl => hj j (by omega)
    have h8 : decide ((s.size : Int) ≤ 8) = decide (s.size ≤ 8) := by
      congr 1
      apply propext
      omega
    rw [h8]
    simp [argsOk]
    exact fun _ => this
theorem c33_ok : cFn Tryd.prog an0 Tryd.f33 = some c33 := by kernel_rfl
theorem name_PF (s : ByteArray) : PF Tryd.prog 33 [.str s] (.bool (nameOk s)) := by
  refine PFk 9 hm Tryd.func33 c33_ok (Nat.le_of_ble_eq_true rfl) (by simp) (by simp) ?_
  simp (maxSteps := 3000000) [-List.length_flatten, -List.map_drop, -List.map_take, Function.comp_def, argsT, Opd.ev, Tm.get, put, ares, mapMo, ares1, snilP, bldParts, bslParts, putAt, AV.cells, AV.one, astore, aload, loadCs, callArgs, abin, abinInt, aapp, elems, appMore, appNone, preLen, aFa, aFld, apart, aExt, aPick, aNot, aLens, aEqa, cellsK, fitsA, LK.fitsA, leavesA, leafA, nilD, aNilc, aCint, aCid, alive, alen, alenOk, Rle, lePs, len_flat, c33]
  intro _
  refine ⟨fun h1 => ?_, fun h1 _ => ⟨fun h2 => ?_, fun h2 => ?_⟩⟩
  · simp [nameOk]; omega
  · simp [nameOk]; omega
  · refine run_count s.size 3 [(0, .str s)] [] (fun i => ∀ j : Nat, j < i → letter (byte s j) ∨ 0 < j ∧ figure (byte s j)) (Wk.tell 0 (Nat.le_refl _) (by simp [Tm.get]) (by simp) rfl (by simp)) (fun j hj => by omega) ?_
    intro i hi hj
    have next : ∀ h : i < s.size, (letter (byte s i) ∨ 0 < i ∧ figure (byte s i)) → ∀ j : Nat, j < i + 1 → letter (byte s j) ∨ 0 < j ∧ figure (byte s j) := fun h hb j hl => by
      rcases Nat.lt_or_ge j i with h3 | h3
      · exact hj j h3
      · have : j = i := by omega
        subst this
        exact hb
    simp (maxSteps := 3000000) [-List.length_flatten, -List.map_drop, -List.map_take, Function.comp_def, argsT, Opd.ev, Tm.get, put, ares, mapMo, ares1, snilP, bldParts, bslParts, putAt, AV.cells, AV.one, astore, aload, loadCs, callArgs, abin, abinInt, aapp, elems, appMore, appNone, preLen, aFa, aFld, apart, aExt, aPick, aNot, aLens, aEqa, cellsK, fitsA, LK.fitsA, leavesA, leafA, nilD, aNilc, aCint, aCid, alive, alen, alenOk, Rle, lePs, len_flat]
    intro _
    repeat' (first | assumption | with_reducible apply And.intro | with_reducible intro _ | refine PF.call (small_PF (byte s i)) 9 (by simp [lePs]) ?_)
    all_goals try simp (maxSteps := 3000000) [-List.length_flatten, -List.map_drop, -List.map_take, Function.comp_def, argsT, Opd.ev, Tm.get, put, ares, mapMo, ares1, snilP, bldParts, bslParts, putAt, AV.cells, AV.one, astore, aload, loadCs, callArgs, abin, abinInt, aapp, elems, appMore, appNone, preLen, aFa, aFld, apart, aExt, aPick, aNot, aLens, aEqa, cellsK, fitsA, LK.fitsA, leavesA, leafA, nilD, aNilc, aCint, aCid, alive, alen, alenOk, Rle, lePs, len_flat, Kc]
    repeat' (first | assumption | with_reducible apply And.intro | with_reducible intro _ | refine PF.call (big_PF (byte s i)) 9 (by simp [lePs]) ?_)
    all_goals try simp (maxSteps := 3000000) [-List.length_flatten, -List.map_drop, -List.map_take, Function.comp_def, argsT, Opd.ev, Tm.get, put, ares, mapMo, ares1, snilP, bldParts, bslParts, putAt, AV.cells, AV.one, astore, aload, loadCs, callArgs, abin, abinInt, aapp, elems, appMore, appNone, preLen, aFa, aFld, apart, aExt, aPick, aNot, aLens, aEqa, cellsK, fitsA, LK.fitsA, leavesA, leafA, nilD, aNilc, aCint, aCid, alive, alen, alenOk, Rle, lePs, len_flat, Kc]
    repeat' (first | assumption | with_reducible apply And.intro | with_reducible intro _)
    all_goals first
      | exact Kn_next 0 (Nat.le_refl _) (by omega) (next (by assumption) (by unfold letter figure; omega)) (by simp [Tm.get, nxt (show i < s.size by assumption) (show s.size ≤ maxA by unfold maxA; omega)]) (by simp) rfl (by simp)
      | exact nameBad (show i < s.size by assumption) (by unfold letter figure; omega)
      | skip
    exact nameGood (by omega) (by omega) (fun j hl => hj j (by omega))
theorem c20_ok : cFn Tryd.prog an0 Tryd.f20 = some c20 := by kernel_rfl
theorem con_PF (s : ByteArray) : PF Tryd.prog 20 [.str s] (.bool (conOk s)) := by
  refine PFk 9 hm Tryd.func20 c20_ok (Nat.le_of_ble_eq_true rfl) (by simp) (by simp) ?_
  simp (maxSteps := 3000000) [-List.length_flatten, -List.map_drop, -List.map_take, Function.comp_def, argsT, Opd.ev, Tm.get, put, ares, mapMo, ares1, snilP, bldParts, bslParts, putAt, AV.cells, AV.one, astore, aload, loadCs, callArgs, abin, abinInt, aapp, elems, appMore, appNone, preLen, aFa, aFld, apart, aExt, aPick, aNot, aLens, aEqa, cellsK, fitsA, LK.fitsA, leavesA, leafA, nilD, aNilc, aCint, aCid, alive, alen, alenOk, Rle, lePs, len_flat, c20]
  refine PF.call (name_PF s) 9 (by simp [lePs]) ?_
  simp (maxSteps := 3000000) [-List.length_flatten, -List.map_drop, -List.map_take, Function.comp_def, argsT, Opd.ev, Tm.get, put, ares, mapMo, ares1, snilP, bldParts, bslParts, putAt, AV.cells, AV.one, astore, aload, loadCs, callArgs, abin, abinInt, aapp, elems, appMore, appNone, preLen, aFa, aFld, apart, aExt, aPick, aNot, aLens, aEqa, cellsK, fitsA, LK.fitsA, leavesA, leafA, nilD, aNilc, aCint, aCid, alive, alen, alenOk, Rle, lePs, len_flat, Kc]
  refine ⟨fun h => ⟨nameSize h, ?_⟩, fun h => by simp [conOk, h]⟩
  refine PF.call (small_PF (byte s 0)) 9 (by simp [lePs]) ?_
  simp (maxSteps := 3000000) [-List.length_flatten, -List.map_drop, -List.map_take, Function.comp_def, argsT, Opd.ev, Tm.get, put, ares, mapMo, ares1, snilP, bldParts, bslParts, putAt, AV.cells, AV.one, astore, aload, loadCs, callArgs, abin, abinInt, aapp, elems, appMore, appNone, preLen, aFa, aFld, apart, aExt, aPick, aNot, aLens, aEqa, cellsK, fitsA, LK.fitsA, leavesA, leafA, nilD, aNilc, aCint, aCid, alive, alen, alenOk, Rle, lePs, len_flat, Kc]
  simp [conOk, h]

def sigOk (l : List Sg) (i : Nat) : Prop := conOk (gi l i).name = true ∧ argsOk (gi l i).args = true ∧ (i : Int) ≤ fstAt (fun x => decide (x.name = (gi l i).name)) l
instance (l : List Sg) (i : Nat) : Decidable (sigOk l i) := inferInstanceAs (Decidable (_ ∧ _))
def sigRight (l : List Sg) : Bool := decide (∀ i : Nat, i < l.length → sigOk l i) && decide (l.length ≤ 64)
theorem sigBad {l : List Sg} {i : Nat} (h : i < l.length) (hn : ¬ sigOk l i) : sigRight l = false := by
  have : ¬ ∀ i : Nat, i < l.length → sigOk l i := fun hh => hn (hh i h)
  simp [sigRight, this]
theorem c10_ok : cFn Tryd.prog an0 Tryd.f10 = some c10 := by kernel_rfl
theorem sigRight_PF (l : List Sg) (hs : ∀ i : Nat, i < l.length → (gi l i).args.size ≤ maxA) : PF Tryd.prog 10 [sigs l] (.bool (sigRight l)) := by
  refine PFk 9 hm Tryd.func10 c10_ok (Nat.le_of_ble_eq_true rfl) (by simp) (by simp) ?_
  simp (maxSteps := 3000000) [-List.length_flatten, -List.map_drop, -List.map_take, Function.comp_def, argsT, Opd.ev, Tm.get, put, ares, mapMo, ares1, snilP, bldParts, bslParts, putAt, AV.cells, AV.one, astore, aload, loadCs, callArgs, abin, abinInt, aapp, elems, appMore, appNone, preLen, aFa, aFld, apart, aExt, aPick, aNot, aLens, aEqa, cellsK, fitsA, LK.fitsA, leavesA, leafA, nilD, aNilc, aCint, aCid, alive, alen, alenOk, Rle, lePs, len_flat, c10]
  refine run_count l.length 3 [(0, sigs l)] [] (fun i => ∀ j : Nat, j < i → sigOk l j) (Wk.tell 0 (Nat.le_refl _) (by simp [Tm.get]) (by simp) rfl (by simp)) (fun j hj => by omega) ?_
  intro i hi hj
  have next : ∀ h : i < l.length, sigOk l i → ∀ j : Nat, j < i + 1 → sigOk l j := fun h hb j hl => by
    rcases Nat.lt_or_ge j i with h3 | h3
    · exact hj j h3
    · have : j = i := by omega
      subst this
      exact hb
  simp (maxSteps := 3000000) [-List.length_flatten, -List.map_drop, -List.map_take, Function.comp_def, argsT, Opd.ev, Tm.get, put, ares, mapMo, ares1, snilP, bldParts, bslParts, putAt, AV.cells, AV.one, astore, aload, loadCs, callArgs, abin, abinInt, aapp, elems, appMore, appNone, preLen, aFa, aFld, apart, aExt, aPick, aNot, aLens, aEqa, cellsK, fitsA, LK.fitsA, leavesA, leafA, nilD, aNilc, aCint, aCid, alive, alen, alenOk, Rle, lePs, len_flat]
  intro ha
  refine ⟨fun h1 => ⟨h1, ?_⟩, fun h1 _ => ?_⟩
  · refine PF.call (con_PF (gi l i).name) 9 (by simp [lePs]) ?_
    simp (maxSteps := 3000000) [-List.length_flatten, -List.map_drop, -List.map_take, Function.comp_def, argsT, Opd.ev, Tm.get, put, ares, mapMo, ares1, snilP, bldParts, bslParts, putAt, AV.cells, AV.one, astore, aload, loadCs, callArgs, abin, abinInt, aapp, elems, appMore, appNone, preLen, aFa, aFld, apart, aExt, aPick, aNot, aLens, aEqa, cellsK, fitsA, LK.fitsA, leavesA, leafA, nilD, aNilc, aCint, aCid, alive, alen, alenOk, Rle, lePs, len_flat, Kc]
    refine ⟨fun h2 => ⟨h1, ?_⟩, fun h2 => sigBad h1 (fun h => by simp [sigOk, h2] at h)⟩
    refine PF.call (args_PF (gi l i).args (hs i h1)) 9 (by simp [lePs]) ?_
    simp (maxSteps := 3000000) [-List.length_flatten, -List.map_drop, -List.map_take, Function.comp_def, argsT, Opd.ev, Tm.get, put, ares, mapMo, ares1, snilP, bldParts, bslParts, putAt, AV.cells, AV.one, astore, aload, loadCs, callArgs, abin, abinInt, aapp, elems, appMore, appNone, preLen, aFa, aFld, apart, aExt, aPick, aNot, aLens, aEqa, cellsK, fitsA, LK.fitsA, leavesA, leafA, nilD, aNilc, aCint, aCid, alive, alen, alenOk, Rle, lePs, len_flat, Kc]
    refine ⟨fun h3 => sigBad h1 (fun h => by simp [sigOk, h3] at h), fun h3 => ⟨h1, ?_⟩⟩
    refine PF.call (find_PF l (gi l i).name) 9 (by simp [lePs]) ?_
    simp (maxSteps := 3000000) [-List.length_flatten, -List.map_drop, -List.map_take, Function.comp_def, argsT, Opd.ev, Tm.get, put, ares, mapMo, ares1, snilP, bldParts, bslParts, putAt, AV.cells, AV.one, astore, aload, loadCs, callArgs, abin, abinInt, aapp, elems, appMore, appNone, preLen, aFa, aFld, apart, aExt, aPick, aNot, aLens, aEqa, cellsK, fitsA, LK.fitsA, leavesA, leafA, nilD, aNilc, aCint, aCid, alive, alen, alenOk, Rle, lePs, len_flat, Kc]
    refine ⟨fun h4 => sigBad h1 (fun h => by have := h.2.2; omega), fun h4 => ?_⟩
    exact Kn_next 0 (Nat.le_refl _) (by omega) (next h1 ⟨h2, h3, h4⟩) (by simp [Tm.get, nxt h1 ha]) (by simp) rfl (by simp)
  · have h8 : decide ((l.length : Int) ≤ 64) = decide (l.length ≤ 64) := by
      congr 1
      apply propext
      omega
    have : ∀ i : Nat, i < l.length → sigOk l i := fun j hl => hj j (by omega)
    rw [h8]
    simp [sigRight]
    exact fun _ => this
end Go.AM

namespace Go.AM
open Go.Proofs
set_option maxRecDepth 100000
set_option linter.unusedVariables false
set_option linter.unusedSimpArgs false
theorem c30_ok : cFn Tryd.prog an0 Tryd.f30 = some c30 := by kernel_rfl
abbrev ltr (a b : Int) : AV := .agg [.int .u8 a, .int .u8 b]
theorem has_PF (a b c : Int) : PF Tryd.prog 30 [ltr a b, .int .u8 c] (.bool (decide (a ≤ c) && decide (c ≤ b))) := by
  refine PFk 9 hm Tryd.func30 c30_ok (Nat.le_of_ble_eq_true rfl) (by simp) (by simp) ?_
  by_cases h : a ≤ c
  · simp (maxSteps := 3000000) [-List.length_flatten, -List.map_drop, -List.map_take, Function.comp_def, argsT, Opd.ev, Tm.get, put, ares, mapMo, ares1, snilP, bldParts, bslParts, putAt, AV.cells, AV.one, astore, aload, loadCs, callArgs, abin, abinInt, aapp, elems, appMore, appNone, preLen, aFa, aFld, apart, aExt, aPick, aNot, aLens, aEqa, cellsK, fitsA, LK.fitsA, leavesA, leafA, nilD, aNilc, aCint, aCid, alive, alen, alenOk, Rle, lePs, len_flat, c30, h]
  · simp (maxSteps := 3000000) [-List.length_flatten, -List.map_drop, -List.map_take, Function.comp_def, argsT, Opd.ev, Tm.get, put, ares, mapMo, ares1, snilP, bldParts, bslParts, putAt, AV.cells, AV.one, astore, aload, loadCs, callArgs, abin, abinInt, aapp, elems, appMore, appNone, preLen, aFa, aFld, apart, aExt, aPick, aNot, aLens, aEqa, cellsK, fitsA, LK.fitsA, leavesA, leafA, nilD, aNilc, aCint, aCid, alive, alen, alenOk, Rle, lePs, len_flat, c30, h]
theorem c29_ok : cFn Tryd.prog an0 Tryd.f29 = some c29 := by kernel_rfl
theorem lower_PF : PF Tryd.prog 29 [] (ltr 97 122) := by
  refine PFk 9 hm Tryd.func29 c29_ok (Nat.le_of_ble_eq_true rfl) (by simp) (by simp) ?_
  simp (maxSteps := 3000000) [-List.length_flatten, -List.map_drop, -List.map_take, Function.comp_def, argsT, Opd.ev, Tm.get, put, ares, mapMo, ares1, snilP, bldParts, bslParts, putAt, AV.cells, AV.one, astore, aload, loadCs, callArgs, abin, abinInt, aapp, elems, appMore, appNone, preLen, aFa, aFld, apart, aExt, aPick, aNot, aLens, aEqa, cellsK, fitsA, LK.fitsA, leavesA, leafA, nilD, aNilc, aCint, aCid, alive, alen, alenOk, Rle, lePs, len_flat, c29]
theorem c31_ok : cFn Tryd.prog an0 Tryd.f31 = some c31 := by kernel_rfl
theorem upper_PF : PF Tryd.prog 31 [] (ltr 65 90) := by
  refine PFk 9 hm Tryd.func31 c31_ok (Nat.le_of_ble_eq_true rfl) (by simp) (by simp) ?_
  simp (maxSteps := 3000000) [-List.length_flatten, -List.map_drop, -List.map_take, Function.comp_def, argsT, Opd.ev, Tm.get, put, ares, mapMo, ares1, snilP, bldParts, bslParts, putAt, AV.cells, AV.one, astore, aload, loadCs, callArgs, abin, abinInt, aapp, elems, appMore, appNone, preLen, aFa, aFld, apart, aExt, aPick, aNot, aLens, aEqa, cellsK, fitsA, LK.fitsA, leavesA, leafA, nilD, aNilc, aCint, aCid, alive, alen, alenOk, Rle, lePs, len_flat, c31]
def innerOk (c : Int) : Bool := decide (letter c ∨ figure c)
theorem c38_ok : cFn Tryd.prog an0 Tryd.f38 = some c38 := by kernel_rfl
theorem inner_PF (c : Int) : PF Tryd.prog 38 [.int .u8 c] (.bool (innerOk c)) := by
  refine PFk 9 hm Tryd.func38 c38_ok (Nat.le_of_ble_eq_true rfl) (by simp) (by simp) ?_
  simp (maxSteps := 3000000) [-List.length_flatten, -List.map_drop, -List.map_take, Function.comp_def, argsT, Opd.ev, Tm.get, put, ares, mapMo, ares1, snilP, bldParts, bslParts, putAt, AV.cells, AV.one, astore, aload, loadCs, callArgs, abin, abinInt, aapp, elems, appMore, appNone, preLen, aFa, aFld, apart, aExt, aPick, aNot, aLens, aEqa, cellsK, fitsA, LK.fitsA, leavesA, leafA, nilD, aNilc, aCint, aCid, alive, alen, alenOk, Rle, lePs, len_flat, c38]
  refine PF.call lower_PF 9 (by simp [lePs]) ?_
  simp (maxSteps := 3000000) [-List.length_flatten, -List.map_drop, -List.map_take, Function.comp_def, argsT, Opd.ev, Tm.get, put, ares, mapMo, ares1, snilP, bldParts, bslParts, putAt, AV.cells, AV.one, astore, aload, loadCs, callArgs, abin, abinInt, aapp, elems, appMore, appNone, preLen, aFa, aFld, apart, aExt, aPick, aNot, aLens, aEqa, cellsK, fitsA, LK.fitsA, leavesA, leafA, nilD, aNilc, aCint, aCid, alive, alen, alenOk, Rle, lePs, len_flat, Kc]
  refine PF.call (has_PF 97 122 c) 9 (by simp [lePs]) ?_
  by_cases h1 : 97 ≤ c ∧ c ≤ 122
  · simp (maxSteps := 3000000) [-List.length_flatten, -List.map_drop, -List.map_take, Function.comp_def, argsT, Opd.ev, Tm.get, put, ares, mapMo, ares1, snilP, bldParts, bslParts, putAt, AV.cells, AV.one, astore, aload, loadCs, callArgs, abin, abinInt, aapp, elems, appMore, appNone, preLen, aFa, aFld, apart, aExt, aPick, aNot, aLens, aEqa, cellsK, fitsA, LK.fitsA, leavesA, leafA, nilD, aNilc, aCint, aCid, alive, alen, alenOk, Rle, lePs, len_flat, Kc, h1]
    simp [innerOk, letter, h1]
  have e1 : (decide (97 ≤ c) && decide (c ≤ 122)) = false := by rw [← Bool.decide_and]; exact decide_eq_false h1
  simp (maxSteps := 3000000) [-List.length_flatten, -List.map_drop, -List.map_take, Function.comp_def, argsT, Opd.ev, Tm.get, put, ares, mapMo, ares1, snilP, bldParts, bslParts, putAt, AV.cells, AV.one, astore, aload, loadCs, callArgs, abin, abinInt, aapp, elems, appMore, appNone, preLen, aFa, aFld, apart, aExt, aPick, aNot, aLens, aEqa, cellsK, fitsA, LK.fitsA, leavesA, leafA, nilD, aNilc, aCint, aCid, alive, alen, alenOk, Rle, lePs, len_flat, Kc, e1]
  refine PF.call upper_PF 9 (by simp [lePs]) ?_
  simp (maxSteps := 3000000) [-List.length_flatten, -List.map_drop, -List.map_take, Function.comp_def, argsT, Opd.ev, Tm.get, put, ares, mapMo, ares1, snilP, bldParts, bslParts, putAt, AV.cells, AV.one, astore, aload, loadCs, callArgs, abin, abinInt, aapp, elems, appMore, appNone, preLen, aFa, aFld, apart, aExt, aPick, aNot, aLens, aEqa, cellsK, fitsA, LK.fitsA, leavesA, leafA, nilD, aNilc, aCint, aCid, alive, alen, alenOk, Rle, lePs, len_flat, Kc]
  refine PF.call (has_PF 65 90 c) 9 (by simp [lePs]) ?_
  by_cases h2 : 65 ≤ c ∧ c ≤ 90
  · simp (maxSteps := 3000000) [-List.length_flatten, -List.map_drop, -List.map_take, Function.comp_def, argsT, Opd.ev, Tm.get, put, ares, mapMo, ares1, snilP, bldParts, bslParts, putAt, AV.cells, AV.one, astore, aload, loadCs, callArgs, abin, abinInt, aapp, elems, appMore, appNone, preLen, aFa, aFld, apart, aExt, aPick, aNot, aLens, aEqa, cellsK, fitsA, LK.fitsA, leavesA, leafA, nilD, aNilc, aCint, aCid, alive, alen, alenOk, Rle, lePs, len_flat, Kc, h2]
    simp [innerOk, letter, h2]
  have e2 : (decide (65 ≤ c) && decide (c ≤ 90)) = false := by rw [← Bool.decide_and]; exact decide_eq_false h2
  simp (maxSteps := 3000000) [-List.length_flatten, -List.map_drop, -List.map_take, Function.comp_def, argsT, Opd.ev, Tm.get, put, ares, mapMo, ares1, snilP, bldParts, bslParts, putAt, AV.cells, AV.one, astore, aload, loadCs, callArgs, abin, abinInt, aapp, elems, appMore, appNone, preLen, aFa, aFld, apart, aExt, aPick, aNot, aLens, aEqa, cellsK, fitsA, LK.fitsA, leavesA, leafA, nilD, aNilc, aCint, aCid, alive, alen, alenOk, Rle, lePs, len_flat, Kc, e2]
  refine PF.call (has_PF 48 57 c) 9 (by simp [lePs]) ?_
  by_cases h3 : 48 ≤ c ∧ c ≤ 57
  · simp (maxSteps := 3000000) [-List.length_flatten, -List.map_drop, -List.map_take, Function.comp_def, argsT, Opd.ev, Tm.get, put, ares, mapMo, ares1, snilP, bldParts, bslParts, putAt, AV.cells, AV.one, astore, aload, loadCs, callArgs, abin, abinInt, aapp, elems, appMore, appNone, preLen, aFa, aFld, apart, aExt, aPick, aNot, aLens, aEqa, cellsK, fitsA, LK.fitsA, leavesA, leafA, nilD, aNilc, aCint, aCid, alive, alen, alenOk, Rle, lePs, len_flat, Kc, h3]
    simp [innerOk, figure, h3]
  have e3 : (decide (48 ≤ c) && decide (c ≤ 57)) = false := by rw [← Bool.decide_and]; exact decide_eq_false h3
  simp (maxSteps := 3000000) [-List.length_flatten, -List.map_drop, -List.map_take, Function.comp_def, argsT, Opd.ev, Tm.get, put, ares, mapMo, ares1, snilP, bldParts, bslParts, putAt, AV.cells, AV.one, astore, aload, loadCs, callArgs, abin, abinInt, aapp, elems, appMore, appNone, preLen, aFa, aFld, apart, aExt, aPick, aNot, aLens, aEqa, cellsK, fitsA, LK.fitsA, leavesA, leafA, nilD, aNilc, aCint, aCid, alive, alen, alenOk, Rle, lePs, len_flat, Kc, e3]
  unfold innerOk letter figure
  refine decide_eq_decide.2 ?_
  omega
theorem c37_ok : cFn Tryd.prog an0 Tryd.f37 = some c37 := by kernel_rfl
theorem notInner_PF (c : Int) : PF Tryd.prog 37 [.int .u8 c] (.bool (!innerOk c)) := by
  refine PFk 9 hm Tryd.func37 c37_ok (Nat.le_of_ble_eq_true rfl) (by simp) (by simp) ?_
  simp (maxSteps := 3000000) [-List.length_flatten, -List.map_drop, -List.map_take, Function.comp_def, argsT, Opd.ev, Tm.get, put, ares, mapMo, ares1, snilP, bldParts, bslParts, putAt, AV.cells, AV.one, astore, aload, loadCs, callArgs, abin, abinInt, aapp, elems, appMore, appNone, preLen, aFa, aFld, apart, aExt, aPick, aNot, aLens, aEqa, cellsK, fitsA, LK.fitsA, leavesA, leafA, nilD, aNilc, aCint, aCid, alive, alen, alenOk, Rle, lePs, len_flat, c37]
  refine PF.call (inner_PF c) 9 (by simp [lePs]) ?_
  simp (maxSteps := 3000000) [-List.length_flatten, -List.map_drop, -List.map_take, Function.comp_def, argsT, Opd.ev, Tm.get, put, ares, mapMo, ares1, snilP, bldParts, bslParts, putAt, AV.cells, AV.one, astore, aload, loadCs, callArgs, abin, abinInt, aapp, elems, appMore, appNone, preLen, aFa, aFld, apart, aExt, aPick, aNot, aLens, aEqa, cellsK, fitsA, LK.fitsA, leavesA, leafA, nilD, aNilc, aCint, aCid, alive, alen, alenOk, Rle, lePs, len_flat, Kc]
theorem c47_ok : cFn Tryd.prog an0 Tryd.f47 = some c47 := by kernel_rfl
theorem index47_PF (l : List Int) : PF Tryd.prog 47 [u8s l, .fn (.func 37) [] []] (i64 (fstAt (fun c => !innerOk c) l)) := by
  refine PFk 9 hm Tryd.func47 c47_ok (Nat.le_of_ble_eq_true rfl) (by simp) (by simp) ?_
  simp (maxSteps := 3000000) [-List.length_flatten, -List.map_drop, -List.map_take, Function.comp_def, argsT, Opd.ev, Tm.get, put, ares, mapMo, ares1, snilP, bldParts, bslParts, putAt, AV.cells, AV.one, astore, aload, loadCs, callArgs, abin, abinInt, aapp, elems, appMore, appNone, preLen, aFa, aFld, apart, aExt, aPick, aNot, aLens, aEqa, cellsK, fitsA, LK.fitsA, leavesA, leafA, nilD, aNilc, aCint, aCid, alive, alen, alenOk, Rle, lePs, len_flat, c47]
  intro ha
  refine run_countK l.length 8 [(7, i64 l.length), (0, u8s l), (1, .fn (.func 37) [] [])] [] (fun i => ∀ j : Nat, j < i → innerOk (gi l j) = true)
    (Wk.tell 0 (by omega) (by simp [Tm.get]) (by simp) rfl (by simp)) (fun j hj => by omega) ?_
  intro i hi hj KK kx kr kn
  by_cases h : i < l.length
  · simp (maxSteps := 3000000) [-List.length_flatten, -List.map_drop, -List.map_take, Function.comp_def, argsT, Opd.ev, Tm.get, put, ares, mapMo, ares1, snilP, bldParts, bslParts, putAt, AV.cells, AV.one, astore, aload, loadCs, callArgs, abin, abinInt, aapp, elems, appMore, appNone, preLen, aFa, aFld, apart, aExt, aPick, aNot, aLens, aEqa, cellsK, fitsA, LK.fitsA, leavesA, leafA, nilD, aNilc, aCint, aCid, alive, alen, alenOk, Rle, lePs, len_flat, h]
    refine PF.call (notInner_PF (gi l i)) 9 (by simp [lePs]) ?_
    by_cases hin : innerOk (gi l i) = true
    · simp (maxSteps := 3000000) [-List.length_flatten, -List.map_drop, -List.map_take, Function.comp_def, argsT, Opd.ev, Tm.get, put, ares, mapMo, ares1, snilP, bldParts, bslParts, putAt, AV.cells, AV.one, astore, aload, loadCs, callArgs, abin, abinInt, aapp, elems, appMore, appNone, preLen, aFa, aFld, apart, aExt, aPick, aNot, aLens, aEqa, cellsK, fitsA, LK.fitsA, leavesA, leafA, nilD, aNilc, aCint, aCid, alive, alen, alenOk, Rle, lePs, len_flat, Kc, hin]
      refine kn _ _ (Kn_next 0 (by omega) (by omega) (fun j hl => ?_) (by simp [Tm.get, nxt h ha]) (by simp) rfl (by simp))
      rcases Nat.lt_or_ge j i with h3 | h3
      · exact hj j h3
      · have : j = i := by omega
        subst this
        exact hin
    · simp (maxSteps := 3000000) [-List.length_flatten, -List.map_drop, -List.map_take, Function.comp_def, argsT, Opd.ev, Tm.get, put, ares, mapMo, ares1, snilP, bldParts, bslParts, putAt, AV.cells, AV.one, astore, aload, loadCs, callArgs, abin, abinInt, aapp, elems, appMore, appNone, preLen, aFa, aFld, apart, aExt, aPick, aNot, aLens, aEqa, cellsK, fitsA, LK.fitsA, leavesA, leafA, nilD, aNilc, aCint, aCid, alive, alen, alenOk, Rle, lePs, len_flat, Kc, hin, kr]
      exact (fstAt_some h (by simpa using hin) (fun j hl => by simp [hj j hl])).symm
  · simp (maxSteps := 3000000) [-List.length_flatten, -List.map_drop, -List.map_take, Function.comp_def, argsT, Opd.ev, Tm.get, put, ares, mapMo, ares1, snilP, bldParts, bslParts, putAt, AV.cells, AV.one, astore, aload, loadCs, callArgs, abin, abinInt, aapp, elems, appMore, appNone, preLen, aFa, aFld, apart, aExt, aPick, aNot, aLens, aEqa, cellsK, fitsA, LK.fitsA, leavesA, leafA, nilD, aNilc, aCint, aCid, alive, alen, alenOk, Rle, lePs, len_flat, h, kx]
    exact (fstAt_none (fun j hl => by simp [hj j (by omega)])).symm
theorem c36_ok : cFn Tryd.prog an0 Tryd.f36 = some c36 := by kernel_rfl
theorem contains36_PF (l : List Int) : PF Tryd.prog 36 [u8s l, .fn (.func 37) [] []] (.bool (decide (0 ≤ fstAt (fun c => !innerOk c) l))) := by
  refine PFk 9 hm Tryd.func36 c36_ok (Nat.le_of_ble_eq_true rfl) (by simp) (by simp) ?_
  simp (maxSteps := 3000000) [-List.length_flatten, -List.map_drop, -List.map_take, Function.comp_def, argsT, Opd.ev, Tm.get, put, ares, mapMo, ares1, snilP, bldParts, bslParts, putAt, AV.cells, AV.one, astore, aload, loadCs, callArgs, abin, abinInt, aapp, elems, appMore, appNone, preLen, aFa, aFld, apart, aExt, aPick, aNot, aLens, aEqa, cellsK, fitsA, LK.fitsA, leavesA, leafA, nilD, aNilc, aCint, aCid, alive, alen, alenOk, Rle, lePs, len_flat, c36]
  refine PF.call (index47_PF l) 9 (by simp [lePs]) ?_
  simp (maxSteps := 3000000) [-List.length_flatten, -List.map_drop, -List.map_take, Function.comp_def, argsT, Opd.ev, Tm.get, put, ares, mapMo, ares1, snilP, bldParts, bslParts, putAt, AV.cells, AV.one, astore, aload, loadCs, callArgs, abin, abinInt, aapp, elems, appMore, appNone, preLen, aFa, aFld, apart, aExt, aPick, aNot, aLens, aEqa, cellsK, fitsA, LK.fitsA, leavesA, leafA, nilD, aNilc, aCint, aCid, alive, alen, alenOk, Rle, lePs, len_flat, Kc]
theorem fstAt_neg {α : Type} [Inhabited α] {p : α → Bool} {l : List α} : (0 ≤ fstAt p l) ↔ ∃ j : Nat, j < l.length ∧ p (gi l j) = true := by
  constructor
  · intro h
    apply Classical.byContradiction
    intro hn
    have : fstAt p l = -1 := fstAt_none fun j hl => by
      cases hp : p (gi l j) with
      | false => rfl
      | true => exact absurd ⟨j, hl, hp⟩ hn
    omega
  · rintro ⟨j, hl, hp⟩
    unfold fstAt
    split
    · omega
    · rename_i hn
      rw [List.findIdx?_eq_none_iff] at hn
      have := hn (gi l j) (by simp [gi, List.getD, hl])
      rw [hp] at this
      cases this
def namedOk (s : ByteArray) (a b : Int) : Bool := decide (1 ≤ s.size) && (decide (s.size ≤ 20) && ((decide (a ≤ byte s 0) && decide (byte s 0 ≤ b)) && decide (∀ i : Nat, i < s.size → innerOk (byte s i) = true)))
theorem c28_ok : cFn Tryd.prog an0 Tryd.f28 = some c28 := by kernel_rfl
theorem named_PF (s : ByteArray) (a b : Int) : PF Tryd.prog 28 [.str s, .fn (.func 30) [ltr a b] []] (.bool (namedOk s a b)) := by
  refine PFk 9 hm Tryd.func28 c28_ok (Nat.le_of_ble_eq_true rfl) (by simp) (by simp) ?_
  by_cases h0 : s.size = 0
  · simp (maxSteps := 3000000) [-List.length_flatten, -List.map_drop, -List.map_take, Function.comp_def, argsT, Opd.ev, Tm.get, put, ares, mapMo, ares1, snilP, bldParts, bslParts, putAt, AV.cells, AV.one, astore, aload, loadCs, callArgs, abin, abinInt, aapp, elems, appMore, appNone, preLen, aFa, aFld, apart, aExt, aPick, aNot, aLens, aEqa, cellsK, fitsA, LK.fitsA, leavesA, leafA, nilD, aNilc, aCint, aCid, alive, alen, alenOk, Rle, lePs, len_flat, c28, h0]
    simp [namedOk, h0]
  have h0' : 0 < s.size := by omega
  have h1 : 1 ≤ s.size := by omega
  by_cases h2 : s.size ≤ 20
  · have h2' : ¬ (20 : Int) < (s.size : Int) := by omega
    have hA : s.size ≤ maxA := by unfold maxA; omega
    simp (maxSteps := 3000000) [-List.length_flatten, -List.map_drop, -List.map_take, Function.comp_def, argsT, Opd.ev, Tm.get, put, ares, mapMo, ares1, snilP, bldParts, bslParts, putAt, AV.cells, AV.one, astore, aload, loadCs, callArgs, abin, abinInt, aapp, elems, appMore, appNone, preLen, aFa, aFld, apart, aExt, aPick, aNot, aLens, aEqa, cellsK, fitsA, LK.fitsA, leavesA, leafA, nilD, aNilc, aCint, aCid, alive, alen, alenOk, Rle, lePs, len_flat, c28, h0, h0', h2, h2']
    intro _
    refine PF.call (has_PF a b (byte s 0)) 9 (by simp [lePs]) ?_
    cases hm : (decide (a ≤ byte s 0) && decide (byte s 0 ≤ b)) with
    | false =>
      simp (maxSteps := 3000000) [-List.length_flatten, -List.map_drop, -List.map_take, Function.comp_def, argsT, Opd.ev, Tm.get, put, ares, mapMo, ares1, snilP, bldParts, bslParts, putAt, AV.cells, AV.one, astore, aload, loadCs, callArgs, abin, abinInt, aapp, elems, appMore, appNone, preLen, aFa, aFld, apart, aExt, aPick, aNot, aLens, aEqa, cellsK, fitsA, LK.fitsA, leavesA, leafA, nilD, aNilc, aCint, aCid, alive, alen, alenOk, Rle, lePs, len_flat, Kc, hm]
      simp only [namedOk, hm, Bool.false_and, Bool.and_false]
    | true =>
      simp (maxSteps := 3000000) [-List.length_flatten, -List.map_drop, -List.map_take, Function.comp_def, argsT, Opd.ev, Tm.get, put, ares, mapMo, ares1, snilP, bldParts, bslParts, putAt, AV.cells, AV.one, astore, aload, loadCs, callArgs, abin, abinInt, aapp, elems, appMore, appNone, preLen, aFa, aFld, apart, aExt, aPick, aNot, aLens, aEqa, cellsK, fitsA, LK.fitsA, leavesA, leafA, nilD, aNilc, aCint, aCid, alive, alen, alenOk, Rle, lePs, len_flat, Kc, hm, hA]
      refine PF.call (contains36_PF (bl s)) 9 (by simp [lePs]) ?_
      simp (maxSteps := 3000000) [-List.length_flatten, -List.map_drop, -List.map_take, Function.comp_def, argsT, Opd.ev, Tm.get, put, ares, mapMo, ares1, snilP, bldParts, bslParts, putAt, AV.cells, AV.one, astore, aload, loadCs, callArgs, abin, abinInt, aapp, elems, appMore, appNone, preLen, aFa, aFld, apart, aExt, aPick, aNot, aLens, aEqa, cellsK, fitsA, LK.fitsA, leavesA, leafA, nilD, aNilc, aCint, aCid, alive, alen, alenOk, Rle, lePs, len_flat, Kc]
      have e : (∀ i : Nat, i < s.size → innerOk (byte s i) = true) ↔ ¬ (0 ≤ fstAt (fun c => !innerOk c) (bl s)) := by
        rw [fstAt_neg, bl_len]
        constructor
        · rintro h ⟨j, hl, hp⟩
          rw [bl_gi, h j hl] at hp
          cases hp
        · intro h i hi
          cases hin : innerOk (byte s i) with
          | true => rfl
          | false => exact absurd ⟨i, hi, by rw [bl_gi, hin]; rfl⟩ h
      simp only [namedOk, hm, h1, h2, e, decide_true, Bool.true_and]
      generalize fstAt (fun c => !innerOk c) (bl s) = n
      by_cases hn : 0 ≤ n
      · simp [hn]
      · simp [hn]
  · have h2' : (20 : Int) < (s.size : Int) := by omega
    simp (maxSteps := 3000000) [-List.length_flatten, -List.map_drop, -List.map_take, Function.comp_def, argsT, Opd.ev, Tm.get, put, ares, mapMo, ares1, snilP, bldParts, bslParts, putAt, AV.cells, AV.one, astore, aload, loadCs, callArgs, abin, abinInt, aapp, elems, appMore, appNone, preLen, aFa, aFld, apart, aExt, aPick, aNot, aLens, aEqa, cellsK, fitsA, LK.fitsA, leavesA, leafA, nilD, aNilc, aCint, aCid, alive, alen, alenOk, Rle, lePs, len_flat, c28, h0, h0', h2, h2']
    simp [namedOk, h2]
end Go.AM

namespace Go.AM
open Go.Proofs
set_option maxRecDepth 100000
set_option linter.unusedVariables false
set_option linter.unusedSimpArgs false
def known (c : Int) : Prop := c = 43 ∨ c = 45
instance (c : Int) : Decidable (known c) := inferInstanceAs (Decidable (_ ∨ _))
theorem c27_ok : cFn Tryd.prog an0 Tryd.f27 = some c27 := by kernel_rfl
theorem known_PF (c : Int) : PF Tryd.prog 27 [.int .u8 c] (.bool (decide (known c))) := by
  refine PFk 9 hm Tryd.func27 c27_ok (Nat.le_of_ble_eq_true rfl) (by simp) (by simp) ?_
  by_cases h : c = 43
  · simp (maxSteps := 3000000) [-List.length_flatten, -List.map_drop, -List.map_take, Function.comp_def, argsT, Opd.ev, Tm.get, put, ares, mapMo, ares1, snilP, bldParts, bslParts, putAt, AV.cells, AV.one, astore, aload, loadCs, callArgs, abin, abinInt, aapp, elems, appMore, appNone, preLen, aFa, aFld, apart, aExt, aPick, aNot, aLens, aEqa, cellsK, fitsA, LK.fitsA, leavesA, leafA, nilD, aNilc, aCint, aCid, alive, alen, alenOk, Rle, lePs, len_flat, c27, h]
    simp [known]
  · simp (maxSteps := 3000000) [-List.length_flatten, -List.map_drop, -List.map_take, Function.comp_def, argsT, Opd.ev, Tm.get, put, ares, mapMo, ares1, snilP, bldParts, bslParts, putAt, AV.cells, AV.one, astore, aload, loadCs, callArgs, abin, abinInt, aapp, elems, appMore, appNone, preLen, aFa, aFld, apart, aExt, aPick, aNot, aLens, aEqa, cellsK, fitsA, LK.fitsA, leavesA, leafA, nilD, aNilc, aCint, aCid, alive, alen, alenOk, Rle, lePs, len_flat, c27, h]
    simp [known, h]
def bothOf (o i : Int) : Int := if known o ∧ known i then (if o = i then 43 else 45) else 61
theorem c15_ok : cFn Tryd.prog an0 Tryd.f15 = some c15 := by kernel_rfl
theorem both_PF (o i : Int) : PF Tryd.prog 15 [.int .u8 o, .int .u8 i] (.int .u8 (bothOf o i)) := by
  refine PFk 9 hm Tryd.func15 c15_ok (Nat.le_of_ble_eq_true rfl) (by simp) (by simp) ?_
  simp (maxSteps := 3000000) [-List.length_flatten, -List.map_drop, -List.map_take, Function.comp_def, argsT, Opd.ev, Tm.get, put, ares, mapMo, ares1, snilP, bldParts, bslParts, putAt, AV.cells, AV.one, astore, aload, loadCs, callArgs, abin, abinInt, aapp, elems, appMore, appNone, preLen, aFa, aFld, apart, aExt, aPick, aNot, aLens, aEqa, cellsK, fitsA, LK.fitsA, leavesA, leafA, nilD, aNilc, aCint, aCid, alive, alen, alenOk, Rle, lePs, len_flat, c15]
  refine PF.call (known_PF o) 9 (by simp [lePs]) ?_
  by_cases h1 : known o
  · simp (maxSteps := 3000000) [-List.length_flatten, -List.map_drop, -List.map_take, Function.comp_def, argsT, Opd.ev, Tm.get, put, ares, mapMo, ares1, snilP, bldParts, bslParts, putAt, AV.cells, AV.one, astore, aload, loadCs, callArgs, abin, abinInt, aapp, elems, appMore, appNone, preLen, aFa, aFld, apart, aExt, aPick, aNot, aLens, aEqa, cellsK, fitsA, LK.fitsA, leavesA, leafA, nilD, aNilc, aCint, aCid, alive, alen, alenOk, Rle, lePs, len_flat, Kc, h1]
    refine PF.call (known_PF i) 9 (by simp [lePs]) ?_
    by_cases h2 : known i
    · by_cases h3 : o = i
      · simp (maxSteps := 3000000) [-List.length_flatten, -List.map_drop, -List.map_take, Function.comp_def, argsT, Opd.ev, Tm.get, put, ares, mapMo, ares1, snilP, bldParts, bslParts, putAt, AV.cells, AV.one, astore, aload, loadCs, callArgs, abin, abinInt, aapp, elems, appMore, appNone, preLen, aFa, aFld, apart, aExt, aPick, aNot, aLens, aEqa, cellsK, fitsA, LK.fitsA, leavesA, leafA, nilD, aNilc, aCint, aCid, alive, alen, alenOk, Rle, lePs, len_flat, Kc, h2, h3]
        simp [bothOf, h2]
      · simp (maxSteps := 3000000) [-List.length_flatten, -List.map_drop, -List.map_take, Function.comp_def, argsT, Opd.ev, Tm.get, put, ares, mapMo, ares1, snilP, bldParts, bslParts, putAt, AV.cells, AV.one, astore, aload, loadCs, callArgs, abin, abinInt, aapp, elems, appMore, appNone, preLen, aFa, aFld, apart, aExt, aPick, aNot, aLens, aEqa, cellsK, fitsA, LK.fitsA, leavesA, leafA, nilD, aNilc, aCint, aCid, alive, alen, alenOk, Rle, lePs, len_flat, Kc, h2, h3]
        simp [bothOf, h1, h2, h3]
    · simp (maxSteps := 3000000) [-List.length_flatten, -List.map_drop, -List.map_take, Function.comp_def, argsT, Opd.ev, Tm.get, put, ares, mapMo, ares1, snilP, bldParts, bslParts, putAt, AV.cells, AV.one, astore, aload, loadCs, callArgs, abin, abinInt, aapp, elems, appMore, appNone, preLen, aFa, aFld, apart, aExt, aPick, aNot, aLens, aEqa, cellsK, fitsA, LK.fitsA, leavesA, leafA, nilD, aNilc, aCint, aCid, alive, alen, alenOk, Rle, lePs, len_flat, Kc, h2]
      simp [bothOf, h2]
  · simp (maxSteps := 3000000) [-List.length_flatten, -List.map_drop, -List.map_take, Function.comp_def, argsT, Opd.ev, Tm.get, put, ares, mapMo, ares1, snilP, bldParts, bslParts, putAt, AV.cells, AV.one, astore, aload, loadCs, callArgs, abin, abinInt, aapp, elems, appMore, appNone, preLen, aFa, aFld, apart, aExt, aPick, aNot, aLens, aEqa, cellsK, fitsA, LK.fitsA, leavesA, leafA, nilD, aNilc, aCint, aCid, alive, alen, alenOk, Rle, lePs, len_flat, Kc, h1]
    simp [bothOf, h1]
theorem c16_ok : cFn Tryd.prog an0 Tryd.f16 = some c16 := by kernel_rfl
theorem isCon_PF (s : ByteArray) : PF Tryd.prog 16 [.str s] (.bool (namedOk s 97 122)) := by
  refine PFk 9 hm Tryd.func16 c16_ok (Nat.le_of_ble_eq_true rfl) (by simp) (by simp) ?_
  simp (maxSteps := 3000000) [-List.length_flatten, -List.map_drop, -List.map_take, Function.comp_def, argsT, Opd.ev, Tm.get, put, ares, mapMo, ares1, snilP, bldParts, bslParts, putAt, AV.cells, AV.one, astore, aload, loadCs, callArgs, abin, abinInt, aapp, elems, appMore, appNone, preLen, aFa, aFld, apart, aExt, aPick, aNot, aLens, aEqa, cellsK, fitsA, LK.fitsA, leavesA, leafA, nilD, aNilc, aCint, aCid, alive, alen, alenOk, Rle, lePs, len_flat, c16]
  refine PF.call lower_PF 9 (by simp [lePs]) ?_
  simp (maxSteps := 3000000) [-List.length_flatten, -List.map_drop, -List.map_take, Function.comp_def, argsT, Opd.ev, Tm.get, put, ares, mapMo, ares1, snilP, bldParts, bslParts, putAt, AV.cells, AV.one, astore, aload, loadCs, callArgs, abin, abinInt, aapp, elems, appMore, appNone, preLen, aFa, aFld, apart, aExt, aPick, aNot, aLens, aEqa, cellsK, fitsA, LK.fitsA, leavesA, leafA, nilD, aNilc, aCint, aCid, alive, alen, alenOk, Rle, lePs, len_flat, Kc]
  refine PF.call (named_PF s 97 122) 9 (by simp [lePs]) ?_
  simp (maxSteps := 3000000) [-List.length_flatten, -List.map_drop, -List.map_take, Function.comp_def, argsT, Opd.ev, Tm.get, put, ares, mapMo, ares1, snilP, bldParts, bslParts, putAt, AV.cells, AV.one, astore, aload, loadCs, callArgs, abin, abinInt, aapp, elems, appMore, appNone, preLen, aFa, aFld, apart, aExt, aPick, aNot, aLens, aEqa, cellsK, fitsA, LK.fitsA, leavesA, leafA, nilD, aNilc, aCint, aCid, alive, alen, alenOk, Rle, lePs, len_flat, Kc]
theorem c17_ok : cFn Tryd.prog an0 Tryd.f17 = some c17 := by kernel_rfl
theorem isVar_PF (s : ByteArray) : PF Tryd.prog 17 [.str s] (.bool (namedOk s 65 90)) := by
  refine PFk 9 hm Tryd.func17 c17_ok (Nat.le_of_ble_eq_true rfl) (by simp) (by simp) ?_
  simp (maxSteps := 3000000) [-List.length_flatten, -List.map_drop, -List.map_take, Function.comp_def, argsT, Opd.ev, Tm.get, put, ares, mapMo, ares1, snilP, bldParts, bslParts, putAt, AV.cells, AV.one, astore, aload, loadCs, callArgs, abin, abinInt, aapp, elems, appMore, appNone, preLen, aFa, aFld, apart, aExt, aPick, aNot, aLens, aEqa, cellsK, fitsA, LK.fitsA, leavesA, leafA, nilD, aNilc, aCint, aCid, alive, alen, alenOk, Rle, lePs, len_flat, c17]
  refine PF.call upper_PF 9 (by simp [lePs]) ?_
  simp (maxSteps := 3000000) [-List.length_flatten, -List.map_drop, -List.map_take, Function.comp_def, argsT, Opd.ev, Tm.get, put, ares, mapMo, ares1, snilP, bldParts, bslParts, putAt, AV.cells, AV.one, astore, aload, loadCs, callArgs, abin, abinInt, aapp, elems, appMore, appNone, preLen, aFa, aFld, apart, aExt, aPick, aNot, aLens, aEqa, cellsK, fitsA, LK.fitsA, leavesA, leafA, nilD, aNilc, aCint, aCid, alive, alen, alenOk, Rle, lePs, len_flat, Kc]
  refine PF.call (named_PF s 65 90) 9 (by simp [lePs]) ?_
  simp (maxSteps := 3000000) [-List.length_flatten, -List.map_drop, -List.map_take, Function.comp_def, argsT, Opd.ev, Tm.get, put, ares, mapMo, ares1, snilP, bldParts, bslParts, putAt, AV.cells, AV.one, astore, aload, loadCs, callArgs, abin, abinInt, aapp, elems, appMore, appNone, preLen, aFa, aFld, apart, aExt, aPick, aNot, aLens, aEqa, cellsK, fitsA, LK.fitsA, leavesA, leafA, nilD, aNilc, aCint, aCid, alive, alen, alenOk, Rle, lePs, len_flat, Kc]
theorem conOk_named (s : ByteArray) : namedOk s 97 122 = conOk s := by
  rw [Bool.eq_iff_iff]
  simp only [namedOk, conOk, nameOk, Bool.and_eq_true, decide_eq_true_eq, innerOk]
  constructor
  · rintro ⟨h1, h2, ⟨h3, h4⟩, h5⟩
    refine ⟨⟨⟨⟨h1, h2⟩, fun i hi => ?_⟩, h3⟩, h4⟩
    rcases h5 i hi with h | h
    · exact .inl h
    · by_cases h0 : i = 0
      · subst h0
        exact .inl (.inl ⟨h3, h4⟩)
      · exact .inr ⟨by omega, h⟩
  · rintro ⟨⟨⟨⟨h1, h2⟩, h5⟩, h3⟩, h4⟩
    refine ⟨h1, h2, ⟨h3, h4⟩, fun i hi => ?_⟩
    rcases h5 i hi with h | h
    · exact .inl h
    · exact .inr h.2
theorem c26_ok : cFn Tryd.prog an0 Tryd.f26 = some c26 := by kernel_rfl
theorem find1_FT (s : Sg) (j g : Nat) (name : ByteArray) (H : AHeap) (hH : H[j]? = some (.cells g [.str name])) (hR : ∀ b ∈ H, RLB H.length b) : FT Tryd.prog 26 [.agg [.str s.name, .str s.args], .ptr j g 0] H (fun rv H' => rv = .bool (decide (s.name = name)) ∧ H' = H) := by
  refine FTt hm Tryd.func26 c26_ok (Nat.le_of_ble_eq_true rfl) ?_
  have hj := lt_of_get hH
  have e : (H ++ [ABlk.cells 0 [AV.str s.name, AV.str s.args]])[j]? = some (.cells g [.str name]) := by rw [List.getElem?_append_left hj]; exact hH
  simp (maxSteps := 3000000) [-List.length_flatten, -List.map_drop, -List.map_take, Function.comp_def, argsT, Opd.ev, Tm.get, put, ares, mapMo, ares1, snilP, bldParts, bslParts, putAt, AV.cells, AV.one, astore, aload, loadCs, callArgs, abin, abinInt, aapp, elems, appMore, appNone, preLen, aFa, aFld, apart, aExt, aPick, aNot, aLens, aEqa, cellsK, fitsA, LK.fitsA, leavesA, leafA, nilD, aNilc, aCint, aCid, alive, alen, alenOk, Rle, lePs, len_flat, c26, e]
  exact hR
theorem c25_ok : cFn Tryd.prog an0 Tryd.f25 = some c25 := by kernel_rfl
theorem index25_FT (l : List Sg) (j g : Nat) (name : ByteArray) (H : AHeap) (hH : H[j]? = some (.cells g [.str name])) (hR : ∀ b ∈ H, RLB H.length b) :
    FT Tryd.prog 25 [sigs l, .fn (.func 26) [] [.ptr j g 0]] H (fun rv H' => rv = i64 (fstAt (fun s => decide (s.name = name)) l) ∧ H' = H) := by
  refine FTk hm Tryd.func25 c25_ok (Nat.le_of_ble_eq_true rfl) ?_
  have hj := lt_of_get hH
  simp (maxSteps := 3000000) [-List.length_flatten, -List.map_drop, -List.map_take, Function.comp_def, argsT, Opd.ev, Tm.get, put, ares, mapMo, ares1, snilP, bldParts, bslParts, putAt, AV.cells, AV.one, astore, aload, loadCs, callArgs, abin, abinInt, aapp, elems, appMore, appNone, preLen, aFa, aFld, apart, aExt, aPick, aNot, aLens, aEqa, cellsK, fitsA, LK.fitsA, leavesA, leafA, nilD, aNilc, aCint, aCid, alive, alen, alenOk, Rle, lePs, len_flat, c25]
  intro ha
  refine run_countK l.length 8 [(7, i64 l.length), (0, sigs l), (1, .fn (.func 26) [] [.ptr j g 0])] H (fun i => ∀ k : Nat, k < i → (gi l k).name ≠ name)
    (Wk.to H.length (by omega) (by simp [Tm.get]) (by simp [hj]) (by simp) hR) (fun j hj => by omega) ?_
  intro i hi hjj KK kx kr kn
  by_cases h : i < l.length
  · simp (maxSteps := 3000000) [-List.length_flatten, -List.map_drop, -List.map_take, Function.comp_def, argsT, Opd.ev, Tm.get, put, ares, mapMo, ares1, snilP, bldParts, bslParts, putAt, AV.cells, AV.one, astore, aload, loadCs, callArgs, abin, abinInt, aapp, elems, appMore, appNone, preLen, aFa, aFld, apart, aExt, aPick, aNot, aLens, aEqa, cellsK, fitsA, LK.fitsA, leavesA, leafA, nilD, aNilc, aCint, aCid, alive, alen, alenOk, Rle, lePs, len_flat, h]
    refine FT.mono (find1_FT (gi l i) j g name H hH hR) ?_
    rintro rv H' ⟨rfl, rfl⟩
    by_cases hin : (gi l i).name = name
    · simp (maxSteps := 3000000) [-List.length_flatten, -List.map_drop, -List.map_take, Function.comp_def, argsT, Opd.ev, Tm.get, put, ares, mapMo, ares1, snilP, bldParts, bslParts, putAt, AV.cells, AV.one, astore, aload, loadCs, callArgs, abin, abinInt, aapp, elems, appMore, appNone, preLen, aFa, aFld, apart, aExt, aPick, aNot, aLens, aEqa, cellsK, fitsA, LK.fitsA, leavesA, leafA, nilD, aNilc, aCint, aCid, alive, alen, alenOk, Rle, lePs, len_flat, Kc, hin, kr]
      exact (fstAt_some h (by simpa using hin) (fun k hl => by simpa using hjj k hl)).symm
    · simp (maxSteps := 3000000) [-List.length_flatten, -List.map_drop, -List.map_take, Function.comp_def, argsT, Opd.ev, Tm.get, put, ares, mapMo, ares1, snilP, bldParts, bslParts, putAt, AV.cells, AV.one, astore, aload, loadCs, callArgs, abin, abinInt, aapp, elems, appMore, appNone, preLen, aFa, aFld, apart, aExt, aPick, aNot, aLens, aEqa, cellsK, fitsA, LK.fitsA, leavesA, leafA, nilD, aNilc, aCint, aCid, alive, alen, alenOk, Rle, lePs, len_flat, Kc, hin]
      refine kn _ _ ⟨by omega, fun k hl => ?_, Wk.to (List.length H') (by omega) (by simp [Tm.get, nxt h ha]) (by simp [hj]) (by simp) hR⟩
      rcases Nat.lt_or_ge k i with h3 | h3
      · exact hjj k h3
      · have : k = i := by omega
        subst this
        exact hin
  · simp (maxSteps := 3000000) [-List.length_flatten, -List.map_drop, -List.map_take, Function.comp_def, argsT, Opd.ev, Tm.get, put, ares, mapMo, ares1, snilP, bldParts, bslParts, putAt, AV.cells, AV.one, astore, aload, loadCs, callArgs, abin, abinInt, aapp, elems, appMore, appNone, preLen, aFa, aFld, apart, aExt, aPick, aNot, aLens, aEqa, cellsK, fitsA, LK.fitsA, leavesA, leafA, nilD, aNilc, aCint, aCid, alive, alen, alenOk, Rle, lePs, len_flat, h, kx]
    exact (fstAt_none (fun k hl => by simpa using hjj k (by omega))).symm
theorem c14_ok : cFn Tryd.prog an0 Tryd.f14 = some c14 := by kernel_rfl
theorem sfind_PF (l : List Sg) (name : ByteArray) : PF Tryd.prog 14 [sigs l, .str name] (i64 (fstAt (fun s => decide (s.name = name)) l)) := by
  refine PFk 9 hm Tryd.func14 c14_ok (Nat.le_of_ble_eq_true rfl) (by simp) (by simp) ?_
  simp (maxSteps := 3000000) [-List.length_flatten, -List.map_drop, -List.map_take, Function.comp_def, argsT, Opd.ev, Tm.get, put, ares, mapMo, ares1, snilP, bldParts, bslParts, putAt, AV.cells, AV.one, astore, aload, loadCs, callArgs, abin, abinInt, aapp, elems, appMore, appNone, preLen, aFa, aFld, apart, aExt, aPick, aNot, aLens, aEqa, cellsK, fitsA, LK.fitsA, leavesA, leafA, nilD, aNilc, aCint, aCid, alive, alen, alenOk, Rle, lePs, len_flat, c14]
  refine FT.mono (index25_FT l 0 0 name _ rfl (by simp [RLB])) ?_
  rintro rv H' ⟨rfl, rfl⟩
  simp (maxSteps := 3000000) [-List.length_flatten, -List.map_drop, -List.map_take, Function.comp_def, argsT, Opd.ev, Tm.get, put, ares, mapMo, ares1, snilP, bldParts, bslParts, putAt, AV.cells, AV.one, astore, aload, loadCs, callArgs, abin, abinInt, aapp, elems, appMore, appNone, preLen, aFa, aFld, apart, aExt, aPick, aNot, aLens, aEqa, cellsK, fitsA, LK.fitsA, leavesA, leafA, nilD, aNilc, aCint, aCid, alive, alen, alenOk, Rle, lePs, len_flat, Kc]
theorem c13_ok : cFn Tryd.prog an0 Tryd.f13 = some c13 := by kernel_rfl
theorem rsame_PF (a b : List Sg) : PF Tryd.prog 13 [sigs a, sigs b] (.bool (decide (a = b))) := by
  refine PFk 9 hm Tryd.func13 c13_ok (Nat.le_of_ble_eq_true rfl) (by simp) (by simp) ?_
  simp (maxSteps := 3000000) [-List.length_flatten, -List.map_drop, -List.map_take, Function.comp_def, argsT, Opd.ev, Tm.get, put, ares, mapMo, ares1, snilP, bldParts, bslParts, putAt, AV.cells, AV.one, astore, aload, loadCs, callArgs, abin, abinInt, aapp, elems, appMore, appNone, preLen, aFa, aFld, apart, aExt, aPick, aNot, aLens, aEqa, cellsK, fitsA, LK.fitsA, leavesA, leafA, nilD, aNilc, aCint, aCid, alive, alen, alenOk, Rle, lePs, len_flat, c13]
  intro ha hb
  refine ⟨fun h => ?_, fun h => ?_⟩
  · intro e
    subst e
    simp at h
  · refine run_count a.length 5 [(0, sigs a), (1, sigs b)] [] (fun i => ∀ j : Nat, j < i → gi a j = gi b j)
      (Wk.tell 0 (Nat.le_refl _) (by simp [Tm.get]) (by simp) rfl (by simp)) (fun j hj => by omega) ?_
    intro i hi hj
    have next : i < a.length → gi a i = gi b i → ∀ j : Nat, j < i + 1 → gi a j = gi b j := fun h hb j hl => by
      rcases Nat.lt_or_ge j i with h3 | h3
      · exact hj j h3
      · have : j = i := by omega
        subst this
        exact hb
    simp (maxSteps := 3000000) [-List.length_flatten, -List.map_drop, -List.map_take, Function.comp_def, argsT, Opd.ev, Tm.get, put, ares, mapMo, ares1, snilP, bldParts, bslParts, putAt, AV.cells, AV.one, astore, aload, loadCs, callArgs, abin, abinInt, aapp, elems, appMore, appNone, preLen, aFa, aFld, apart, aExt, aPick, aNot, aLens, aEqa, cellsK, fitsA, LK.fitsA, leavesA, leafA, nilD, aNilc, aCint, aCid, alive, alen, alenOk, Rle, lePs, len_flat]
    intro _
    refine ⟨fun h1 => ⟨h1, by omega, fun h2 e => ?_, fun h2 h3 => ?_⟩, fun h1 => eq_gi (by omega) (fun j hl => hj j (by omega))⟩
    · subst e
      simp at h2
    · exact Kn_next 0 (by omega) (by omega) (next h1 (by cases h4 : gi a i; cases h5 : gi b i; rw [h4, h5] at h2 h3; simp only at h2 h3; rw [h2, h3])) (by simp [Tm.get, nxt h1 ha]) (by simp) rfl (by simp)
theorem c32_ok : cFn Tryd.prog an0 Tryd.f32 = some c32 := by kernel_rfl
theorem sequal_PF (a b : List Sg) : PF Tryd.prog 32 [sigs a, sigs b] (.bool (decide (a = b))) := by
  refine PFk 9 hm Tryd.func32 c32_ok (Nat.le_of_ble_eq_true rfl) (by simp) (by simp) ?_
  simp (maxSteps := 3000000) [-List.length_flatten, -List.map_drop, -List.map_take, Function.comp_def, argsT, Opd.ev, Tm.get, put, ares, mapMo, ares1, snilP, bldParts, bslParts, putAt, AV.cells, AV.one, astore, aload, loadCs, callArgs, abin, abinInt, aapp, elems, appMore, appNone, preLen, aFa, aFld, apart, aExt, aPick, aNot, aLens, aEqa, cellsK, fitsA, LK.fitsA, leavesA, leafA, nilD, aNilc, aCint, aCid, alive, alen, alenOk, Rle, lePs, len_flat, c32]
  intro ha hb
  refine ⟨fun h => ?_, fun h => ?_⟩
  · intro e
    subst e
    simp at h
  · intro _
    refine run_count a.length 13 [(12, i64 a.length), (0, sigs a), (1, sigs b)] [] (fun i => ∀ j : Nat, j < i → gi a j = gi b j)
      (Wk.tell 0 (Nat.le_refl _) (by simp [Tm.get]) (by simp) rfl (by simp)) (fun j hj => by omega) ?_
    intro i hi hj
    have next : i < a.length → gi a i = gi b i → ∀ j : Nat, j < i + 1 → gi a j = gi b j := fun h hb j hl => by
      rcases Nat.lt_or_ge j i with h3 | h3
      · exact hj j h3
      · have : j = i := by omega
        subst this
        exact hb
    simp (maxSteps := 3000000) [-List.length_flatten, -List.map_drop, -List.map_take, Function.comp_def, argsT, Opd.ev, Tm.get, put, ares, mapMo, ares1, snilP, bldParts, bslParts, putAt, AV.cells, AV.one, astore, aload, loadCs, callArgs, abin, abinInt, aapp, elems, appMore, appNone, preLen, aFa, aFld, apart, aExt, aPick, aNot, aLens, aEqa, cellsK, fitsA, LK.fitsA, leavesA, leafA, nilD, aNilc, aCint, aCid, alive, alen, alenOk, Rle, lePs, len_flat]
    refine ⟨fun h1 => ⟨h1, by omega, fun h2 e => ?_, fun h2 h3 => ?_⟩, fun h1 => eq_gi (by omega) (fun j hl => hj j (by omega))⟩
    · subst e
      simp at h2
    · exact Kn_next 0 (by omega) (by omega) (next h1 (by cases h4 : gi a i; cases h5 : gi b i; rw [h4, h5] at h2 h3; simp only at h2 h3; rw [h2, h3])) (by simp [Tm.get, nxt h1 ha]) (by simp) rfl (by simp)
theorem c18_ok : cFn Tryd.prog an0 Tryd.f18 = some c18 := by kernel_rfl
theorem ssame_PF (a b : List Sg) : PF Tryd.prog 18 [sigs a, sigs b] (.bool (decide (a = b))) := by
  refine PFk 9 hm Tryd.func18 c18_ok (Nat.le_of_ble_eq_true rfl) (by simp) (by simp) ?_
  simp (maxSteps := 3000000) [-List.length_flatten, -List.map_drop, -List.map_take, Function.comp_def, argsT, Opd.ev, Tm.get, put, ares, mapMo, ares1, snilP, bldParts, bslParts, putAt, AV.cells, AV.one, astore, aload, loadCs, callArgs, abin, abinInt, aapp, elems, appMore, appNone, preLen, aFa, aFld, apart, aExt, aPick, aNot, aLens, aEqa, cellsK, fitsA, LK.fitsA, leavesA, leafA, nilD, aNilc, aCint, aCid, alive, alen, alenOk, Rle, lePs, len_flat, c18]
  refine PF.call (sequal_PF a b) 9 (by simp [lePs]) ?_
  simp (maxSteps := 3000000) [-List.length_flatten, -List.map_drop, -List.map_take, Function.comp_def, argsT, Opd.ev, Tm.get, put, ares, mapMo, ares1, snilP, bldParts, bslParts, putAt, AV.cells, AV.one, astore, aload, loadCs, callArgs, abin, abinInt, aapp, elems, appMore, appNone, preLen, aFa, aFld, apart, aExt, aPick, aNot, aLens, aEqa, cellsK, fitsA, LK.fitsA, leavesA, leafA, nilD, aNilc, aCint, aCid, alive, alen, alenOk, Rle, lePs, len_flat, Kc]
def fewOk (l : List Sg) : Bool := decide (∀ i : Nat, i < l.length → i < 200 ∧ (gi l i).name.size + (gi l i).args.size ≤ 100)
theorem c9_ok : cFn Tryd.prog an0 Tryd.f9 = some c9 := by kernel_rfl
theorem few_PF (l : List Sg) (hl : l.length ≤ maxA) (hs : ∀ i : Nat, i < l.length → (gi l i).name.size ≤ maxA ∧ (gi l i).args.size ≤ maxA) : PF Tryd.prog 9 [sigs l] (.bool (fewOk l)) := by
  refine PFk 9 hm Tryd.func9 c9_ok (Nat.le_of_ble_eq_true rfl) (by simp) (by simp) ?_
  simp (maxSteps := 3000000) [-List.length_flatten, -List.map_drop, -List.map_take, Function.comp_def, argsT, Opd.ev, Tm.get, put, ares, mapMo, ares1, snilP, bldParts, bslParts, putAt, AV.cells, AV.one, astore, aload, loadCs, callArgs, abin, abinInt, aapp, elems, appMore, appNone, preLen, aFa, aFld, apart, aExt, aPick, aNot, aLens, aEqa, cellsK, fitsA, LK.fitsA, leavesA, leafA, nilD, aNilc, aCint, aCid, alive, alen, alenOk, Rle, lePs, len_flat, c9]
  refine run_countK l.length 3 [(0, sigs l)] [] (fun i => ∀ j : Nat, j < i → j < 200 ∧ (gi l j).name.size + (gi l j).args.size ≤ 100)
    (Wk.tell 0 (Nat.le_refl _) (by simp [Tm.get]) (by simp) rfl (by simp)) (fun j hj => by omega) ?_
  intro i hi hj KK kx kr kn
  by_cases h : i < l.length
  · have bad : ¬ (i < 200 ∧ (gi l i).name.size + (gi l i).args.size ≤ 100) → fewOk l = false := fun hb => decide_eq_false fun hh => hb (hh i h)
    obtain ⟨s1, s2⟩ := hs i h
    have hw : IntKind.i64.wrap (((gi l i).name.size : Int) + (gi l i).args.size) = (((gi l i).name.size + (gi l i).args.size : Nat) : Int) := by
      unfold maxA at s1 s2
      rw [w64 (by omega) (by omega)]
      omega
    by_cases h2 : (200 : Int) ≤ (i : Int)
    · have e := bad (by omega)
      simp (maxSteps := 3000000) [-List.length_flatten, -List.map_drop, -List.map_take, Function.comp_def, argsT, Opd.ev, Tm.get, put, ares, mapMo, ares1, snilP, bldParts, bslParts, putAt, AV.cells, AV.one, astore, aload, loadCs, callArgs, abin, abinInt, aapp, elems, appMore, appNone, preLen, aFa, aFld, apart, aExt, aPick, aNot, aLens, aEqa, cellsK, fitsA, LK.fitsA, leavesA, leafA, nilD, aNilc, aCint, aCid, alive, alen, alenOk, Rle, lePs, len_flat, h, h2, kr, e]
    by_cases h3 : (gi l i).name.size + (gi l i).args.size ≤ 100
    · have h3' : ¬ (100 : Int) < (((gi l i).name.size + (gi l i).args.size : Nat) : Int) := by omega
      simp (maxSteps := 3000000) [-List.length_flatten, -List.map_drop, -List.map_take, Function.comp_def, argsT, Opd.ev, Tm.get, put, ares, mapMo, ares1, snilP, bldParts, bslParts, putAt, AV.cells, AV.one, astore, aload, loadCs, callArgs, abin, abinInt, aapp, elems, appMore, appNone, preLen, aFa, aFld, apart, aExt, aPick, aNot, aLens, aEqa, cellsK, fitsA, LK.fitsA, leavesA, leafA, nilD, aNilc, aCint, aCid, alive, alen, alenOk, Rle, lePs, len_flat, h, h2, hw, h3', -Int.natCast_add]
      intros
      refine kn _ _ (Kn_next 0 (by omega) (by omega) (fun j hl => ?_) (by simp [Tm.get, nxt h hl]) (by simp) rfl (by simp))
      rcases Nat.lt_or_ge j i with h4 | h4
      · exact hj j h4
      · have : j = i := by omega
        subst this
        exact ⟨by omega, h3⟩
    · have h3' : (100 : Int) < (((gi l i).name.size + (gi l i).args.size : Nat) : Int) := by omega
      have e := bad (by omega)
      simp (maxSteps := 3000000) [-List.length_flatten, -List.map_drop, -List.map_take, Function.comp_def, argsT, Opd.ev, Tm.get, put, ares, mapMo, ares1, snilP, bldParts, bslParts, putAt, AV.cells, AV.one, astore, aload, loadCs, callArgs, abin, abinInt, aapp, elems, appMore, appNone, preLen, aFa, aFld, apart, aExt, aPick, aNot, aLens, aEqa, cellsK, fitsA, LK.fitsA, leavesA, leafA, nilD, aNilc, aCint, aCid, alive, alen, alenOk, Rle, lePs, len_flat, h, h2, hw, h3', kr, e, -Int.natCast_add]
  · have : fewOk l = true := decide_eq_true fun j hl => hj j (by omega)
    simp (maxSteps := 3000000) [-List.length_flatten, -List.map_drop, -List.map_take, Function.comp_def, argsT, Opd.ev, Tm.get, put, ares, mapMo, ares1, snilP, bldParts, bslParts, putAt, AV.cells, AV.one, astore, aload, loadCs, callArgs, abin, abinInt, aapp, elems, appMore, appNone, preLen, aFa, aFld, apart, aExt, aPick, aNot, aLens, aEqa, cellsK, fitsA, LK.fitsA, leavesA, leafA, nilD, aNilc, aCint, aCid, alive, alen, alenOk, Rle, lePs, len_flat, h, kx, this]
end Go.AM

namespace Go.AM
open Go.Proofs
set_option maxRecDepth 100000
set_option linter.unusedVariables false
set_option linter.unusedSimpArgs false
/-! ### strings.Trim, of letters below 128 -/
def setOf (p : Nat → Bool) : List AV := (List.range 256).map fun i => AV.bool (p i)
theorem setOf_len (p : Nat → Bool) : (setOf p).length = 256 := by simp [setOf]
theorem setOf_ff : ff256 = setOf fun _ => false := by
  unfold ff256 setOf
  rw [List.map_const', List.length_range]
theorem setOf_set (p : Nat → Bool) (c : Nat) : (setOf p).set c (.bool true) = setOf fun k => decide (k = c) || p k := by
  apply List.ext_getElem?
  intro i
  rw [List.getElem?_set]
  by_cases h : c = i
  · subst h
    by_cases hc : c < 256
    · simp [setOf, hc]
    · simp [setOf, hc]
  · rw [if_neg h]
    by_cases hi : i < 256
    · have : ¬ i = c := fun e => h e.symm
      simp [setOf, hi, this]
    · simp [setOf, hi]
theorem setOf_get (p : Nat → Bool) {c : Int} (h0 : 0 ≤ c) (h1 : c < 256) : loadCs 1 false ((setOf p).drop c.toNat) = some (.bool (p c.toNat)) := by
  have e := loadCs_drop (f := fun b : Bool => AV.bool b) (l := (List.range 256).map p) (k := c.toNat) (by simp; omega)
  rw [List.map_map] at e
  have e2 : gi ((List.range 256).map p) (c.toNat : Nat) = p c.toNat := by
    have : c.toNat < 256 := by omega
    unfold gi
    rw [Int.toNat_natCast]
    simp [List.getD, this]
  rw [e2] at e
  exact e
theorem setOf_load (p : Nat → Bool) : loadCs 256 true (setOf p) = some (.agg (setOf p)) := by
  unfold loadCs
  rw [if_pos (by rw [setOf_len]; exact Nat.le_refl _)]
  simp only [if_true]
  rw [List.take_of_length_le (by rw [setOf_len]; exact Nat.le_refl _)]
theorem putAt_from : ∀ (vs pre rest : List AV), rest.length = vs.length → putAt (pre ++ rest) pre.length vs = pre ++ vs
  | [], pre, rest, h => by
    have : rest = [] := List.eq_nil_of_length_eq_zero (by simpa using h)
    subst this
    rfl
  | v :: vs, pre, [], h => by simp at h
  | v :: vs, pre, r :: rest, h => by
    simp only [putAt]
    have e : (pre ++ r :: rest).set pre.length v = (pre ++ [v]) ++ rest := by simp [List.set_append]
    rw [e, show pre.length + 1 = (pre ++ [v]).length by simp, putAt_from vs (pre ++ [v]) rest (by simpa using h)]
    simp
theorem putAt_same {l vs : List AV} (h : l.length = vs.length) : putAt l 0 vs = vs := putAt_from vs [] l h
theorem setOf_one (p : Nat → Bool) : (setOf p).all AV.one = true := by simp [setOf, AV.one]
theorem setOf_RL (p : Nat → Bool) (n : Nat) : ∀ y ∈ setOf p, RL n y := by simp [setOf]
def inS (s : ByteArray) (i : Nat) (k : Nat) : Bool := (List.range i).any fun j : Nat => decide (byte s j = (k : Int))
theorem inS_zero (s : ByteArray) : inS s 0 = fun _ => false := by funext k; rfl
theorem inS_succ (s : ByteArray) (i : Nat) : inS s (i + 1) = fun k => decide (k = (byte s i).toNat) || inS s i k := by
  funext k
  have hb := byte_range s i
  have : decide (byte s i = (k : Int)) = decide (k = (byte s i).toNat) := decide_eq_decide.2 (by omega)
  simp only [inS, List.range_succ, List.any_append, List.any_cons, List.any_nil, Bool.or_false, this]
  exact Bool.or_comm _ _
theorem frz_set (p : Nat → Bool) (H : AHeap) (n : Nat) : (setOf p).map (frz true H (n + 1)) = setOf p := by
  unfold setOf
  rw [List.map_map]
  rfl
theorem setOf_take (p : Nat → Bool) : (setOf p).take 256 = setOf p := List.take_of_length_le (by rw [setOf_len]; exact Nat.le_refl _)
theorem lePs_self {R : AV → AV → Prop} : ∀ {l : List AV}, (∀ a ∈ l, R a a) → lePs R l l
  | [], _ => trivial
  | a :: l, h => ⟨h a (by simp), lePs_self fun b hb => h b (by simp [hb])⟩
theorem setOf_le (p : Nat → Bool) (n : Nat) : lePs (leP (n + 1)) (setOf p) (setOf p) := lePs_self fun a ha => by
  obtain ⟨k, _, rfl⟩ := List.mem_map.1 ha
  rfl
theorem c42_ok : cFn Tryd.prog an0 Tryd.f42 = some c42 := by kernel_rfl
theorem makeSet_PF (s : ByteArray) (hs : s.size ≤ maxA) (h128 : ∀ i : Nat, i < s.size → byte s i < 128) : PF Tryd.prog 42 [.str s] (.tuple [.agg (setOf (inS s s.size)), .bool true]) := by
  refine PFk 9 hm Tryd.func42 c42_ok (Nat.le_of_ble_eq_true rfl) (by simp) (by simp; exact setOf_RL _ _) ?_
  simp (maxSteps := 3000000) [-List.length_flatten, -List.map_drop, -List.map_take, Function.comp_def, argsT, Opd.ev, Tm.get, put, ares, mapMo, ares1, snilP, bldParts, bslParts, putAt, AV.cells, AV.one, astore, aload, loadCs, callArgs, abin, abinInt, aapp, elems, appMore, appNone, preLen, aFa, aFld, apart, aExt, aPick, aNot, aLens, aEqa, cellsK, fitsA, LK.fitsA, leavesA, leafA, nilD, aNilc, aCint, aCid, alive, alen, alenOk, Rle, lePs, len_flat, c42]
  refine run_loopK (fun m T H => ∃ i : Nat, m = s.size - i ∧ i ≤ s.size ∧ T = [(4, i64 i), (3, .bool false), (2, .ptr 0 0 0), (0, .str s)] ∧ H = [.cells 0 (setOf (inS s i))]) s.size [(4, i64 0), (3, .bool false), (2, .ptr 0 0 0), (0, .str s)] [.cells 0 (setOf (inS s 0))]
    (Wk.tell 1 (by omega) (by simp [Tm.get]) (by simp) (by simp [setOf_ff, inS_zero]) (by simp only [al_cons, al_nil, and_true]; exact setOf_RL _ _)) ⟨0, by simp, by simp, rfl, rfl⟩ ?_
  rintro m T H ⟨i, rfl, hi, rfl, rfl⟩ KK kx kr kn
  have hb := byte_range s i
  by_cases h : i < s.size
  · have h1 := h128 i h
    have n1 : ¬ (128 : Int) ≤ byte s i := by omega
    have n2 : (byte s i).toNat + 1 ≤ 256 := by omega
    have n3 : byte s i < 256 := hb.2
    have n4 : 0 ≤ byte s i := hb.1
    simp (maxSteps := 3000000) [-List.length_flatten, -List.map_drop, -List.map_take, Function.comp_def, argsT, Opd.ev, Tm.get, put, ares, mapMo, ares1, snilP, bldParts, bslParts, putAt, AV.cells, AV.one, astore, aload, loadCs, callArgs, abin, abinInt, aapp, elems, appMore, appNone, preLen, aFa, aFld, apart, aExt, aPick, aNot, aLens, aEqa, cellsK, fitsA, LK.fitsA, leavesA, leafA, nilD, aNilc, aCint, aCid, alive, alen, alenOk, Rle, lePs, len_flat, h, n1, aIarr, n3, n4, setOf_len, setOf_set]
    intro _
    refine ⟨by omega, ?_⟩
    refine kn _ _ (Kl_next (s.size - (i + 1)) 1 (by omega) ⟨i + 1, rfl, h, rfl, rfl⟩ (by simp [Tm.get, nxt h hs]) (by simp) (by simp [inS_succ]) (by simp only [al_cons, al_nil, and_true]; exact setOf_RL _ _) (by omega))
  · have e : i = s.size := by omega
    subst e
    simp (maxSteps := 3000000) [-List.length_flatten, -List.map_drop, -List.map_take, Function.comp_def, argsT, Opd.ev, Tm.get, put, ares, mapMo, ares1, snilP, bldParts, bslParts, putAt, AV.cells, AV.one, astore, aload, loadCs, callArgs, abin, abinInt, aapp, elems, appMore, appNone, preLen, aFa, aFld, apart, aExt, aPick, aNot, aLens, aEqa, cellsK, fitsA, LK.fitsA, leavesA, leafA, nilD, aNilc, aCint, aCid, alive, alen, alenOk, Rle, lePs, len_flat, h, kx, ↓setOf_load, setOf_len, setOf_one, putAt_same, frz_set, setOf_take]
    intro _
    exact setOf_le _ 6
theorem c48_ok : cFn Tryd.prog an0 Tryd.f48 = some c48 := by kernel_rfl
theorem contains_FT (j g : Nat) (p : Nat → Bool) (c : Int) (H : AHeap) (h0 : 0 ≤ c) (h1 : c < 256) (hH : H[j]? = some (.cells g (setOf p))) : FT Tryd.prog 48 [.ptr j g 0, .int .u8 c] H (fun rv H' => rv = .bool (p c.toNat) ∧ H' = H) := by
  refine FTk hm Tryd.func48 c48_ok (Nat.le_of_ble_eq_true rfl) ?_
  have e := setOf_get p h0 h1
  simp (maxSteps := 3000000) [-List.length_flatten, -List.map_drop, -List.map_take, Function.comp_def, argsT, Opd.ev, Tm.get, put, ares, mapMo, ares1, snilP, bldParts, bslParts, putAt, AV.cells, AV.one, astore, aload, loadCs, callArgs, abin, abinInt, aapp, elems, appMore, appNone, preLen, aFa, aFld, apart, aExt, aPick, aNot, aLens, aEqa, cellsK, fitsA, LK.fitsA, leavesA, leafA, nilD, aNilc, aCint, aCid, alive, alen, alenOk, Rle, lePs, len_flat, c48, hH, aIarr, h0, h1, ↓e]
theorem ext_data (s : ByteArray) (a b : Nat) : (s.extract a b).data = s.data.extract a b := by simp
theorem ext_ext (s : ByteArray) (a b c d : Nat) : (s.extract a b).extract c d = s.extract (a + c) (min (a + d) b) := by
  apply ByteArray.ext
  simp only [ext_data]
  rw [Array.extract_extract]
theorem ext_byte (s : ByteArray) (a b : Nat) (i : Nat) (h : a + i < min b s.size) : byte (s.extract a b) i = byte s ((a + i : Nat) : Int) := by
  unfold byte
  have h1 : i < (s.data.extract a b).size := by simp; omega
  have h2 : a + i < s.data.size := by simp; omega
  simp only [ext_data, Int.toNat_natCast, Array.getD, h1, h2, dif_pos]
  simp
theorem ext_size (s : ByteArray) (a b : Nat) : (s.extract a b).size = min b s.size - a := by simp
theorem ext_all (s : ByteArray) : s.extract 0 s.size = s := by simp
/-- What is left of a text. -/
structure TrimR (p : Nat → Bool) (s : ByteArray) (k : Nat) : Prop where
  le : k ≤ s.size
  out : ∀ i : Nat, k ≤ i → i < s.size → p (byte s i).toNat = true
  fst : 0 < k → p (byte s ((k - 1 : Nat) : Int)).toNat = false
structure TrimL (p : Nat → Bool) (s : ByteArray) (k : Nat) : Prop where
  le : k ≤ s.size
  out : ∀ i : Nat, i < k → p (byte s i).toNat = true
  fst : k < s.size → p (byte s k).toNat = false
theorem c44_ok : cFn Tryd.prog an0 Tryd.f44 = some c44 := by kernel_rfl
theorem trimR_FT (s : ByteArray) (j g : Nat) (p : Nat → Bool) (H : AHeap) (hs : s.size ≤ maxA) (hH : H[j]? = some (.cells g (setOf p))) (hR : ∀ b ∈ H, RLB H.length b) :
    FT Tryd.prog 44 [.str s, .ptr j g 0] H (fun rv H' => (∃ k, TrimR p s k ∧ rv = .str (s.extract 0 k)) ∧ H' = H) := by
  refine FTk hm Tryd.func44 c44_ok (Nat.le_of_ble_eq_true rfl) ?_
  have hj := lt_of_get hH
  simp (maxSteps := 3000000) [-List.length_flatten, -List.map_drop, -List.map_take, Function.comp_def, argsT, Opd.ev, Tm.get, put, ares, mapMo, ares1, snilP, bldParts, bslParts, putAt, AV.cells, AV.one, astore, aload, loadCs, callArgs, abin, abinInt, aapp, elems, appMore, appNone, preLen, aFa, aFld, apart, aExt, aPick, aNot, aLens, aEqa, cellsK, fitsA, LK.fitsA, leavesA, leafA, nilD, aNilc, aCint, aCid, alive, alen, alenOk, Rle, lePs, len_flat, c44]
  refine run_loopK (fun m T H1 => ∃ k : Nat, m = k ∧ k ≤ s.size ∧ (∀ i : Nat, k ≤ i → i < s.size → p (byte s i).toNat = true) ∧ T = [(0, .str (s.extract 0 k)), (1, .ptr j g 0)] ∧ H1 = H) s.size [(0, .str s), (1, .ptr j g 0)] H
    (Wk.to H.length (by omega) (by simp [Tm.get]) (by simp [hj]) (by simp) hR) ⟨s.size, rfl, by omega, fun i h1 h2 => by omega, by simp, rfl⟩ ?_
  rintro m T H1 ⟨k, rfl, hk, hout, rfl, rfl⟩ KK kx kr kn
  have hsz : (s.extract 0 m).size = m := by rw [ext_size]; omega
  by_cases h0 : 0 < m
  · have hb := byte_range s ((m - 1 : Nat) : Int)
    have eb : byte (s.extract 0 m) ((m - 1 : Nat) : Int) = byte s ((m - 1 : Nat) : Int) := by
      rw [ext_byte s 0 m (m - 1) (by omega)]
      simp
    have hw : IntKind.i64.wrap ((m : Int) - 1) = ((m - 1 : Nat) : Int) := by
      unfold maxA at hs
      rw [w64 (by omega) (by omega)]
      omega
    have hlt : ((m - 1 : Nat) : Int) < (m : Int) := by omega
    have hnn : (0 : Int) ≤ ((m - 1 : Nat) : Int) := by omega
    have hle : ((m - 1 : Nat) : Int) ≤ (m : Int) := by omega
    simp (maxSteps := 3000000) [-List.length_flatten, -List.map_drop, -List.map_take, Function.comp_def, argsT, Opd.ev, Tm.get, put, ares, mapMo, ares1, snilP, bldParts, bslParts, putAt, AV.cells, AV.one, astore, aload, loadCs, callArgs, abin, abinInt, aapp, elems, appMore, appNone, preLen, aFa, aFld, apart, aExt, aPick, aNot, aLens, aEqa, cellsK, fitsA, LK.fitsA, leavesA, leafA, nilD, aNilc, aCint, aCid, alive, alen, alenOk, Rle, lePs, len_flat, hsz, h0, hw, hlt, hnn, eb]
    intro _
    refine FT.mono (contains_FT j g p (byte s ((m - 1 : Nat) : Int)) H1 hb.1 hb.2 hH) ?_
    rintro rv H' ⟨rfl, rfl⟩
    by_cases hp : p (byte s ((m - 1 : Nat) : Int)).toNat = true
    · have hm1 : m - 1 ≤ m := by omega
      simp (maxSteps := 3000000) [-List.length_flatten, -List.map_drop, -List.map_take, Function.comp_def, argsT, Opd.ev, Tm.get, put, ares, mapMo, ares1, snilP, bldParts, bslParts, putAt, AV.cells, AV.one, astore, aload, loadCs, callArgs, abin, abinInt, aapp, elems, appMore, appNone, preLen, aFa, aFld, apart, aExt, aPick, aNot, aLens, aEqa, cellsK, fitsA, LK.fitsA, leavesA, leafA, nilD, aNilc, aCint, aCid, alive, alen, alenOk, Rle, lePs, len_flat, Kc, hp, hsz, hw, hle, hnn, hm1, aSlstr, abound, aint, ext_ext]
      intro _
      refine kn _ _ ⟨m - 1, _, _, by omega, Wk.to (List.length H') (by omega) ?_ ?_ (by simp) hR, ⟨m - 1, rfl, by omega, fun i h1 h2 => ?_, rfl, rfl⟩⟩
      · simp [Tm.get, show min (m - 1) m = m - 1 by omega]
      · simp [hj]
      · by_cases hi : i = m - 1
        · rw [hi]; exact hp
        · exact hout i (by omega) h2
    · simp (maxSteps := 3000000) [-List.length_flatten, -List.map_drop, -List.map_take, Function.comp_def, argsT, Opd.ev, Tm.get, put, ares, mapMo, ares1, snilP, bldParts, bslParts, putAt, AV.cells, AV.one, astore, aload, loadCs, callArgs, abin, abinInt, aapp, elems, appMore, appNone, preLen, aFa, aFld, apart, aExt, aPick, aNot, aLens, aEqa, cellsK, fitsA, LK.fitsA, leavesA, leafA, nilD, aNilc, aCint, aCid, alive, alen, alenOk, Rle, lePs, len_flat, Kc, hp, kx]
      exact ⟨m, ⟨hk, hout, fun _ => by simpa using hp⟩, rfl⟩
  · simp (maxSteps := 3000000) [-List.length_flatten, -List.map_drop, -List.map_take, Function.comp_def, argsT, Opd.ev, Tm.get, put, ares, mapMo, ares1, snilP, bldParts, bslParts, putAt, AV.cells, AV.one, astore, aload, loadCs, callArgs, abin, abinInt, aapp, elems, appMore, appNone, preLen, aFa, aFld, apart, aExt, aPick, aNot, aLens, aEqa, cellsK, fitsA, LK.fitsA, leavesA, leafA, nilD, aNilc, aCint, aCid, alive, alen, alenOk, Rle, lePs, len_flat, hsz, h0, kx]
    intro _
    exact ⟨m, ⟨hk, hout, fun h => absurd h h0⟩, rfl⟩
theorem c43_ok : cFn Tryd.prog an0 Tryd.f43 = some c43 := by kernel_rfl
theorem trimL_FT (s : ByteArray) (j g : Nat) (p : Nat → Bool) (H : AHeap) (hs : s.size ≤ maxA) (hH : H[j]? = some (.cells g (setOf p))) (hR : ∀ b ∈ H, RLB H.length b) :
    FT Tryd.prog 43 [.str s, .ptr j g 0] H (fun rv H' => (∃ k, TrimL p s k ∧ rv = .str (s.extract k s.size)) ∧ H' = H) := by
  refine FTk hm Tryd.func43 c43_ok (Nat.le_of_ble_eq_true rfl) ?_
  have hj := lt_of_get hH
  simp (maxSteps := 3000000) [-List.length_flatten, -List.map_drop, -List.map_take, Function.comp_def, argsT, Opd.ev, Tm.get, put, ares, mapMo, ares1, snilP, bldParts, bslParts, putAt, AV.cells, AV.one, astore, aload, loadCs, callArgs, abin, abinInt, aapp, elems, appMore, appNone, preLen, aFa, aFld, apart, aExt, aPick, aNot, aLens, aEqa, cellsK, fitsA, LK.fitsA, leavesA, leafA, nilD, aNilc, aCint, aCid, alive, alen, alenOk, Rle, lePs, len_flat, c43]
  refine run_loopK (fun m T H1 => ∃ k : Nat, m = s.size - k ∧ k ≤ s.size ∧ (∀ i : Nat, i < k → p (byte s i).toNat = true) ∧ T = [(0, .str (s.extract k s.size)), (1, .ptr j g 0)] ∧ H1 = H) s.size [(0, .str s), (1, .ptr j g 0)] H
    (Wk.to H.length (by omega) (by simp [Tm.get]) (by simp [hj]) (by simp) hR) ⟨0, by simp, by omega, fun i h1 => by omega, by simp, rfl⟩ ?_
  rintro m T H1 ⟨k, rfl, hk, hout, rfl, rfl⟩ KK kx kr kn
  have hsz : (s.extract k s.size).size = s.size - k := by rw [ext_size]; omega
  by_cases h0 : k < s.size
  · have hb := byte_range s (k : Int)
    have eb : byte (s.extract k s.size) 0 = byte s (k : Int) := by
      have := ext_byte s k s.size 0 (by omega)
      simpa using this
    have h1 : 0 < s.size - k := by omega
    have h1' : (0 : Int) < ((s.size - k : Nat) : Int) := by omega
    have h2 : (1 : Int) ≤ ((s.size - k : Nat) : Int) := by omega
    simp (maxSteps := 3000000) [-List.length_flatten, -List.map_drop, -List.map_take, Function.comp_def, argsT, Opd.ev, Tm.get, put, ares, mapMo, ares1, snilP, bldParts, bslParts, putAt, AV.cells, AV.one, astore, aload, loadCs, callArgs, abin, abinInt, aapp, elems, appMore, appNone, preLen, aFa, aFld, apart, aExt, aPick, aNot, aLens, aEqa, cellsK, fitsA, LK.fitsA, leavesA, leafA, nilD, aNilc, aCint, aCid, alive, alen, alenOk, Rle, lePs, len_flat, hsz, h1, h1', eb]
    intro _
    refine FT.mono (contains_FT j g p (byte s (k : Int)) H1 hb.1 hb.2 hH) ?_
    rintro rv H' ⟨rfl, rfl⟩
    by_cases hp : p (byte s (k : Int)).toNat = true
    · simp (maxSteps := 3000000) [-List.length_flatten, -List.map_drop, -List.map_take, Function.comp_def, argsT, Opd.ev, Tm.get, put, ares, mapMo, ares1, snilP, bldParts, bslParts, putAt, AV.cells, AV.one, astore, aload, loadCs, callArgs, abin, abinInt, aapp, elems, appMore, appNone, preLen, aFa, aFld, apart, aExt, aPick, aNot, aLens, aEqa, cellsK, fitsA, LK.fitsA, leavesA, leafA, nilD, aNilc, aCint, aCid, alive, alen, alenOk, Rle, lePs, len_flat, Kc, hp, hsz, h2, aSlstr, abound, aint, ext_ext]
      refine kn _ _ ⟨s.size - (k + 1), _, _, by omega, Wk.to (List.length H') (by omega) ?_ ?_ (by simp) hR, ⟨k + 1, rfl, by omega, fun i h1 => ?_, rfl, rfl⟩⟩
      · simp [Tm.get, show min (k + (s.size - k)) s.size = s.size by omega]
      · simp [hj]
      · by_cases hi : i = k
        · rw [hi]; exact hp
        · exact hout i (by omega)
    · simp (maxSteps := 3000000) [-List.length_flatten, -List.map_drop, -List.map_take, Function.comp_def, argsT, Opd.ev, Tm.get, put, ares, mapMo, ares1, snilP, bldParts, bslParts, putAt, AV.cells, AV.one, astore, aload, loadCs, callArgs, abin, abinInt, aapp, elems, appMore, appNone, preLen, aFa, aFld, apart, aExt, aPick, aNot, aLens, aEqa, cellsK, fitsA, LK.fitsA, leavesA, leafA, nilD, aNilc, aCint, aCid, alive, alen, alenOk, Rle, lePs, len_flat, Kc, hp, kx]
      exact ⟨k, ⟨hk, hout, fun _ => by simpa using hp⟩, rfl⟩
  · have hz : s.size - k = 0 := by omega
    simp (maxSteps := 3000000) [-List.length_flatten, -List.map_drop, -List.map_take, Function.comp_def, argsT, Opd.ev, Tm.get, put, ares, mapMo, ares1, snilP, bldParts, bslParts, putAt, AV.cells, AV.one, astore, aload, loadCs, callArgs, abin, abinInt, aapp, elems, appMore, appNone, preLen, aFa, aFld, apart, aExt, aPick, aNot, aLens, aEqa, cellsK, fitsA, LK.fitsA, leavesA, leafA, nilD, aNilc, aCint, aCid, alive, alen, alenOk, Rle, lePs, len_flat, hsz, hz, kx]
    exact ⟨k, ⟨hk, hout, fun h => absurd h h0⟩, rfl⟩
abbrev CS : ByteArray := ⟨#[43, 45, 61]⟩
theorem cs_set (k : Nat) : inS CS 3 k = true ↔ argOk k := by
  have e : inS CS 3 k = (decide ((43 : Int) = k) || (decide ((45 : Int) = k) || decide ((61 : Int) = k))) := by
    have : List.range 3 = [0, 1, 2] := rfl
    simp only [inS, this, List.any_cons, List.any_nil, Bool.or_false]
    rfl
  rw [e]
  simp only [Bool.or_eq_true, decide_eq_true_eq, argOk]
  omega
theorem c35_ok : cFn Tryd.prog an0 Tryd.f35 = some c35 := by kernel_rfl
theorem trim_FT (s : ByteArray) (hs : s.size ≤ maxA) : FT Tryd.prog 35 [.str s, .str CS] [] (fun rv H' => (∃ t, rv = .str t ∧ (t = ⟨#[]⟩ ↔ ∀ i : Nat, i < s.size → argOk (byte s i))) ∧ H' = []) := by
  refine FTt hm Tryd.func35 c35_ok (Nat.le_of_ble_eq_true rfl) ?_
  have csz : CS.size = 3 := rfl
  have cne : ¬ CS = ⟨#[]⟩ := by
    intro h
    have := congrArg ByteArray.size h
    rw [csz] at this
    cases this
  by_cases h0 : s = ⟨#[]⟩
  · subst h0
    simp (maxSteps := 3000000) [-List.length_flatten, -List.map_drop, -List.map_take, Function.comp_def, argsT, Opd.ev, Tm.get, put, ares, mapMo, ares1, snilP, bldParts, bslParts, putAt, AV.cells, AV.one, astore, aload, loadCs, callArgs, abin, abinInt, aapp, elems, appMore, appNone, preLen, aFa, aFld, apart, aExt, aPick, aNot, aLens, aEqa, cellsK, fitsA, LK.fitsA, leavesA, leafA, nilD, aNilc, aCint, aCid, alive, alen, alenOk, Rle, lePs, len_flat, c35]
    intro i hi
    cases hi
  · have mset := makeSet_PF CS (Nat.le_of_ble_eq_true rfl) (fun i hi => by
      have : i < 3 := hi
      match i, this with
      | 0, _ => decide
      | 1, _ => decide
      | 2, _ => decide)
    rw [csz] at mset
    generalize hp : inS CS 3 = p at mset
    simp (maxSteps := 3000000) [-List.length_flatten, -List.map_drop, -List.map_take, Function.comp_def, argsT, Opd.ev, Tm.get, put, ares, mapMo, ares1, snilP, bldParts, bslParts, putAt, AV.cells, AV.one, astore, aload, loadCs, callArgs, abin, abinInt, aapp, elems, appMore, appNone, preLen, aFa, aFld, apart, aExt, aPick, aNot, aLens, aEqa, cellsK, fitsA, LK.fitsA, leavesA, leafA, nilD, aNilc, aCint, aCid, alive, alen, alenOk, Rle, lePs, len_flat, c35, h0, cne, csz]
    refine PF.call mset 9 (by simp [lePs]) ?_
    simp (maxSteps := 3000000) [-List.length_flatten, -List.map_drop, -List.map_take, Function.comp_def, argsT, Opd.ev, Tm.get, put, ares, mapMo, ares1, snilP, bldParts, bslParts, putAt, AV.cells, AV.one, astore, aload, loadCs, callArgs, abin, abinInt, aapp, elems, appMore, appNone, preLen, aFa, aFld, apart, aExt, aPick, aNot, aLens, aEqa, cellsK, fitsA, LK.fitsA, leavesA, leafA, nilD, aNilc, aCint, aCid, alive, alen, alenOk, Rle, lePs, len_flat, Kc, setOf_len, setOf_one, putAt_same, setOf_ff]
    refine FT.mono (trimR_FT s 0 0 p _ hs rfl (by simp only [List.mem_singleton, forall_eq]; exact setOf_RL _ _)) ?_
    rintro rv H' ⟨⟨k, hk, rfl⟩, rfl⟩
    simp (maxSteps := 3000000) [-List.length_flatten, -List.map_drop, -List.map_take, Function.comp_def, argsT, Opd.ev, Tm.get, put, ares, mapMo, ares1, snilP, bldParts, bslParts, putAt, AV.cells, AV.one, astore, aload, loadCs, callArgs, abin, abinInt, aapp, elems, appMore, appNone, preLen, aFa, aFld, apart, aExt, aPick, aNot, aLens, aEqa, cellsK, fitsA, LK.fitsA, leavesA, leafA, nilD, aNilc, aCint, aCid, alive, alen, alenOk, Rle, lePs, len_flat, Kc]
    have hsz : (s.extract 0 k).size = k := by rw [ext_size]; have := hk.le; omega
    refine FT.mono (trimL_FT (s.extract 0 k) 0 0 p _ (by rw [hsz]; have := hk.le; omega) rfl (by simp only [List.mem_singleton, forall_eq]; exact setOf_RL _ _)) ?_
    rintro rv H' ⟨⟨m, hm, rfl⟩, rfl⟩
    simp (maxSteps := 3000000) [-List.length_flatten, -List.map_drop, -List.map_take, Function.comp_def, argsT, Opd.ev, Tm.get, put, ares, mapMo, ares1, snilP, bldParts, bslParts, putAt, AV.cells, AV.one, astore, aload, loadCs, callArgs, abin, abinInt, aapp, elems, appMore, appNone, preLen, aFa, aFld, apart, aExt, aPick, aNot, aLens, aEqa, cellsK, fitsA, LK.fitsA, leavesA, leafA, nilD, aNilc, aCint, aCid, alive, alen, alenOk, Rle, lePs, len_flat, Kc]
    have hbk : ∀ i : Nat, i < k → byte (s.extract 0 k) i = byte s i := fun i hi => by
      rw [ext_byte s 0 k i (by have := hk.le; omega)]
      simp
    have hpa : ∀ i : Nat, p (byte s i).toNat = true ↔ argOk (byte s i) := fun i => by
      rw [← hp, cs_set, Int.toNat_of_nonneg (byte_range s i).1]
    have emp : ∀ t : ByteArray, t = ⟨#[]⟩ ↔ t.size = 0 := fun t => by
      constructor
      · intro h; rw [h]; rfl
      · intro h
        apply ByteArray.ext
        exact Array.eq_empty_of_size_eq_zero h
    have hml := hm.le
    rw [hsz] at hml
    refine (emp _).trans ?_
    rw [ext_size, hsz]
    constructor
    · intro h i hi
      rw [← hpa]
      by_cases hik : i < k
      · have := hm.out i (by omega)
        rwa [hbk i hik] at this
      · exact hk.out i (by omega) hi
    · intro h
      have hk0 : k = 0 := by
        apply Classical.byContradiction
        intro hn
        have h1 := hk.fst (by omega)
        have h2 := (hpa (k - 1)).2 (h (k - 1) (by have := hk.le; omega))
        rw [h1] at h2
        cases h2
      omega
theorem c23_ok : cFn Tryd.prog an0 Tryd.f23 = some c23 := by kernel_rfl
theorem parts_PF (s : ByteArray) : PF Tryd.prog 23 [.str s] (.bool (argsOk s)) := by
  refine PFk 9 hm Tryd.func23 c23_ok (Nat.le_of_ble_eq_true rfl) (by simp) (by simp) ?_
  by_cases h8 : s.size ≤ 8
  · have h8' : (s.size : Int) ≤ 8 := by omega
    simp (maxSteps := 3000000) [-List.length_flatten, -List.map_drop, -List.map_take, Function.comp_def, argsT, Opd.ev, Tm.get, put, ares, mapMo, ares1, snilP, bldParts, bslParts, putAt, AV.cells, AV.one, astore, aload, loadCs, callArgs, abin, abinInt, aapp, elems, appMore, appNone, preLen, aFa, aFld, apart, aExt, aPick, aNot, aLens, aEqa, cellsK, fitsA, LK.fitsA, leavesA, leafA, nilD, aNilc, aCint, aCid, alive, alen, alenOk, Rle, lePs, len_flat, c23, h8']
    intro _
    refine FT.mono (trim_FT s (by unfold maxA; omega)) ?_
    rintro rv H' ⟨⟨t, rfl, ht⟩, rfl⟩
    simp (maxSteps := 3000000) [-List.length_flatten, -List.map_drop, -List.map_take, Function.comp_def, argsT, Opd.ev, Tm.get, put, ares, mapMo, ares1, snilP, bldParts, bslParts, putAt, AV.cells, AV.one, astore, aload, loadCs, callArgs, abin, abinInt, aapp, elems, appMore, appNone, preLen, aFa, aFld, apart, aExt, aPick, aNot, aLens, aEqa, cellsK, fitsA, LK.fitsA, leavesA, leafA, nilD, aNilc, aCint, aCid, alive, alen, alenOk, Rle, lePs, len_flat, Kc]
    simp [argsOk, h8, ht]
  · have h8' : ¬ (s.size : Int) ≤ 8 := by omega
    simp (maxSteps := 3000000) [-List.length_flatten, -List.map_drop, -List.map_take, Function.comp_def, argsT, Opd.ev, Tm.get, put, ares, mapMo, ares1, snilP, bldParts, bslParts, putAt, AV.cells, AV.one, astore, aload, loadCs, callArgs, abin, abinInt, aapp, elems, appMore, appNone, preLen, aFa, aFld, apart, aExt, aPick, aNot, aLens, aEqa, cellsK, fitsA, LK.fitsA, leavesA, leafA, nilD, aNilc, aCint, aCid, alive, alen, alenOk, Rle, lePs, len_flat, c23, h8']
    simp [argsOk, h8]
end Go.AM

namespace Go.AM
open Go.Proofs
set_option maxRecDepth 100000
set_option linter.unusedVariables false
set_option linter.unusedSimpArgs false
abbrev sgc (s : Sg) : List AV := [.str s.name, .str s.args]
theorem c24_ok : cFn Tryd.prog an0 Tryd.f24 = some c24 := by kernel_rfl
theorem clip_PF (l : List Sg) : PF Tryd.prog 24 [sigs l] (.rows true 2 (l.map sgc)) := by
  refine PFk 9 hm Tryd.func24 c24_ok (Nat.le_of_ble_eq_true rfl) (by simp) (by simp) ?_
  simp (maxSteps := 3000000) [-List.length_flatten, -List.map_drop, -List.map_take, Function.comp_def, argsT, Opd.ev, Tm.get, put, ares, mapMo, ares1, snilP, bldParts, bslParts, putAt, AV.cells, AV.one, astore, aload, loadCs, callArgs, abin, abinInt, aapp, elems, appMore, appNone, preLen, aFa, aFld, apart, aExt, aPick, aNot, aLens, aEqa, cellsK, fitsA, LK.fitsA, leavesA, leafA, nilD, aNilc, aCint, aCid, alive, alen, alenOk, Rle, lePs, len_flat, c24, aSlc, aint]
  intro _
  rw [List.take_of_length_le (by simp)]
  simp
def addOf (l : List Sg) (s : Sg) : List Sg × Int :=
  if conOk s.name = false then (l, 3)
  else if argsOk s.args = false then (l, 1)
  else if 0 ≤ fstAt (fun x => decide (x.name = s.name)) l then (l, 4)
  else if 64 ≤ l.length then (l, 7)
  else (l ++ [s], 0)
theorem c11_ok : cFn Tryd.prog an0 Tryd.f11 = some c11 := by kernel_rfl
theorem sadd_PF (l : List Sg) (s : Sg) : PF Tryd.prog 11 [sigs l, .agg (sgc s)] (.tuple [sigs (addOf l s).1, i64 (addOf l s).2]) := by
  refine PFk 9 hm Tryd.func11 c11_ok (Nat.le_of_ble_eq_true rfl) (by simp) (by simp) ?_
  simp (maxSteps := 3000000) [-List.length_flatten, -List.map_drop, -List.map_take, Function.comp_def, argsT, Opd.ev, Tm.get, put, ares, mapMo, ares1, snilP, bldParts, bslParts, putAt, AV.cells, AV.one, astore, aload, loadCs, callArgs, abin, abinInt, aapp, elems, appMore, appNone, preLen, aFa, aFld, apart, aExt, aPick, aNot, aLens, aEqa, cellsK, fitsA, LK.fitsA, leavesA, leafA, nilD, aNilc, aCint, aCid, alive, alen, alenOk, Rle, lePs, len_flat, c11]
  refine PF.call (isCon_PF s.name) 9 (by simp [lePs]) ?_
  rw [conOk_named]
  by_cases h1 : conOk s.name = true
  · simp (maxSteps := 3000000) [-List.length_flatten, -List.map_drop, -List.map_take, Function.comp_def, argsT, Opd.ev, Tm.get, put, ares, mapMo, ares1, snilP, bldParts, bslParts, putAt, AV.cells, AV.one, astore, aload, loadCs, callArgs, abin, abinInt, aapp, elems, appMore, appNone, preLen, aFa, aFld, apart, aExt, aPick, aNot, aLens, aEqa, cellsK, fitsA, LK.fitsA, leavesA, leafA, nilD, aNilc, aCint, aCid, alive, alen, alenOk, Rle, lePs, len_flat, Kc, h1]
    refine PF.call (parts_PF s.args) 9 (by simp [lePs]) ?_
    by_cases h2 : argsOk s.args = true
    · simp (maxSteps := 3000000) [-List.length_flatten, -List.map_drop, -List.map_take, Function.comp_def, argsT, Opd.ev, Tm.get, put, ares, mapMo, ares1, snilP, bldParts, bslParts, putAt, AV.cells, AV.one, astore, aload, loadCs, callArgs, abin, abinInt, aapp, elems, appMore, appNone, preLen, aFa, aFld, apart, aExt, aPick, aNot, aLens, aEqa, cellsK, fitsA, LK.fitsA, leavesA, leafA, nilD, aNilc, aCint, aCid, alive, alen, alenOk, Rle, lePs, len_flat, Kc, h2]
      refine PF.call (sfind_PF l s.name) 9 (by simp [lePs]) ?_
      by_cases h3 : 0 ≤ fstAt (fun x => decide (x.name = s.name)) l
      · simp (maxSteps := 3000000) [-List.length_flatten, -List.map_drop, -List.map_take, Function.comp_def, argsT, Opd.ev, Tm.get, put, ares, mapMo, ares1, snilP, bldParts, bslParts, putAt, AV.cells, AV.one, astore, aload, loadCs, callArgs, abin, abinInt, aapp, elems, appMore, appNone, preLen, aFa, aFld, apart, aExt, aPick, aNot, aLens, aEqa, cellsK, fitsA, LK.fitsA, leavesA, leafA, nilD, aNilc, aCint, aCid, alive, alen, alenOk, Rle, lePs, len_flat, Kc, h3]
        simp [addOf, h1, h2, h3]
      · by_cases h4 : 64 ≤ l.length
        · have h4' : (64 : Int) ≤ (l.length : Int) := by omega
          simp (maxSteps := 3000000) [-List.length_flatten, -List.map_drop, -List.map_take, Function.comp_def, argsT, Opd.ev, Tm.get, put, ares, mapMo, ares1, snilP, bldParts, bslParts, putAt, AV.cells, AV.one, astore, aload, loadCs, callArgs, abin, abinInt, aapp, elems, appMore, appNone, preLen, aFa, aFld, apart, aExt, aPick, aNot, aLens, aEqa, cellsK, fitsA, LK.fitsA, leavesA, leafA, nilD, aNilc, aCint, aCid, alive, alen, alenOk, Rle, lePs, len_flat, Kc, h3, h4']
          simp [addOf, h1, h2, h3, h4]
        · have h4' : ¬ (64 : Int) ≤ (l.length : Int) := by omega
          have hA : l.length + 1 ≤ maxA := by unfold maxA; omega
          have hch : chunk 2 ((l.map sgc).flatten ++ [AV.str s.name, AV.str s.args]) (l.length + 1) = (l ++ [s]).map sgc := by
            have := chunk_flat (f := sgc) (sz := 2) (l := l ++ [s]) (by simp)
            simpa using this
          have hln : (l.map sgc).flatten.length = l.length * 2 := len_flat (f := sgc) (by simp)
          simp (maxSteps := 3000000) [-List.length_flatten, -List.map_drop, -List.map_take, Function.comp_def, argsT, Opd.ev, Tm.get, put, ares, mapMo, ares1, snilP, bldParts, bslParts, putAt, AV.cells, AV.one, astore, aload, loadCs, callArgs, abin, abinInt, aapp, elems, appMore, appNone, preLen, aFa, aFld, apart, aExt, aPick, aNot, aLens, aEqa, cellsK, fitsA, LK.fitsA, leavesA, leafA, nilD, aNilc, aCint, aCid, alive, alen, alenOk, Rle, lePs, len_flat, Kc, h3, h4']
          intro _
          refine ⟨_, clip_PF l, ?_⟩
          simp (maxSteps := 3000000) [-List.length_flatten, -List.map_drop, -List.map_take, Function.comp_def, argsT, Opd.ev, Tm.get, put, ares, mapMo, ares1, snilP, bldParts, bslParts, putAt, AV.cells, AV.one, astore, aload, loadCs, callArgs, abin, abinInt, aapp, elems, appMore, appNone, preLen, aFa, aFld, apart, aExt, aPick, aNot, aLens, aEqa, cellsK, fitsA, LK.fitsA, leavesA, leafA, nilD, aNilc, aCint, aCid, alive, alen, alenOk, Rle, lePs, len_flat, Kc, hA, hch, hln]
          intro _ _
          rw [if_pos (by omega)]
          simp [addOf, h1, h2, h3, h4]
    · simp (maxSteps := 3000000) [-List.length_flatten, -List.map_drop, -List.map_take, Function.comp_def, argsT, Opd.ev, Tm.get, put, ares, mapMo, ares1, snilP, bldParts, bslParts, putAt, AV.cells, AV.one, astore, aload, loadCs, callArgs, abin, abinInt, aapp, elems, appMore, appNone, preLen, aFa, aFld, apart, aExt, aPick, aNot, aLens, aEqa, cellsK, fitsA, LK.fitsA, leavesA, leafA, nilD, aNilc, aCint, aCid, alive, alen, alenOk, Rle, lePs, len_flat, Kc, h2]
      simp [addOf, h1, h2]
  · simp (maxSteps := 3000000) [-List.length_flatten, -List.map_drop, -List.map_take, Function.comp_def, argsT, Opd.ev, Tm.get, put, ares, mapMo, ares1, snilP, bldParts, bslParts, putAt, AV.cells, AV.one, astore, aload, loadCs, callArgs, abin, abinInt, aapp, elems, appMore, appNone, preLen, aFa, aFld, apart, aExt, aPick, aNot, aLens, aEqa, cellsK, fitsA, LK.fitsA, leavesA, leafA, nilD, aNilc, aCint, aCid, alive, alen, alenOk, Rle, lePs, len_flat, Kc, h1]
    simp [addOf, h1]
theorem find_le {l : List Sg} {i : Nat} (h : i < l.length) : fstAt (fun x => decide (x.name = (gi l i).name)) l ≤ i ∧ 0 ≤ fstAt (fun x => decide (x.name = (gi l i).name)) l := by
  have h0 : 0 ≤ fstAt (fun x => decide (x.name = (gi l i).name)) l := fstAt_neg.2 ⟨i, h, by simp⟩
  refine ⟨?_, h0⟩
  unfold fstAt at h0 ⊢
  split at h0
  · rename_i k hk
    rw [List.findIdx?_eq_some_iff_getElem] at hk
    obtain ⟨h1, h2, h3⟩ := hk
    apply Classical.byContradiction
    intro hn
    have := h3 i (by omega)
    simp [gi, List.getD, h] at this
  · omega
theorem sigOk_find {l : List Sg} {i : Nat} (h : i < l.length) : sigOk l i ↔ conOk (gi l i).name = true ∧ argsOk (gi l i).args = true ∧ fstAt (fun x => decide (x.name = (gi l i).name)) l = i := by
  have := find_le h
  unfold sigOk
  constructor
  · rintro ⟨h1, h2, h3⟩; exact ⟨h1, h2, by omega⟩
  · rintro ⟨h1, h2, h3⟩; exact ⟨h1, h2, by omega⟩
theorem c19_ok : cFn Tryd.prog an0 Tryd.f19 = some c19 := by kernel_rfl
theorem sright_PF (l : List Sg) : PF Tryd.prog 19 [sigs l] (.bool (sigRight l)) := by
  refine PFk 9 hm Tryd.func19 c19_ok (Nat.le_of_ble_eq_true rfl) (by simp) (by simp) ?_
  simp (maxSteps := 3000000) [-List.length_flatten, -List.map_drop, -List.map_take, Function.comp_def, argsT, Opd.ev, Tm.get, put, ares, mapMo, ares1, snilP, bldParts, bslParts, putAt, AV.cells, AV.one, astore, aload, loadCs, callArgs, abin, abinInt, aapp, elems, appMore, appNone, preLen, aFa, aFld, apart, aExt, aPick, aNot, aLens, aEqa, cellsK, fitsA, LK.fitsA, leavesA, leafA, nilD, aNilc, aCint, aCid, alive, alen, alenOk, Rle, lePs, len_flat, c19]
  intro ha
  refine run_countK l.length 7 [(6, i64 l.length), (5, sigs l), (0, sigs l)] [] (fun i => ∀ j : Nat, j < i → sigOk l j)
    (Wk.tell 0 (by omega) (by simp [Tm.get]) (by simp) rfl (by simp)) (fun j hj => by omega) ?_
  intro i hi hj KK kx kr kn
  by_cases h : i < l.length
  · have hso := sigOk_find h
    simp (maxSteps := 3000000) [-List.length_flatten, -List.map_drop, -List.map_take, Function.comp_def, argsT, Opd.ev, Tm.get, put, ares, mapMo, ares1, snilP, bldParts, bslParts, putAt, AV.cells, AV.one, astore, aload, loadCs, callArgs, abin, abinInt, aapp, elems, appMore, appNone, preLen, aFa, aFld, apart, aExt, aPick, aNot, aLens, aEqa, cellsK, fitsA, LK.fitsA, leavesA, leafA, nilD, aNilc, aCint, aCid, alive, alen, alenOk, Rle, lePs, len_flat, h]
    refine PF.call (isCon_PF (gi l i).name) 9 (by simp [lePs]) ?_
    rw [conOk_named]
    by_cases h1 : conOk (gi l i).name = true
    · simp (maxSteps := 3000000) [-List.length_flatten, -List.map_drop, -List.map_take, Function.comp_def, argsT, Opd.ev, Tm.get, put, ares, mapMo, ares1, snilP, bldParts, bslParts, putAt, AV.cells, AV.one, astore, aload, loadCs, callArgs, abin, abinInt, aapp, elems, appMore, appNone, preLen, aFa, aFld, apart, aExt, aPick, aNot, aLens, aEqa, cellsK, fitsA, LK.fitsA, leavesA, leafA, nilD, aNilc, aCint, aCid, alive, alen, alenOk, Rle, lePs, len_flat, Kc, h1]
      refine PF.call (parts_PF (gi l i).args) 9 (by simp [lePs]) ?_
      by_cases h2 : argsOk (gi l i).args = true
      · simp (maxSteps := 3000000) [-List.length_flatten, -List.map_drop, -List.map_take, Function.comp_def, argsT, Opd.ev, Tm.get, put, ares, mapMo, ares1, snilP, bldParts, bslParts, putAt, AV.cells, AV.one, astore, aload, loadCs, callArgs, abin, abinInt, aapp, elems, appMore, appNone, preLen, aFa, aFld, apart, aExt, aPick, aNot, aLens, aEqa, cellsK, fitsA, LK.fitsA, leavesA, leafA, nilD, aNilc, aCint, aCid, alive, alen, alenOk, Rle, lePs, len_flat, Kc, h2]
        refine PF.call (sfind_PF l (gi l i).name) 9 (by simp [lePs]) ?_
        by_cases h3 : fstAt (fun x => decide (x.name = (gi l i).name)) l = i
        · simp (maxSteps := 3000000) [-List.length_flatten, -List.map_drop, -List.map_take, Function.comp_def, argsT, Opd.ev, Tm.get, put, ares, mapMo, ares1, snilP, bldParts, bslParts, putAt, AV.cells, AV.one, astore, aload, loadCs, callArgs, abin, abinInt, aapp, elems, appMore, appNone, preLen, aFa, aFld, apart, aExt, aPick, aNot, aLens, aEqa, cellsK, fitsA, LK.fitsA, leavesA, leafA, nilD, aNilc, aCint, aCid, alive, alen, alenOk, Rle, lePs, len_flat, Kc, h3]
          refine kn _ _ (Kn_next 0 (by omega) (by omega) (fun j hl => ?_) (by simp [Tm.get, nxt h ha]) (by simp) rfl (by simp))
          rcases Nat.lt_or_ge j i with h4 | h4
          · exact hj j h4
          · have : j = i := by omega
            subst this
            exact hso.2 ⟨h1, h2, h3⟩
        · have e := sigBad h (fun hh => h3 (hso.1 hh).2.2)
          simp (maxSteps := 3000000) [-List.length_flatten, -List.map_drop, -List.map_take, Function.comp_def, argsT, Opd.ev, Tm.get, put, ares, mapMo, ares1, snilP, bldParts, bslParts, putAt, AV.cells, AV.one, astore, aload, loadCs, callArgs, abin, abinInt, aapp, elems, appMore, appNone, preLen, aFa, aFld, apart, aExt, aPick, aNot, aLens, aEqa, cellsK, fitsA, LK.fitsA, leavesA, leafA, nilD, aNilc, aCint, aCid, alive, alen, alenOk, Rle, lePs, len_flat, Kc, h3, kr, e]
      · have e := sigBad h (fun hh => h2 (hso.1 hh).2.1)
        simp (maxSteps := 3000000) [-List.length_flatten, -List.map_drop, -List.map_take, Function.comp_def, argsT, Opd.ev, Tm.get, put, ares, mapMo, ares1, snilP, bldParts, bslParts, putAt, AV.cells, AV.one, astore, aload, loadCs, callArgs, abin, abinInt, aapp, elems, appMore, appNone, preLen, aFa, aFld, apart, aExt, aPick, aNot, aLens, aEqa, cellsK, fitsA, LK.fitsA, leavesA, leafA, nilD, aNilc, aCint, aCid, alive, alen, alenOk, Rle, lePs, len_flat, Kc, h2, kr, e]
    · have e := sigBad h (fun hh => h1 (hso.1 hh).1)
      simp (maxSteps := 3000000) [-List.length_flatten, -List.map_drop, -List.map_take, Function.comp_def, argsT, Opd.ev, Tm.get, put, ares, mapMo, ares1, snilP, bldParts, bslParts, putAt, AV.cells, AV.one, astore, aload, loadCs, callArgs, abin, abinInt, aapp, elems, appMore, appNone, preLen, aFa, aFld, apart, aExt, aPick, aNot, aLens, aEqa, cellsK, fitsA, LK.fitsA, leavesA, leafA, nilD, aNilc, aCint, aCid, alive, alen, alenOk, Rle, lePs, len_flat, Kc, h1, kr, e]
  · have hall : ∀ i : Nat, i < l.length → sigOk l i := fun j hl => hj j (by omega)
    simp (maxSteps := 3000000) [-List.length_flatten, -List.map_drop, -List.map_take, Function.comp_def, argsT, Opd.ev, Tm.get, put, ares, mapMo, ares1, snilP, bldParts, bslParts, putAt, AV.cells, AV.one, astore, aload, loadCs, callArgs, abin, abinInt, aapp, elems, appMore, appNone, preLen, aFa, aFld, apart, aExt, aPick, aNot, aLens, aEqa, cellsK, fitsA, LK.fitsA, leavesA, leafA, nilD, aNilc, aCint, aCid, alive, alen, alenOk, Rle, lePs, len_flat, h, kx]
    intro _
    simp only [sigRight, decide_eq_true hall, Bool.true_and]
    refine decide_eq_decide.2 ?_
    omega
def ref1 : Sg := ⟨⟨#[114, 101, 102]⟩, ⟨#[43, 43, 45]⟩⟩
theorem c8_ok : cFn Tryd.prog an0 Tryd.f8 = some c8 := by kernel_rfl
theorem dshown_PF : PF Tryd.prog 8 [] (.bool true) := by
  refine PFk 9 hm Tryd.func8 c8_ok (Nat.le_of_ble_eq_true rfl) (by simp) (by simp) ?_
  have a1 := sadd_PF [] ref1
  have a2 := both_PF 45 45
  have a3 := sfind_PF [ref1] ⟨#[114, 101, 102]⟩
  have a4 := isCon_PF ⟨#[114, 101, 102]⟩
  have a5 := isVar_PF ⟨#[88, 49]⟩
  have a6 := sright_PF [ref1]
  rw [show addOf [] ref1 = ([ref1], 0) by decide] at a1
  rw [show bothOf 45 45 = 43 by decide] at a2
  rw [show fstAt (fun x : Sg => decide (x.name = ⟨#[114, 101, 102]⟩)) [ref1] = 0 by decide] at a3
  rw [show namedOk ⟨#[114, 101, 102]⟩ 97 122 = true by decide] at a4
  rw [show namedOk ⟨#[88, 49]⟩ 65 90 = true by decide] at a5
  rw [show sigRight [ref1] = true by decide] at a6
  simp (maxSteps := 3000000) [-List.length_flatten, -List.map_drop, -List.map_take, Function.comp_def, argsT, Opd.ev, Tm.get, put, ares, mapMo, ares1, snilP, bldParts, bslParts, putAt, AV.cells, AV.one, astore, aload, loadCs, callArgs, abin, abinInt, aapp, elems, appMore, appNone, preLen, aFa, aFld, apart, aExt, aPick, aNot, aLens, aEqa, cellsK, fitsA, LK.fitsA, leavesA, leafA, nilD, aNilc, aCint, aCid, alive, alen, alenOk, Rle, lePs, len_flat, c8]
  refine PF.call a1 9 (by simp [lePs, ref1]) ?_
  simp (maxSteps := 3000000) [-List.length_flatten, -List.map_drop, -List.map_take, Function.comp_def, argsT, Opd.ev, Tm.get, put, ares, mapMo, ares1, snilP, bldParts, bslParts, putAt, AV.cells, AV.one, astore, aload, loadCs, callArgs, abin, abinInt, aapp, elems, appMore, appNone, preLen, aFa, aFld, apart, aExt, aPick, aNot, aLens, aEqa, cellsK, fitsA, LK.fitsA, leavesA, leafA, nilD, aNilc, aCint, aCid, alive, alen, alenOk, Rle, lePs, len_flat, Kc]
  refine PF.call a2 9 (by simp [lePs]) ?_
  have m1 : 1 ≤ maxA := Nat.le_of_ble_eq_true rfl
  simp (maxSteps := 3000000) [-List.length_flatten, -List.map_drop, -List.map_take, Function.comp_def, argsT, Opd.ev, Tm.get, put, ares, mapMo, ares1, snilP, bldParts, bslParts, putAt, AV.cells, AV.one, astore, aload, loadCs, callArgs, abin, abinInt, aapp, elems, appMore, appNone, preLen, aFa, aFld, apart, aExt, aPick, aNot, aLens, aEqa, cellsK, fitsA, LK.fitsA, leavesA, leafA, nilD, aNilc, aCint, aCid, alive, alen, alenOk, Rle, lePs, len_flat, Kc, m1]
  refine PF.call a3 9 (by simp [lePs]) ?_
  simp (maxSteps := 3000000) [-List.length_flatten, -List.map_drop, -List.map_take, Function.comp_def, argsT, Opd.ev, Tm.get, put, ares, mapMo, ares1, snilP, bldParts, bslParts, putAt, AV.cells, AV.one, astore, aload, loadCs, callArgs, abin, abinInt, aapp, elems, appMore, appNone, preLen, aFa, aFld, apart, aExt, aPick, aNot, aLens, aEqa, cellsK, fitsA, LK.fitsA, leavesA, leafA, nilD, aNilc, aCint, aCid, alive, alen, alenOk, Rle, lePs, len_flat, Kc]
  refine PF.call a4 9 (by simp [lePs]) ?_
  simp (maxSteps := 3000000) [-List.length_flatten, -List.map_drop, -List.map_take, Function.comp_def, argsT, Opd.ev, Tm.get, put, ares, mapMo, ares1, snilP, bldParts, bslParts, putAt, AV.cells, AV.one, astore, aload, loadCs, callArgs, abin, abinInt, aapp, elems, appMore, appNone, preLen, aFa, aFld, apart, aExt, aPick, aNot, aLens, aEqa, cellsK, fitsA, LK.fitsA, leavesA, leafA, nilD, aNilc, aCint, aCid, alive, alen, alenOk, Rle, lePs, len_flat, Kc]
  refine PF.call a5 9 (by simp [lePs]) ?_
  simp (maxSteps := 3000000) [-List.length_flatten, -List.map_drop, -List.map_take, Function.comp_def, argsT, Opd.ev, Tm.get, put, ares, mapMo, ares1, snilP, bldParts, bslParts, putAt, AV.cells, AV.one, astore, aload, loadCs, callArgs, abin, abinInt, aapp, elems, appMore, appNone, preLen, aFa, aFld, apart, aExt, aPick, aNot, aLens, aEqa, cellsK, fitsA, LK.fitsA, leavesA, leafA, nilD, aNilc, aCint, aCid, alive, alen, alenOk, Rle, lePs, len_flat, Kc]
  refine PF.call a6 9 (by simp [lePs]) ?_
  simp (maxSteps := 3000000) [-List.length_flatten, -List.map_drop, -List.map_take, Function.comp_def, argsT, Opd.ev, Tm.get, put, ares, mapMo, ares1, snilP, bldParts, bslParts, putAt, AV.cells, AV.one, astore, aload, loadCs, callArgs, abin, abinInt, aapp, elems, appMore, appNone, preLen, aFa, aFld, apart, aExt, aPick, aNot, aLens, aEqa, cellsK, fitsA, LK.fitsA, leavesA, leafA, nilD, aNilc, aCint, aCid, alive, alen, alenOk, Rle, lePs, len_flat, Kc]
theorem both_comm (a b : Int) : bothOf a b = bothOf b a := by
  unfold bothOf known
  by_cases h1 : a = 43 ∨ a = 45 <;> by_cases h2 : b = 43 ∨ b = 45 <;> by_cases h3 : a = b <;> simp [h1, h2, h3, and_comm] <;> omega
theorem both_assoc (a b c : Int) : bothOf (bothOf a b) c = bothOf a (bothOf b c) := by
  unfold bothOf known
  by_cases h1 : a = 43 ∨ a = 45 <;> by_cases h2 : b = 43 ∨ b = 45 <;> by_cases h3 : c = 43 ∨ c = 45 <;> by_cases h4 : a = b <;> by_cases h5 : b = c <;> simp [h1, h2, h3, h4, h5] <;> omega
theorem both_minus (a : Int) : bothOf 45 (bothOf 45 a) = bothOf 43 a := by
  unfold bothOf known
  by_cases h1 : a = 43 <;> by_cases h2 : a = 45 <;> simp [h1, h2] <;> omega
theorem both_none (a : Int) : bothOf 61 a = 61 := by
  unfold bothOf known
  simp
theorem c5_ok : cFn Tryd.prog an0 Tryd.f5 = some c5 := by kernel_rfl
theorem law5_PF (a b c : Int) : PF Tryd.prog 5 [.int .u8 a, .int .u8 b, .int .u8 c] (.bool true) := by
  refine PFk 9 hm Tryd.func5 c5_ok (Nat.le_of_ble_eq_true rfl) (by simp) (by simp) ?_
  simp (maxSteps := 3000000) [-List.length_flatten, -List.map_drop, -List.map_take, Function.comp_def, argsT, Opd.ev, Tm.get, put, ares, mapMo, ares1, snilP, bldParts, bslParts, putAt, AV.cells, AV.one, astore, aload, loadCs, callArgs, abin, abinInt, aapp, elems, appMore, appNone, preLen, aFa, aFld, apart, aExt, aPick, aNot, aLens, aEqa, cellsK, fitsA, LK.fitsA, leavesA, leafA, nilD, aNilc, aCint, aCid, alive, alen, alenOk, Rle, lePs, len_flat, c5]
  refine PF.call dshown_PF 9 (by simp [lePs]) ?_
  simp (maxSteps := 3000000) [-List.length_flatten, -List.map_drop, -List.map_take, Function.comp_def, argsT, Opd.ev, Tm.get, put, ares, mapMo, ares1, snilP, bldParts, bslParts, putAt, AV.cells, AV.one, astore, aload, loadCs, callArgs, abin, abinInt, aapp, elems, appMore, appNone, preLen, aFa, aFld, apart, aExt, aPick, aNot, aLens, aEqa, cellsK, fitsA, LK.fitsA, leavesA, leafA, nilD, aNilc, aCint, aCid, alive, alen, alenOk, Rle, lePs, len_flat, Kc]
  refine PF.call (both_PF a b) 9 (by simp [lePs]) ?_
  simp (maxSteps := 3000000) [-List.length_flatten, -List.map_drop, -List.map_take, Function.comp_def, argsT, Opd.ev, Tm.get, put, ares, mapMo, ares1, snilP, bldParts, bslParts, putAt, AV.cells, AV.one, astore, aload, loadCs, callArgs, abin, abinInt, aapp, elems, appMore, appNone, preLen, aFa, aFld, apart, aExt, aPick, aNot, aLens, aEqa, cellsK, fitsA, LK.fitsA, leavesA, leafA, nilD, aNilc, aCint, aCid, alive, alen, alenOk, Rle, lePs, len_flat, Kc]
  refine PF.call (both_PF b a) 9 (by simp [lePs]) ?_
  have e1 := both_comm a b
  simp (maxSteps := 3000000) [-List.length_flatten, -List.map_drop, -List.map_take, Function.comp_def, argsT, Opd.ev, Tm.get, put, ares, mapMo, ares1, snilP, bldParts, bslParts, putAt, AV.cells, AV.one, astore, aload, loadCs, callArgs, abin, abinInt, aapp, elems, appMore, appNone, preLen, aFa, aFld, apart, aExt, aPick, aNot, aLens, aEqa, cellsK, fitsA, LK.fitsA, leavesA, leafA, nilD, aNilc, aCint, aCid, alive, alen, alenOk, Rle, lePs, len_flat, Kc, e1]
  refine PF.call (both_PF a b) 9 (by simp [lePs]) ?_
  simp (maxSteps := 3000000) [-List.length_flatten, -List.map_drop, -List.map_take, Function.comp_def, argsT, Opd.ev, Tm.get, put, ares, mapMo, ares1, snilP, bldParts, bslParts, putAt, AV.cells, AV.one, astore, aload, loadCs, callArgs, abin, abinInt, aapp, elems, appMore, appNone, preLen, aFa, aFld, apart, aExt, aPick, aNot, aLens, aEqa, cellsK, fitsA, LK.fitsA, leavesA, leafA, nilD, aNilc, aCint, aCid, alive, alen, alenOk, Rle, lePs, len_flat, Kc]
  refine PF.call (both_PF (bothOf a b) c) 9 (by simp [lePs]) ?_
  simp (maxSteps := 3000000) [-List.length_flatten, -List.map_drop, -List.map_take, Function.comp_def, argsT, Opd.ev, Tm.get, put, ares, mapMo, ares1, snilP, bldParts, bslParts, putAt, AV.cells, AV.one, astore, aload, loadCs, callArgs, abin, abinInt, aapp, elems, appMore, appNone, preLen, aFa, aFld, apart, aExt, aPick, aNot, aLens, aEqa, cellsK, fitsA, LK.fitsA, leavesA, leafA, nilD, aNilc, aCint, aCid, alive, alen, alenOk, Rle, lePs, len_flat, Kc]
  refine PF.call (both_PF b c) 9 (by simp [lePs]) ?_
  simp (maxSteps := 3000000) [-List.length_flatten, -List.map_drop, -List.map_take, Function.comp_def, argsT, Opd.ev, Tm.get, put, ares, mapMo, ares1, snilP, bldParts, bslParts, putAt, AV.cells, AV.one, astore, aload, loadCs, callArgs, abin, abinInt, aapp, elems, appMore, appNone, preLen, aFa, aFld, apart, aExt, aPick, aNot, aLens, aEqa, cellsK, fitsA, LK.fitsA, leavesA, leafA, nilD, aNilc, aCint, aCid, alive, alen, alenOk, Rle, lePs, len_flat, Kc]
  refine PF.call (both_PF a (bothOf b c)) 9 (by simp [lePs]) ?_
  have e2 := both_assoc a b c
  simp (maxSteps := 3000000) [-List.length_flatten, -List.map_drop, -List.map_take, Function.comp_def, argsT, Opd.ev, Tm.get, put, ares, mapMo, ares1, snilP, bldParts, bslParts, putAt, AV.cells, AV.one, astore, aload, loadCs, callArgs, abin, abinInt, aapp, elems, appMore, appNone, preLen, aFa, aFld, apart, aExt, aPick, aNot, aLens, aEqa, cellsK, fitsA, LK.fitsA, leavesA, leafA, nilD, aNilc, aCint, aCid, alive, alen, alenOk, Rle, lePs, len_flat, Kc, e2]
  refine PF.call (both_PF 45 a) 9 (by simp [lePs]) ?_
  simp (maxSteps := 3000000) [-List.length_flatten, -List.map_drop, -List.map_take, Function.comp_def, argsT, Opd.ev, Tm.get, put, ares, mapMo, ares1, snilP, bldParts, bslParts, putAt, AV.cells, AV.one, astore, aload, loadCs, callArgs, abin, abinInt, aapp, elems, appMore, appNone, preLen, aFa, aFld, apart, aExt, aPick, aNot, aLens, aEqa, cellsK, fitsA, LK.fitsA, leavesA, leafA, nilD, aNilc, aCint, aCid, alive, alen, alenOk, Rle, lePs, len_flat, Kc]
  refine PF.call (both_PF 45 (bothOf 45 a)) 9 (by simp [lePs]) ?_
  simp (maxSteps := 3000000) [-List.length_flatten, -List.map_drop, -List.map_take, Function.comp_def, argsT, Opd.ev, Tm.get, put, ares, mapMo, ares1, snilP, bldParts, bslParts, putAt, AV.cells, AV.one, astore, aload, loadCs, callArgs, abin, abinInt, aapp, elems, appMore, appNone, preLen, aFa, aFld, apart, aExt, aPick, aNot, aLens, aEqa, cellsK, fitsA, LK.fitsA, leavesA, leafA, nilD, aNilc, aCint, aCid, alive, alen, alenOk, Rle, lePs, len_flat, Kc]
  refine PF.call (both_PF 43 a) 9 (by simp [lePs]) ?_
  have e3 := both_minus a
  simp (maxSteps := 3000000) [-List.length_flatten, -List.map_drop, -List.map_take, Function.comp_def, argsT, Opd.ev, Tm.get, put, ares, mapMo, ares1, snilP, bldParts, bslParts, putAt, AV.cells, AV.one, astore, aload, loadCs, callArgs, abin, abinInt, aapp, elems, appMore, appNone, preLen, aFa, aFld, apart, aExt, aPick, aNot, aLens, aEqa, cellsK, fitsA, LK.fitsA, leavesA, leafA, nilD, aNilc, aCint, aCid, alive, alen, alenOk, Rle, lePs, len_flat, Kc, e3]
  refine PF.call (both_PF 61 a) 9 (by simp [lePs]) ?_
  have e4 := both_none a
  simp (maxSteps := 3000000) [-List.length_flatten, -List.map_drop, -List.map_take, Function.comp_def, argsT, Opd.ev, Tm.get, put, ares, mapMo, ares1, snilP, bldParts, bslParts, putAt, AV.cells, AV.one, astore, aload, loadCs, callArgs, abin, abinInt, aapp, elems, appMore, appNone, preLen, aFa, aFld, apart, aExt, aPick, aNot, aLens, aEqa, cellsK, fitsA, LK.fitsA, leavesA, leafA, nilD, aNilc, aCint, aCid, alive, alen, alenOk, Rle, lePs, len_flat, Kc, e4]
end Go.AM
