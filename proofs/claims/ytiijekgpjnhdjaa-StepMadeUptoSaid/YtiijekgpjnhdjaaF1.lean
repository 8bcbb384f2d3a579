/- Contracts of the program's functions. -/
import Derived.Test.YtiijekgpjnhdjaaProg
import Derived.Test.YtiijekgpjnhdjaaAm3
import Derived.KernelRfl
namespace Go.AM
open Go.Proofs
set_option maxRecDepth 100000
set_option linter.unusedVariables false
set_option linter.unusedSimpArgs false
def c66 : AFn := ⟨8, .seq (.reg false [⟨some 2, .mov (.lit .nilS), none⟩]) (.seq (.seq (.reg false [⟨some 3, .mov (.tmp 0), none⟩, ⟨some 4, .snil false (.tmp 3), none⟩]) (.cond (.tmp 4) (.seq (.reg false [⟨some 2, .mov (.lit .nilS), none⟩]) .ret) .skip)) (.seq (.reg false [⟨some 5, .bslice 1 0 [.int .i64 0] [], none⟩, ⟨some 6, .mov (.tmp 0), none⟩, ⟨some 7, .app 1 8 (.tmp 5) (.tmp 6), none⟩, ⟨some 2, .mov (.tmp 7), none⟩]) .ret)), [.tmp 2]⟩
def c55 : AFn := ⟨21, .seq (.reg false [⟨some 2, .alloc [.int .i64 0, .int .i64 0, .int .i64 0, .nilS], none⟩, ⟨some 3, .mov (.lit (.bool false)), none⟩]) (.seq (.seq (.reg false [⟨some 4, .mov (.tmp 0), none⟩, ⟨some 5, .len (.tmp 4), none⟩, ⟨some 6, .bin .lss (.tmp 5) (.lit (.int .i64 3)), none⟩]) (.cond (.tmp 6) (.seq (.reg false [⟨some 7, .build [.int .i64 0, .int .i64 0, .int .i64 0, .nilS] [], none⟩, ⟨none, .store 4 (.tmp 2) (.tmp 7), none⟩, ⟨some 3, .mov (.lit (.bool false)), none⟩]) .ret) .skip)) (.seq (.reg true [⟨some 8, .mov (.tmp 0), none⟩, ⟨some 9, .ia 1 (.tmp 8) (.lit (.int .i64 0)), none⟩, ⟨some 10, .load 1 false (.tmp 9), none⟩, ⟨some 11, .mov (.tmp 0), none⟩, ⟨some 12, .ia 1 (.tmp 11) (.lit (.int .i64 1)), none⟩, ⟨some 13, .load 1 false (.tmp 12), none⟩, ⟨some 14, .mov (.tmp 0), none⟩, ⟨some 15, .ia 1 (.tmp 14) (.lit (.int .i64 2)), none⟩, ⟨some 16, .load 1 false (.tmp 15), none⟩, ⟨some 17, .mov (.tmp 0), none⟩, ⟨some 18, .slc 1 (.tmp 17) (some (.lit (.int .i64 3))) none none, none⟩, ⟨some 19, .call (.lit (.fn (.func 66) [] [])) [.tmp 18], none⟩, ⟨some 20, .build [.int .i64 0, .int .i64 0, .int .i64 0, .nilS] [(0, 1, .tmp 10), (1, 1, .tmp 13), (2, 1, .tmp 16), (3, 1, .tmp 19)], none⟩, ⟨none, .store 4 (.tmp 2) (.tmp 20), none⟩, ⟨some 3, .mov (.lit (.bool true)), none⟩]) .ret)), [.cell 2 4 true, .tmp 3]⟩
def c27 : AFn := ⟨24, .seq (.reg false [⟨some 2, .box (.tmp 0), none⟩, ⟨some 4, .alloc [.int .i64 0, .int .i64 0, .int .i64 0, .nilS], none⟩, ⟨some 5, .mov (.lit (.bool false)), none⟩]) (.seq (.seq (.reg false [⟨some 6, .mov (.tmp 1), none⟩, ⟨some 7, .bin .lss (.tmp 6) (.lit (.int .i64 0)), none⟩, ⟨some 8, .mov (.tmp 7), none⟩, ⟨some 9, .mov (.tmp 1), some ((8, false))⟩, ⟨some 10, .fa 0 (.tmp 2), some ((8, false))⟩, ⟨some 11, .load 1 false (.tmp 10), some ((8, false))⟩, ⟨some 12, .len (.tmp 11), some ((8, false))⟩, ⟨some 13, .bin .geq (.tmp 9) (.tmp 12), some ((8, false))⟩, ⟨some 14, .pick (.tmp 8) (.lit (.bool true)) (.tmp 13), none⟩]) (.cond (.tmp 14) (.seq (.reg false [⟨some 15, .build [.int .i64 0, .int .i64 0, .int .i64 0, .nilS] [], none⟩, ⟨none, .store 4 (.tmp 4) (.tmp 15), none⟩, ⟨some 5, .mov (.lit (.bool false)), none⟩]) .ret) .skip)) (.seq (.reg false [⟨some 16, .fa 0 (.tmp 2), none⟩, ⟨some 17, .load 1 false (.tmp 16), none⟩, ⟨some 18, .mov (.tmp 1), none⟩, ⟨some 19, .ia 1 (.tmp 17) (.tmp 18), none⟩, ⟨some 20, .load 1 false (.tmp 19), none⟩, ⟨some 21, .call (.lit (.fn (.func 55) [] [])) [.tmp 20], none⟩, ⟨some 22, .ext (.tmp 21) 0, none⟩, ⟨some 23, .ext (.tmp 21) 1, none⟩, ⟨none, .store 4 (.tmp 4) (.tmp 22), none⟩, ⟨some 5, .mov (.tmp 23), none⟩]) .ret)), [.cell 4 4 true, .tmp 5]⟩
def c25 : AFn := ⟨36, .seq (.reg false [⟨some 5, .box (.tmp 1), none⟩, ⟨some 8, .alloc [.nilS, .int .i64 0, .int .i64 0, .int .i64 0, .int .i64 0, .int .i64 0, .nilS, .int .i64 0, .int .i64 0, .int .i64 0, .nilS], none⟩, ⟨some 9, .mov (.lit (.bool false)), none⟩]) (.seq (.reg false [⟨some 15, .load 2 true (.tmp 5), none⟩, ⟨some 16, .mov (.tmp 2), none⟩, ⟨some 17, .call (.lit (.fn (.func 27) [] [])) [.tmp 15, .tmp 16], none⟩, ⟨some 14, .mov (.tmp 17), none⟩, ⟨some 18, .ext (.tmp 14) 0, none⟩, ⟨some 19, .ext (.tmp 14) 1, none⟩, ⟨some 10, .alloc [.int .i64 0, .int .i64 0, .int .i64 0, .nilS], none⟩, ⟨none, .store 4 (.tmp 10) (.tmp 18), none⟩, ⟨some 11, .mov (.tmp 19), none⟩]) (.seq (.reg false [⟨some 21, .load 2 true (.tmp 5), none⟩, ⟨some 22, .mov (.tmp 3), none⟩, ⟨some 23, .call (.lit (.fn (.func 27) [] [])) [.tmp 21, .tmp 22], none⟩, ⟨some 20, .mov (.tmp 23), none⟩, ⟨some 24, .ext (.tmp 20) 0, none⟩, ⟨some 25, .ext (.tmp 20) 1, none⟩, ⟨some 12, .alloc [.int .i64 0, .int .i64 0, .int .i64 0, .nilS], none⟩, ⟨none, .store 4 (.tmp 12) (.tmp 24), none⟩, ⟨some 13, .mov (.tmp 25), none⟩]) (.seq (.reg false [⟨some 26, .mov (.tmp 0), none⟩, ⟨some 27, .mov (.tmp 2), none⟩, ⟨some 28, .mov (.tmp 3), none⟩, ⟨some 29, .load 4 true (.tmp 10), none⟩, ⟨some 30, .load 4 true (.tmp 12), none⟩, ⟨some 31, .build [.nilS, .int .i64 0, .int .i64 0, .int .i64 0, .int .i64 0, .int .i64 0, .nilS, .int .i64 0, .int .i64 0, .int .i64 0, .nilS] [(0, 1, .tmp 26), (1, 1, .tmp 27), (2, 1, .tmp 28), (3, 4, .tmp 29), (7, 4, .tmp 30)], none⟩, ⟨some 32, .mov (.tmp 11), none⟩, ⟨some 33, .mov (.tmp 32), none⟩, ⟨some 34, .mov (.tmp 13), some ((33, true))⟩, ⟨some 35, .pick (.tmp 33) (.tmp 34) (.lit (.bool false)), none⟩, ⟨none, .store 11 (.tmp 8) (.tmp 31), none⟩, ⟨some 9, .mov (.tmp 35), none⟩]) .ret))), [.cell 8 11 true, .tmp 9]⟩
theorem hm : Try.prog.follows .mixedOrders = true := by kernel_rfl
def an0 : An := ⟨[], []⟩
theorem c66_ok : cFn Try.prog an0 Try.f66 = some c66 := by kernel_rfl
theorem clone_PF (l : List Int) : PF Try.prog 66 [ints l] (ints l) := by
  refine PFk 9 hm Try.func66 c66_ok (Nat.le_of_ble_eq_true rfl) (by simp) (by simp) ?_
  simp (maxSteps := 3000000) [-List.length_flatten, -List.map_drop, -List.map_take, Function.comp_def, argsT, Opd.ev, Tm.get, put, ares, mapMo, ares1, snilP, bldParts, bslParts, putAt, AV.cells, AV.one, astore, aload, loadCs, callArgs, abin, abinInt, aapp, elems, appMore, appNone, preLen, aFa, aFld, apart, aExt, aPick, aNot, aLens, aEqa, cellsK, fitsA, LK.fitsA, leavesA, leafA, nilD, aNilc, aCint, aCid, alive, alen, alenOk, Rle, lePs, len_flat, c66]
  exact fun h _ => h
theorem c55_ok : cFn Try.prog an0 Try.f55 = some c55 := by kernel_rfl
theorem termof_PF (l : List Int) : PF Try.prog 55 [ints l] (.tuple [.agg (termOf l).1.cs, .bool (termOf l).2]) := by
  refine PFk 9 hm Try.func55 c55_ok (Nat.le_of_ble_eq_true rfl) (by simp) (by simp) ?_
  simp (maxSteps := 3000000) [-List.length_flatten, -List.map_drop, -List.map_take, Function.comp_def, argsT, Opd.ev, Tm.get, put, ares, mapMo, ares1, snilP, bldParts, bslParts, putAt, AV.cells, AV.one, astore, aload, loadCs, callArgs, abin, abinInt, aapp, elems, appMore, appNone, preLen, aFa, aFld, apart, aExt, aPick, aNot, aLens, aEqa, cellsK, fitsA, LK.fitsA, leavesA, leafA, nilD, aNilc, aCint, aCid, alive, alen, alenOk, Rle, lePs, len_flat, c55]
  intro h
  refine ⟨fun h1 => ?_, fun h1 => ⟨by omega, by omega, by omega, by omega, _, clone_PF _, ?_⟩⟩
  · have : l.length < 3 := by omega
    simp [termOf, this]
  · simp (maxSteps := 3000000) [-List.length_flatten, -List.map_drop, -List.map_take, Function.comp_def, argsT, Opd.ev, Tm.get, put, ares, mapMo, ares1, snilP, bldParts, bslParts, putAt, AV.cells, AV.one, astore, aload, loadCs, callArgs, abin, abinInt, aapp, elems, appMore, appNone, preLen, aFa, aFld, apart, aExt, aPick, aNot, aLens, aEqa, cellsK, fitsA, LK.fitsA, leavesA, leafA, nilD, aNilc, aCint, aCid, alive, alen, alenOk, Rle, lePs, len_flat, Kc]
    have : ¬ l.length < 3 := by omega
    simp [termOf, this]
theorem c27_ok : cFn Try.prog an0 Try.f27 = some c27 := by kernel_rfl
theorem termAt_PF (a : Kd) (id : Int) : PF Try.prog 27 [.agg a.cs, i64 id] (.tuple [.agg (termAt a id).1.cs, .bool (termAt a id).2]) := by
  refine PFk 9 hm Try.func27 c27_ok (Nat.le_of_ble_eq_true rfl) (by simp) (by simp) ?_
  simp (maxSteps := 3000000) [-List.length_flatten, -List.map_drop, -List.map_take, Function.comp_def, argsT, Opd.ev, Tm.get, put, ares, mapMo, ares1, snilP, bldParts, bslParts, putAt, AV.cells, AV.one, astore, aload, loadCs, callArgs, abin, abinInt, aapp, elems, appMore, appNone, preLen, aFa, aFld, apart, aExt, aPick, aNot, aLens, aEqa, cellsK, fitsA, LK.fitsA, leavesA, leafA, nilD, aNilc, aCint, aCid, alive, alen, alenOk, Rle, lePs, len_flat, c27]
  refine ⟨fun h0 => ?_, fun h0 hl => ⟨fun h1 => ?_, fun h1 => ⟨⟨h0, h1⟩, ?_⟩⟩⟩
  · simp [termAt, h0]
  · simp [termAt, h1]
  · refine PF.call (termof_PF (gi a.keys id)) 9 (by simp [lePs]) ?_
    simp (maxSteps := 3000000) [-List.length_flatten, -List.map_drop, -List.map_take, Function.comp_def, argsT, Opd.ev, Tm.get, put, ares, mapMo, ares1, snilP, bldParts, bslParts, putAt, AV.cells, AV.one, astore, aload, loadCs, callArgs, abin, abinInt, aapp, elems, appMore, appNone, preLen, aFa, aFld, apart, aExt, aPick, aNot, aLens, aEqa, cellsK, fitsA, LK.fitsA, leavesA, leafA, nilD, aNilc, aCint, aCid, alive, alen, alenOk, Rle, lePs, len_flat, Kc]
    have : ¬ (id < 0 ∨ id ≥ a.keys.length) := by omega
    simp [termAt, this]
theorem c25_ok : cFn Try.prog an0 Try.f25 = some c25 := by kernel_rfl
theorem of_PF (l : List Sg) (a : Kd) (x y : Int) : PF Try.prog 25 [sigs l, .agg a.cs, i64 x, i64 y]
    (.tuple [.agg ([sigs l, i64 x, i64 y] ++ (termAt a x).1.cs ++ (termAt a y).1.cs), .bool ((termAt a x).2 && (termAt a y).2)]) := by
  refine PFk 9 hm Try.func25 c25_ok (Nat.le_of_ble_eq_true rfl) (by simp) (by simp) ?_
  simp (maxSteps := 3000000) [-List.length_flatten, -List.map_drop, -List.map_take, Function.comp_def, argsT, Opd.ev, Tm.get, put, ares, mapMo, ares1, snilP, bldParts, bslParts, putAt, AV.cells, AV.one, astore, aload, loadCs, callArgs, abin, abinInt, aapp, elems, appMore, appNone, preLen, aFa, aFld, apart, aExt, aPick, aNot, aLens, aEqa, cellsK, fitsA, LK.fitsA, leavesA, leafA, nilD, aNilc, aCint, aCid, alive, alen, alenOk, Rle, lePs, len_flat, c25]
  refine PF.call (termAt_PF a x) 9 (by simp [lePs]) ?_
  simp (maxSteps := 3000000) [-List.length_flatten, -List.map_drop, -List.map_take, Function.comp_def, argsT, Opd.ev, Tm.get, put, ares, mapMo, ares1, snilP, bldParts, bslParts, putAt, AV.cells, AV.one, astore, aload, loadCs, callArgs, abin, abinInt, aapp, elems, appMore, appNone, preLen, aFa, aFld, apart, aExt, aPick, aNot, aLens, aEqa, cellsK, fitsA, LK.fitsA, leavesA, leafA, nilD, aNilc, aCint, aCid, alive, alen, alenOk, Rle, lePs, len_flat, Kc]
  refine PF.call (termAt_PF a y) 9 (by simp [lePs]) ?_
  simp (maxSteps := 3000000) [-List.length_flatten, -List.map_drop, -List.map_take, Function.comp_def, argsT, Opd.ev, Tm.get, put, ares, mapMo, ares1, snilP, bldParts, bslParts, putAt, AV.cells, AV.one, astore, aload, loadCs, callArgs, abin, abinInt, aapp, elems, appMore, appNone, preLen, aFa, aFld, apart, aExt, aPick, aNot, aLens, aEqa, cellsK, fitsA, LK.fitsA, leavesA, leafA, nilD, aNilc, aCint, aCid, alive, alen, alenOk, Rle, lePs, len_flat, Kc]
  cases (termAt a x).2 <;> simp
end Go.AM

namespace Go.AM
open Go.Proofs
set_option maxRecDepth 100000
set_option linter.unusedVariables false
set_option linter.unusedSimpArgs false
def c63 : AFn := ⟨26, .seq (.reg false [⟨some 4, .mov (.lit (.bool false)), none⟩]) (.seq (.seq (.reg false [⟨some 6, .mov (.tmp 0), none⟩, ⟨some 7, .len (.tmp 6), none⟩, ⟨some 8, .mov (.tmp 1), none⟩, ⟨some 9, .len (.tmp 8), none⟩, ⟨some 10, .bin .neq (.tmp 7) (.tmp 9), none⟩]) (.cond (.tmp 10) (.seq (.reg false [⟨some 4, .mov (.lit (.bool false)), none⟩]) .ret) .skip)) (.seq (.seq (.reg false [⟨some 5, .mov (.lit (.int .i64 0)), none⟩]) (.block 0 (.loop (.seq (.seq (.reg false [⟨some 11, .mov (.tmp 5), none⟩, ⟨some 12, .mov (.tmp 0), none⟩, ⟨some 13, .len (.tmp 12), none⟩, ⟨some 14, .bin .lss (.tmp 11) (.tmp 13), none⟩]) (.cond (.tmp 14) .skip (.exit 0))) (.seq (.block 1 (.seq (.reg true [⟨some 17, .mov (.tmp 0), none⟩, ⟨some 18, .mov (.tmp 5), none⟩, ⟨some 19, .ia 1 (.tmp 17) (.tmp 18), none⟩, ⟨some 20, .load 1 false (.tmp 19), none⟩, ⟨some 21, .mov (.tmp 1), none⟩, ⟨some 22, .mov (.tmp 5), none⟩, ⟨some 23, .ia 1 (.tmp 21) (.tmp 22), none⟩, ⟨some 24, .load 1 false (.tmp 23), none⟩, ⟨some 25, .bin .neq (.tmp 20) (.tmp 24), none⟩]) (.cond (.tmp 25) (.seq (.reg false [⟨some 4, .mov (.lit (.bool false)), none⟩]) .ret) .skip))) (.reg false [⟨some 15, .mov (.tmp 5), none⟩, ⟨some 16, .bin .add (.tmp 15) (.lit (.int .i64 1)), none⟩, ⟨some 5, .mov (.tmp 16), none⟩])))))) (.seq (.reg false [⟨some 4, .mov (.lit (.bool true)), none⟩]) .ret))), [.tmp 4]⟩
def c62 : AFn := ⟨21, .seq (.reg false [⟨some 4, .mov (.lit (.int .i64 0)), none⟩]) (.seq (.seq (.reg false [⟨some 5, .mov (.lit (.int .i64 0)), none⟩]) (.block 0 (.loop (.seq (.seq (.reg false [⟨some 7, .mov (.tmp 5), none⟩, ⟨some 8, .mov (.tmp 0), none⟩, ⟨some 9, .len (.tmp 8), none⟩, ⟨some 10, .bin .lss (.tmp 7) (.tmp 9), none⟩]) (.cond (.tmp 10) .skip (.exit 0))) (.seq (.block 1 (.seq (.reg false [⟨some 13, .mov (.tmp 0), none⟩, ⟨some 14, .mov (.tmp 5), none⟩, ⟨some 15, .ia 1 (.tmp 13) (.tmp 14), none⟩, ⟨some 16, .load 1 false (.tmp 15), none⟩, ⟨some 17, .mov (.tmp 1), none⟩, ⟨some 18, .call (.lit (.fn (.func 63) [] [])) [.tmp 16, .tmp 17], none⟩, ⟨some 6, .mov (.tmp 18), none⟩]) (.seq (.reg false [⟨some 19, .mov (.tmp 6), none⟩]) (.cond (.tmp 19) (.seq (.reg false [⟨some 20, .mov (.tmp 5), none⟩, ⟨some 4, .mov (.tmp 20), none⟩]) .ret) .skip)))) (.reg false [⟨some 11, .mov (.tmp 5), none⟩, ⟨some 12, .bin .add (.tmp 11) (.lit (.int .i64 1)), none⟩, ⟨some 5, .mov (.tmp 12), none⟩])))))) (.seq (.reg false [⟨some 4, .mov (.lit (.int .i64 (-1))), none⟩]) .ret)), [.tmp 4]⟩
def c45 : AFn := ⟨20, .seq (.reg false [⟨some 4, .mov (.lit (.int .i64 0)), none⟩]) (.seq (.seq (.reg false [⟨some 5, .mov (.lit (.int .i64 0)), none⟩]) (.block 0 (.loop (.seq (.seq (.reg false [⟨some 6, .mov (.tmp 5), none⟩, ⟨some 7, .mov (.tmp 0), none⟩, ⟨some 8, .len (.tmp 7), none⟩, ⟨some 9, .bin .lss (.tmp 6) (.tmp 8), none⟩]) (.cond (.tmp 9) .skip (.exit 0))) (.seq (.block 1 (.seq (.reg false [⟨some 12, .mov (.tmp 0), none⟩, ⟨some 13, .mov (.tmp 5), none⟩, ⟨some 14, .ia 2 (.tmp 12) (.tmp 13), none⟩, ⟨some 15, .fa 0 (.tmp 14), none⟩, ⟨some 16, .load 1 false (.tmp 15), none⟩, ⟨some 17, .mov (.tmp 1), none⟩, ⟨some 18, .bin .eql (.tmp 16) (.tmp 17), none⟩]) (.cond (.tmp 18) (.seq (.reg false [⟨some 19, .mov (.tmp 5), none⟩, ⟨some 4, .mov (.tmp 19), none⟩]) .ret) .skip))) (.reg false [⟨some 10, .mov (.tmp 5), none⟩, ⟨some 11, .bin .add (.tmp 10) (.lit (.int .i64 1)), none⟩, ⟨some 5, .mov (.tmp 11), none⟩])))))) (.seq (.reg false [⟨some 4, .mov (.lit (.int .i64 (-1))), none⟩]) .ret)), [.tmp 4]⟩
def c61 : AFn := ⟨9, .seq (.reg false [⟨some 2, .mov (.lit (.bool false)), none⟩]) (.seq (.reg false [⟨some 3, .mov (.tmp 0), none⟩, ⟨some 4, .bin .geq (.tmp 3) (.lit (.int .u8 97)), none⟩, ⟨some 5, .mov (.tmp 4), none⟩, ⟨some 6, .mov (.tmp 0), some ((5, true))⟩, ⟨some 7, .bin .leq (.tmp 6) (.lit (.int .u8 122)), some ((5, true))⟩, ⟨some 8, .pick (.tmp 5) (.tmp 7) (.lit (.bool false)), none⟩, ⟨some 2, .mov (.tmp 8), none⟩]) .ret), [.tmp 2]⟩
def c77 : AFn := ⟨9, .seq (.reg false [⟨some 2, .mov (.lit (.bool false)), none⟩]) (.seq (.reg false [⟨some 3, .mov (.tmp 0), none⟩, ⟨some 4, .bin .geq (.tmp 3) (.lit (.int .u8 65)), none⟩, ⟨some 5, .mov (.tmp 4), none⟩, ⟨some 6, .mov (.tmp 0), some ((5, true))⟩, ⟨some 7, .bin .leq (.tmp 6) (.lit (.int .u8 90)), some ((5, true))⟩, ⟨some 8, .pick (.tmp 5) (.tmp 7) (.lit (.bool false)), none⟩, ⟨some 2, .mov (.tmp 8), none⟩]) .ret), [.tmp 2]⟩
def c60 : AFn := ⟨56, .seq (.reg false [⟨some 2, .mov (.lit (.bool false)), none⟩]) (.seq (.seq (.reg false [⟨some 6, .mov (.tmp 0), none⟩, ⟨some 7, .lens (.tmp 6), none⟩, ⟨some 8, .bin .lss (.tmp 7) (.lit (.int .i64 1)), none⟩, ⟨some 9, .mov (.tmp 8), none⟩, ⟨some 10, .mov (.tmp 0), some ((9, false))⟩, ⟨some 11, .lens (.tmp 10), some ((9, false))⟩, ⟨some 12, .bin .gtr (.tmp 11) (.lit (.int .i64 20)), some ((9, false))⟩, ⟨some 13, .pick (.tmp 9) (.lit (.bool true)) (.tmp 12), none⟩]) (.cond (.tmp 13) (.seq (.reg false [⟨some 2, .mov (.lit (.bool false)), none⟩]) .ret) .skip)) (.seq (.seq (.reg false [⟨some 3, .mov (.lit (.int .i64 0)), none⟩]) (.block 0 (.loop (.seq (.seq (.reg false [⟨some 14, .mov (.tmp 3), none⟩, ⟨some 15, .mov (.tmp 0), none⟩, ⟨some 16, .lens (.tmp 15), none⟩, ⟨some 17, .bin .lss (.tmp 14) (.tmp 16), none⟩]) (.cond (.tmp 17) .skip (.exit 0))) (.seq (.block 1 (.seq (.reg false [⟨some 20, .mov (.tmp 0), none⟩, ⟨some 21, .mov (.tmp 3), none⟩, ⟨some 22, .idxs (.tmp 20) (.tmp 21), none⟩, ⟨some 23, .bin .geq (.tmp 22) (.lit (.int .u8 48)), none⟩, ⟨some 24, .mov (.tmp 23), none⟩, ⟨some 25, .mov (.tmp 0), some ((24, true))⟩, ⟨some 26, .mov (.tmp 3), some ((24, true))⟩, ⟨some 27, .idxs (.tmp 25) (.tmp 26), some ((24, true))⟩, ⟨some 28, .bin .leq (.tmp 27) (.lit (.int .u8 57)), some ((24, true))⟩, ⟨some 29, .pick (.tmp 24) (.tmp 28) (.lit (.bool false)), none⟩, ⟨some 30, .mov (.tmp 29), none⟩, ⟨some 31, .mov (.tmp 0), some ((30, false))⟩, ⟨some 32, .mov (.tmp 3), some ((30, false))⟩, ⟨some 33, .idxs (.tmp 31) (.tmp 32), some ((30, false))⟩, ⟨some 34, .bin .eql (.tmp 33) (.lit (.int .u8 95)), some ((30, false))⟩, ⟨some 35, .pick (.tmp 30) (.lit (.bool true)) (.tmp 34), none⟩, ⟨some 4, .mov (.tmp 35), none⟩]) (.seq (.reg false [⟨some 36, .mov (.tmp 0), none⟩, ⟨some 37, .mov (.tmp 3), none⟩, ⟨some 38, .idxs (.tmp 36) (.tmp 37), none⟩, ⟨some 39, .call (.lit (.fn (.func 61) [] [])) [.tmp 38], none⟩, ⟨some 40, .mov (.tmp 39), none⟩, ⟨some 41, .mov (.tmp 0), some ((40, false))⟩, ⟨some 42, .mov (.tmp 3), some ((40, false))⟩, ⟨some 43, .idxs (.tmp 41) (.tmp 42), some ((40, false))⟩, ⟨some 44, .call (.lit (.fn (.func 77) [] [])) [.tmp 43], some ((40, false))⟩, ⟨some 45, .pick (.tmp 40) (.lit (.bool true)) (.tmp 44), none⟩, ⟨some 5, .mov (.tmp 45), none⟩]) (.seq (.reg false [⟨some 46, .mov (.tmp 5), none⟩, ⟨some 47, .not (.tmp 46), none⟩, ⟨some 48, .mov (.tmp 47), none⟩, ⟨some 49, .mov (.tmp 3), some ((48, true))⟩, ⟨some 50, .bin .eql (.tmp 49) (.lit (.int .i64 0)), some ((48, true))⟩, ⟨some 51, .mov (.tmp 50), some ((48, true))⟩, ⟨some 52, .mov (.tmp 4), some ((51, false))⟩, ⟨some 53, .not (.tmp 52), some ((51, false))⟩, ⟨some 54, .pick (.tmp 51) (.lit (.bool true)) (.tmp 53), some ((48, true))⟩, ⟨some 55, .pick (.tmp 48) (.tmp 54) (.lit (.bool false)), none⟩]) (.cond (.tmp 55) (.seq (.reg false [⟨some 2, .mov (.lit (.bool false)), none⟩]) .ret) .skip))))) (.reg false [⟨some 18, .mov (.tmp 3), none⟩, ⟨some 19, .bin .add (.tmp 18) (.lit (.int .i64 1)), none⟩, ⟨some 3, .mov (.tmp 19), none⟩])))))) (.seq (.reg false [⟨some 2, .mov (.lit (.bool true)), none⟩]) .ret))), [.tmp 2]⟩
def c43 : AFn := ⟨10, .seq (.reg false [⟨some 2, .mov (.lit (.bool false)), none⟩]) (.seq (.reg false [⟨some 3, .mov (.tmp 0), none⟩, ⟨some 4, .call (.lit (.fn (.func 60) [] [])) [.tmp 3], none⟩, ⟨some 5, .mov (.tmp 4), none⟩, ⟨some 6, .mov (.tmp 0), some ((5, true))⟩, ⟨some 7, .idxs (.tmp 6) (.lit (.int .i64 0)), some ((5, true))⟩, ⟨some 8, .call (.lit (.fn (.func 61) [] [])) [.tmp 7], some ((5, true))⟩, ⟨some 9, .pick (.tmp 5) (.tmp 8) (.lit (.bool false)), none⟩, ⟨some 2, .mov (.tmp 9), none⟩]) .ret), [.tmp 2]⟩
def c44 : AFn := ⟨29, .seq (.reg false [⟨some 2, .mov (.lit (.bool false)), none⟩]) (.seq (.seq (.reg false [⟨some 3, .mov (.lit (.int .i64 0)), none⟩]) (.block 0 (.loop (.seq (.seq (.reg false [⟨some 4, .mov (.tmp 3), none⟩, ⟨some 5, .mov (.tmp 0), none⟩, ⟨some 6, .lens (.tmp 5), none⟩, ⟨some 7, .bin .lss (.tmp 4) (.tmp 6), none⟩]) (.cond (.tmp 7) .skip (.exit 0))) (.seq (.block 1 (.seq (.reg false [⟨some 10, .mov (.tmp 0), none⟩, ⟨some 11, .mov (.tmp 3), none⟩, ⟨some 12, .idxs (.tmp 10) (.tmp 11), none⟩, ⟨some 13, .bin .neq (.tmp 12) (.lit (.int .u8 43)), none⟩, ⟨some 14, .mov (.tmp 13), none⟩, ⟨some 15, .mov (.tmp 0), some ((14, true))⟩, ⟨some 16, .mov (.tmp 3), some ((14, true))⟩, ⟨some 17, .idxs (.tmp 15) (.tmp 16), some ((14, true))⟩, ⟨some 18, .bin .neq (.tmp 17) (.lit (.int .u8 45)), some ((14, true))⟩, ⟨some 19, .pick (.tmp 14) (.tmp 18) (.lit (.bool false)), none⟩, ⟨some 20, .mov (.tmp 19), none⟩, ⟨some 21, .mov (.tmp 0), some ((20, true))⟩, ⟨some 22, .mov (.tmp 3), some ((20, true))⟩, ⟨some 23, .idxs (.tmp 21) (.tmp 22), some ((20, true))⟩, ⟨some 24, .bin .neq (.tmp 23) (.lit (.int .u8 61)), some ((20, true))⟩, ⟨some 25, .pick (.tmp 20) (.tmp 24) (.lit (.bool false)), none⟩]) (.cond (.tmp 25) (.seq (.reg false [⟨some 2, .mov (.lit (.bool false)), none⟩]) .ret) .skip))) (.reg false [⟨some 8, .mov (.tmp 3), none⟩, ⟨some 9, .bin .add (.tmp 8) (.lit (.int .i64 1)), none⟩, ⟨some 3, .mov (.tmp 9), none⟩])))))) (.seq (.reg false [⟨some 26, .mov (.tmp 0), none⟩, ⟨some 27, .lens (.tmp 26), none⟩, ⟨some 28, .bin .leq (.tmp 27) (.lit (.int .i64 8)), none⟩, ⟨some 2, .mov (.tmp 28), none⟩]) .ret)), [.tmp 2]⟩
theorem c63_ok : cFn Try.prog an0 Try.f63 = some c63 := by kernel_rfl
theorem ints_PF (a b : List Int) : PF Try.prog 63 [ints a, ints b] (.bool (decide (a = b))) := by
  refine PFk 9 hm Try.func63 c63_ok (Nat.le_of_ble_eq_true rfl) (by simp) (by simp) ?_
  simp (maxSteps := 3000000) [-List.length_flatten, -List.map_drop, -List.map_take, Function.comp_def, argsT, Opd.ev, Tm.get, put, ares, mapMo, ares1, snilP, bldParts, bslParts, putAt, AV.cells, AV.one, astore, aload, loadCs, callArgs, abin, abinInt, aapp, elems, appMore, appNone, preLen, aFa, aFld, apart, aExt, aPick, aNot, aLens, aEqa, cellsK, fitsA, LK.fitsA, leavesA, leafA, nilD, aNilc, aCint, aCid, alive, alen, alenOk, Rle, lePs, len_flat, c63]
  intro ha hb
  refine ⟨fun h => ?_, fun h => ?_⟩
  · intro e
    subst e
    simp at h
  · refine run_loop (fun n T H => ∃ i : Nat, n = a.length - i ∧ i ≤ a.length ∧ T = [(5, i64 i), (0, ints a), (1, ints b)] ∧ H = [] ∧ ∀ j : Nat, j < i → gi a j = gi b j) a.length [(5, i64 0), (0, ints a), (1, ints b)] []
      (Wk.tell 0 (Nat.le_refl _) (by simp [Tm.get]) (by simp) rfl (by simp)) ⟨0, by simp, by simp, by simp, rfl, by simp⟩ ?_
    rintro n T H ⟨i, rfl, hi, rfl, rfl, hj⟩
    simp (maxSteps := 3000000) [-List.length_flatten, -List.map_drop, -List.map_take, Function.comp_def, argsT, Opd.ev, Tm.get, put, ares, mapMo, ares1, snilP, bldParts, bslParts, putAt, AV.cells, AV.one, astore, aload, loadCs, callArgs, abin, abinInt, aapp, elems, appMore, appNone, preLen, aFa, aFld, apart, aExt, aPick, aNot, aLens, aEqa, cellsK, fitsA, LK.fitsA, leavesA, leafA, nilD, aNilc, aCint, aCid, alive, alen, alenOk, Rle, lePs, len_flat]
    intro _
    refine ⟨fun h1 => ⟨h1, by omega, fun h2 e => h2 (by rw [e]), fun h2 => ?_⟩, fun h1 => eq_gi (by omega) (fun j hl => hj j (by omega))⟩
    refine Kl_next (a.length - (i + 1)) 0 (Nat.le_refl _) ⟨i + 1, rfl, h1, rfl, rfl, fun j hl => ?_⟩ (by simp [Tm.get, nxt h1 ha]) (by simp) rfl (by simp) (by omega)
    rcases Nat.lt_or_ge j i with h3 | h3
    · exact hj j h3
    · have : j = i := by omega
      subst this
      exact h2
theorem c62_ok : cFn Try.prog an0 Try.f62 = some c62 := by kernel_rfl
theorem at_PF (ks : List (List Int)) (k : List Int) : PF Try.prog 62 [intss ks, ints k] (i64 (fstAt (fun x => decide (x = k)) ks)) := by
  refine PFk 9 hm Try.func62 c62_ok (Nat.le_of_ble_eq_true rfl) (by simp) (by simp) ?_
  simp (maxSteps := 3000000) [-List.length_flatten, -List.map_drop, -List.map_take, Function.comp_def, argsT, Opd.ev, Tm.get, put, ares, mapMo, ares1, snilP, bldParts, bslParts, putAt, AV.cells, AV.one, astore, aload, loadCs, callArgs, abin, abinInt, aapp, elems, appMore, appNone, preLen, aFa, aFld, apart, aExt, aPick, aNot, aLens, aEqa, cellsK, fitsA, LK.fitsA, leavesA, leafA, nilD, aNilc, aCint, aCid, alive, alen, alenOk, Rle, lePs, len_flat, c62]
  refine run_loop (fun n T H => ∃ i : Nat, n = ks.length - i ∧ i ≤ ks.length ∧ T = [(5, i64 i), (0, intss ks), (1, ints k)] ∧ H = [] ∧ ∀ j : Nat, j < i → ¬ gi ks j = k) ks.length [(5, i64 0), (0, intss ks), (1, ints k)] []
    (Wk.tell 0 (Nat.le_refl _) (by simp [Tm.get]) (by simp) rfl (by simp)) ⟨0, by simp, by simp, by simp, rfl, by simp⟩ ?_
  rintro n T H ⟨i, rfl, hi, rfl, rfl, hj⟩
  simp (maxSteps := 3000000) [-List.length_flatten, -List.map_drop, -List.map_take, Function.comp_def, argsT, Opd.ev, Tm.get, put, ares, mapMo, ares1, snilP, bldParts, bslParts, putAt, AV.cells, AV.one, astore, aload, loadCs, callArgs, abin, abinInt, aapp, elems, appMore, appNone, preLen, aFa, aFld, apart, aExt, aPick, aNot, aLens, aEqa, cellsK, fitsA, LK.fitsA, leavesA, leafA, nilD, aNilc, aCint, aCid, alive, alen, alenOk, Rle, lePs, len_flat]
  intro ha
  refine ⟨fun h1 => ⟨h1, ?_⟩, fun h1 => ?_⟩
  · refine PF.call (ints_PF (gi ks i) k) 9 (by simp [lePs]) ?_
    simp (maxSteps := 3000000) [-List.length_flatten, -List.map_drop, -List.map_take, Function.comp_def, argsT, Opd.ev, Tm.get, put, ares, mapMo, ares1, snilP, bldParts, bslParts, putAt, AV.cells, AV.one, astore, aload, loadCs, callArgs, abin, abinInt, aapp, elems, appMore, appNone, preLen, aFa, aFld, apart, aExt, aPick, aNot, aLens, aEqa, cellsK, fitsA, LK.fitsA, leavesA, leafA, nilD, aNilc, aCint, aCid, alive, alen, alenOk, Rle, lePs, len_flat, Kc]
    refine ⟨fun h2 => (fstAt_some h1 (by simpa using h2) (fun j hl => by simpa using hj j hl)).symm, fun h2 => ?_⟩
    refine Kl_next (ks.length - (i + 1)) 0 (Nat.le_refl _) ⟨i + 1, rfl, h1, rfl, rfl, fun j hl => ?_⟩ (by simp [Tm.get, nxt h1 ha]) (by simp) rfl (by simp) (by omega)
    rcases Nat.lt_or_ge j i with h3 | h3
    · exact hj j h3
    · have : j = i := by omega
      subst this
      exact h2
  · exact (fstAt_none (fun j hl => by simpa using hj j (by omega))).symm
theorem c45_ok : cFn Try.prog an0 Try.f45 = some c45 := by kernel_rfl
theorem find_PF (l : List Sg) (s : ByteArray) : PF Try.prog 45 [sigs l, .str s] (i64 (fstAt (fun x => decide (x.name = s)) l)) := by
  refine PFk 9 hm Try.func45 c45_ok (Nat.le_of_ble_eq_true rfl) (by simp) (by simp) ?_
  simp (maxSteps := 3000000) [-List.length_flatten, -List.map_drop, -List.map_take, Function.comp_def, argsT, Opd.ev, Tm.get, put, ares, mapMo, ares1, snilP, bldParts, bslParts, putAt, AV.cells, AV.one, astore, aload, loadCs, callArgs, abin, abinInt, aapp, elems, appMore, appNone, preLen, aFa, aFld, apart, aExt, aPick, aNot, aLens, aEqa, cellsK, fitsA, LK.fitsA, leavesA, leafA, nilD, aNilc, aCint, aCid, alive, alen, alenOk, Rle, lePs, len_flat, c45]
  refine run_loop (fun n T H => ∃ i : Nat, n = l.length - i ∧ i ≤ l.length ∧ T = [(5, i64 i), (0, sigs l), (1, .str s)] ∧ H = [] ∧ ∀ j : Nat, j < i → ¬ (gi l j).name = s) l.length [(5, i64 0), (0, sigs l), (1, .str s)] []
    (Wk.tell 0 (Nat.le_refl _) (by simp [Tm.get]) (by simp) rfl (by simp)) ⟨0, by simp, by simp, by simp, rfl, by simp⟩ ?_
  rintro n T H ⟨i, rfl, hi, rfl, rfl, hj⟩
  simp (maxSteps := 3000000) [-List.length_flatten, -List.map_drop, -List.map_take, Function.comp_def, argsT, Opd.ev, Tm.get, put, ares, mapMo, ares1, snilP, bldParts, bslParts, putAt, AV.cells, AV.one, astore, aload, loadCs, callArgs, abin, abinInt, aapp, elems, appMore, appNone, preLen, aFa, aFld, apart, aExt, aPick, aNot, aLens, aEqa, cellsK, fitsA, LK.fitsA, leavesA, leafA, nilD, aNilc, aCint, aCid, alive, alen, alenOk, Rle, lePs, len_flat]
  intro ha
  refine ⟨fun h1 => ⟨h1, fun h2 => (fstAt_some h1 (by simpa using h2) (fun j hl => by simpa using hj j hl)).symm, fun h2 => ?_⟩, fun h1 => ?_⟩
  · refine Kl_next (l.length - (i + 1)) 0 (Nat.le_refl _) ⟨i + 1, rfl, h1, rfl, rfl, fun j hl => ?_⟩ (by simp [Tm.get, nxt h1 ha]) (by simp) rfl (by simp) (by omega)
    rcases Nat.lt_or_ge j i with h3 | h3
    · exact hj j h3
    · have : j = i := by omega
      subst this
      exact h2
  · exact (fstAt_none (fun j hl => by simpa using hj j (by omega))).symm
theorem c61_ok : cFn Try.prog an0 Try.f61 = some c61 := by kernel_rfl
theorem small_PF (c : Int) : PF Try.prog 61 [.int .u8 c] (.bool (decide (97 ≤ c) && decide (c ≤ 122))) := by
  refine PFk 9 hm Try.func61 c61_ok (Nat.le_of_ble_eq_true rfl) (by simp) (by simp) ?_
  simp (maxSteps := 3000000) [-List.length_flatten, -List.map_drop, -List.map_take, Function.comp_def, argsT, Opd.ev, Tm.get, put, ares, mapMo, ares1, snilP, bldParts, bslParts, putAt, AV.cells, AV.one, astore, aload, loadCs, callArgs, abin, abinInt, aapp, elems, appMore, appNone, preLen, aFa, aFld, apart, aExt, aPick, aNot, aLens, aEqa, cellsK, fitsA, LK.fitsA, leavesA, leafA, nilD, aNilc, aCint, aCid, alive, alen, alenOk, Rle, lePs, len_flat, c61]
  omega
theorem c77_ok : cFn Try.prog an0 Try.f77 = some c77 := by kernel_rfl
theorem big_PF (c : Int) : PF Try.prog 77 [.int .u8 c] (.bool (decide (65 ≤ c) && decide (c ≤ 90))) := by
  refine PFk 9 hm Try.func77 c77_ok (Nat.le_of_ble_eq_true rfl) (by simp) (by simp) ?_
  simp (maxSteps := 3000000) [-List.length_flatten, -List.map_drop, -List.map_take, Function.comp_def, argsT, Opd.ev, Tm.get, put, ares, mapMo, ares1, snilP, bldParts, bslParts, putAt, AV.cells, AV.one, astore, aload, loadCs, callArgs, abin, abinInt, aapp, elems, appMore, appNone, preLen, aFa, aFld, apart, aExt, aPick, aNot, aLens, aEqa, cellsK, fitsA, LK.fitsA, leavesA, leafA, nilD, aNilc, aCint, aCid, alive, alen, alenOk, Rle, lePs, len_flat, c77]
  omega
theorem c44_ok : cFn Try.prog an0 Try.f44 = some c44 := by kernel_rfl
theorem args_PF (s : ByteArray) (hs : s.size ≤ maxA) : PF Try.prog 44 [.str s] (.bool (argsOk s)) := by
  refine PFk 9 hm Try.func44 c44_ok (Nat.le_of_ble_eq_true rfl) (by simp) (by simp) ?_
  simp (maxSteps := 3000000) [-List.length_flatten, -List.map_drop, -List.map_take, Function.comp_def, argsT, Opd.ev, Tm.get, put, ares, mapMo, ares1, snilP, bldParts, bslParts, putAt, AV.cells, AV.one, astore, aload, loadCs, callArgs, abin, abinInt, aapp, elems, appMore, appNone, preLen, aFa, aFld, apart, aExt, aPick, aNot, aLens, aEqa, cellsK, fitsA, LK.fitsA, leavesA, leafA, nilD, aNilc, aCint, aCid, alive, alen, alenOk, Rle, lePs, len_flat, c44]
  refine run_count s.size 3 [(0, .str s)] [] (fun i => ∀ j : Nat, j < i → argOk (byte s j)) (Wk.tell 0 (Nat.le_refl _) (by simp [Tm.get]) (by simp) rfl (by simp)) (fun j hj => by omega) ?_
  intro i hi hj
  simp (maxSteps := 3000000) [-List.length_flatten, -List.map_drop, -List.map_take, Function.comp_def, argsT, Opd.ev, Tm.get, put, ares, mapMo, ares1, snilP, bldParts, bslParts, putAt, AV.cells, AV.one, astore, aload, loadCs, callArgs, abin, abinInt, aapp, elems, appMore, appNone, preLen, aFa, aFld, apart, aExt, aPick, aNot, aLens, aEqa, cellsK, fitsA, LK.fitsA, leavesA, leafA, nilD, aNilc, aCint, aCid, alive, alen, alenOk, Rle, lePs, len_flat]
  intro _
  have next : ∀ h : i < s.size, argOk (byte s i) → ∀ j : Nat, j < i + 1 → argOk (byte s j) := fun h hb j hl => by
    rcases Nat.lt_or_ge j i with h3 | h3
    · exact hj j h3
    · have : j = i := by omega
      subst this
      exact hb
  repeat' (first | assumption | with_reducible apply And.intro | with_reducible intro _)
  all_goals first
    | exact Kn_next 0 (Nat.le_refl _) (by omega) (next (by assumption) (by unfold argOk; omega)) (by simp [Tm.get, nxt (show i < s.size by assumption) hs]) (by simp) rfl (by simp)
    | skip
  · rename_i h1 h2 h3 h4
    have : ¬ ∀ i : Nat, i < s.size → argOk (byte s i) := fun h => by have := h i h1; unfold argOk at this; omega
    simp [argsOk, this]
  · rename_i h1
    have : ∀ i : Nat, i < s.size → argOk (byte s i) := fun j hl => hj j (by omega)
    have h8 : decide ((s.size : Int) ≤ 8) = decide (s.size ≤ 8) := by
      congr 1
      apply propext
      omega
    rw [h8]
    simp [argsOk]
    exact fun _ => this
theorem c60_ok : cFn Try.prog an0 Try.f60 = some c60 := by kernel_rfl
theorem name_PF (s : ByteArray) : PF Try.prog 60 [.str s] (.bool (nameOk s)) := by
  refine PFk 9 hm Try.func60 c60_ok (Nat.le_of_ble_eq_true rfl) (by simp) (by simp) ?_
  simp (maxSteps := 3000000) [-List.length_flatten, -List.map_drop, -List.map_take, Function.comp_def, argsT, Opd.ev, Tm.get, put, ares, mapMo, ares1, snilP, bldParts, bslParts, putAt, AV.cells, AV.one, astore, aload, loadCs, callArgs, abin, abinInt, aapp, elems, appMore, appNone, preLen, aFa, aFld, apart, aExt, aPick, aNot, aLens, aEqa, cellsK, fitsA, LK.fitsA, leavesA, leafA, nilD, aNilc, aCint, aCid, alive, alen, alenOk, Rle, lePs, len_flat, c60]
  intro _
  refine ⟨fun h1 => ?_, fun h1 _ => ⟨fun h2 => ?_, fun h2 => ?_⟩⟩
  · simp [nameOk]; omega
  · simp [nameOk]; omega
  · refine run_count s.size 3 [(0, .str s)] [] (fun i => ∀ j : Nat, j < i → letter (byte s j) ∨ 0 < j ∧ figure (byte s j)) (Wk.tell 0 (Nat.le_refl _) (by simp [Tm.get]) (by simp) rfl (by simp)) (fun j hj => by omega) ?_
    intro i hi hj
    have next : ∀ h : i < s.size, (letter (byte s i) ∨ 0 < i ∧ figure (byte s i)) → ∀ j : Nat, j < i + 1 → letter (byte s j) ∨ 0 < j ∧ figure (byte s j) := fun h hb j hl => by
      rcases Nat.lt_or_ge j i with h3 | h3
      · exact hj j h3
      · have : j = i := by omega
        subst this
        exact hb
    simp (maxSteps := 3000000) [-List.length_flatten, -List.map_drop, -List.map_take, Function.comp_def, argsT, Opd.ev, Tm.get, put, ares, mapMo, ares1, snilP, bldParts, bslParts, putAt, AV.cells, AV.one, astore, aload, loadCs, callArgs, abin, abinInt, aapp, elems, appMore, appNone, preLen, aFa, aFld, apart, aExt, aPick, aNot, aLens, aEqa, cellsK, fitsA, LK.fitsA, leavesA, leafA, nilD, aNilc, aCint, aCid, alive, alen, alenOk, Rle, lePs, len_flat]
    intro _
    repeat' (first | assumption | with_reducible apply And.intro | with_reducible intro _ | refine PF.call (small_PF (byte s i)) 9 (by simp [lePs]) ?_)
    all_goals try simp (maxSteps := 3000000) [-List.length_flatten, -List.map_drop, -List.map_take, Function.comp_def, argsT, Opd.ev, Tm.get, put, ares, mapMo, ares1, snilP, bldParts, bslParts, putAt, AV.cells, AV.one, astore, aload, loadCs, callArgs, abin, abinInt, aapp, elems, appMore, appNone, preLen, aFa, aFld, apart, aExt, aPick, aNot, aLens, aEqa, cellsK, fitsA, LK.fitsA, leavesA, leafA, nilD, aNilc, aCint, aCid, alive, alen, alenOk, Rle, lePs, len_flat, Kc]
    repeat' (first | assumption | with_reducible apply And.intro | with_reducible intro _ | refine PF.call (big_PF (byte s i)) 9 (by simp [lePs]) ?_)
    all_goals try simp (maxSteps := 3000000) [-List.length_flatten, -List.map_drop, -List.map_take, Function.comp_def, argsT, Opd.ev, Tm.get, put, ares, mapMo, ares1, snilP, bldParts, bslParts, putAt, AV.cells, AV.one, astore, aload, loadCs, callArgs, abin, abinInt, aapp, elems, appMore, appNone, preLen, aFa, aFld, apart, aExt, aPick, aNot, aLens, aEqa, cellsK, fitsA, LK.fitsA, leavesA, leafA, nilD, aNilc, aCint, aCid, alive, alen, alenOk, Rle, lePs, len_flat, Kc]
    repeat' (first | assumption | with_reducible apply And.intro | with_reducible intro _)
    all_goals first
      | exact Kn_next 0 (Nat.le_refl _) (by omega) (next (by assumption) (by unfold letter figure; omega)) (by simp [Tm.get, nxt (show i < s.size by assumption) (show s.size ≤ maxA by unfold maxA; omega)]) (by simp) rfl (by simp)
      | exact nameBad (show i < s.size by assumption) (by unfold letter figure; omega)
      | skip
    exact nameGood (by omega) (by omega) (fun j hl => hj j (by omega))
theorem c43_ok : cFn Try.prog an0 Try.f43 = some c43 := by kernel_rfl
theorem con_PF (s : ByteArray) : PF Try.prog 43 [.str s] (.bool (conOk s)) := by
  refine PFk 9 hm Try.func43 c43_ok (Nat.le_of_ble_eq_true rfl) (by simp) (by simp) ?_
  simp (maxSteps := 3000000) [-List.length_flatten, -List.map_drop, -List.map_take, Function.comp_def, argsT, Opd.ev, Tm.get, put, ares, mapMo, ares1, snilP, bldParts, bslParts, putAt, AV.cells, AV.one, astore, aload, loadCs, callArgs, abin, abinInt, aapp, elems, appMore, appNone, preLen, aFa, aFld, apart, aExt, aPick, aNot, aLens, aEqa, cellsK, fitsA, LK.fitsA, leavesA, leafA, nilD, aNilc, aCint, aCid, alive, alen, alenOk, Rle, lePs, len_flat, c43]
  refine PF.call (name_PF s) 9 (by simp [lePs]) ?_
  simp (maxSteps := 3000000) [-List.length_flatten, -List.map_drop, -List.map_take, Function.comp_def, argsT, Opd.ev, Tm.get, put, ares, mapMo, ares1, snilP, bldParts, bslParts, putAt, AV.cells, AV.one, astore, aload, loadCs, callArgs, abin, abinInt, aapp, elems, appMore, appNone, preLen, aFa, aFld, apart, aExt, aPick, aNot, aLens, aEqa, cellsK, fitsA, LK.fitsA, leavesA, leafA, nilD, aNilc, aCint, aCid, alive, alen, alenOk, Rle, lePs, len_flat, Kc]
  refine ⟨fun h => ⟨nameSize h, ?_⟩, fun h => by simp [conOk, h]⟩
  refine PF.call (small_PF (byte s 0)) 9 (by simp [lePs]) ?_
  simp (maxSteps := 3000000) [-List.length_flatten, -List.map_drop, -List.map_take, Function.comp_def, argsT, Opd.ev, Tm.get, put, ares, mapMo, ares1, snilP, bldParts, bslParts, putAt, AV.cells, AV.one, astore, aload, loadCs, callArgs, abin, abinInt, aapp, elems, appMore, appNone, preLen, aFa, aFld, apart, aExt, aPick, aNot, aLens, aEqa, cellsK, fitsA, LK.fitsA, leavesA, leafA, nilD, aNilc, aCint, aCid, alive, alen, alenOk, Rle, lePs, len_flat, Kc]
  simp [conOk, h]
end Go.AM

namespace Go.AM
open Go.Proofs
set_option maxRecDepth 100000
set_option linter.unusedVariables false
set_option linter.unusedSimpArgs false
def c22 : AFn := ⟨41, .seq (.reg false [⟨some 2, .mov (.lit (.bool false)), none⟩]) (.seq (.seq (.reg false [⟨some 3, .mov (.lit (.int .i64 0)), none⟩]) (.block 0 (.loop (.seq (.seq (.reg false [⟨some 5, .mov (.tmp 3), none⟩, ⟨some 6, .mov (.tmp 0), none⟩, ⟨some 7, .len (.tmp 6), none⟩, ⟨some 8, .bin .lss (.tmp 5) (.tmp 7), none⟩]) (.cond (.tmp 8) .skip (.exit 0))) (.seq (.block 1 (.seq (.reg false [⟨some 11, .mov (.tmp 0), none⟩, ⟨some 12, .mov (.tmp 3), none⟩, ⟨some 13, .ia 2 (.tmp 11) (.tmp 12), none⟩, ⟨some 14, .fa 0 (.tmp 13), none⟩, ⟨some 15, .load 1 false (.tmp 14), none⟩, ⟨some 16, .call (.lit (.fn (.func 43) [] [])) [.tmp 15], none⟩, ⟨some 17, .mov (.tmp 16), none⟩, ⟨some 18, .mov (.tmp 0), some ((17, true))⟩, ⟨some 19, .mov (.tmp 3), some ((17, true))⟩, ⟨some 20, .ia 2 (.tmp 18) (.tmp 19), some ((17, true))⟩, ⟨some 21, .fa 1 (.tmp 20), some ((17, true))⟩, ⟨some 22, .load 1 false (.tmp 21), some ((17, true))⟩, ⟨some 23, .call (.lit (.fn (.func 44) [] [])) [.tmp 22], some ((17, true))⟩, ⟨some 24, .pick (.tmp 17) (.tmp 23) (.lit (.bool false)), none⟩, ⟨some 4, .mov (.tmp 24), none⟩]) (.seq (.reg false [⟨some 25, .mov (.tmp 4), none⟩, ⟨some 26, .not (.tmp 25), none⟩, ⟨some 27, .mov (.tmp 26), none⟩, ⟨some 28, .mov (.tmp 0), some ((27, false))⟩, ⟨some 29, .mov (.tmp 0), some ((27, false))⟩, ⟨some 30, .mov (.tmp 3), some ((27, false))⟩, ⟨some 31, .ia 2 (.tmp 29) (.tmp 30), some ((27, false))⟩, ⟨some 32, .fa 0 (.tmp 31), some ((27, false))⟩, ⟨some 33, .load 1 false (.tmp 32), some ((27, false))⟩, ⟨some 34, .call (.lit (.fn (.func 45) [] [])) [.tmp 28, .tmp 33], some ((27, false))⟩, ⟨some 35, .mov (.tmp 3), some ((27, false))⟩, ⟨some 36, .bin .lss (.tmp 34) (.tmp 35), some ((27, false))⟩, ⟨some 37, .pick (.tmp 27) (.lit (.bool true)) (.tmp 36), none⟩]) (.cond (.tmp 37) (.seq (.reg false [⟨some 2, .mov (.lit (.bool false)), none⟩]) .ret) .skip)))) (.reg false [⟨some 9, .mov (.tmp 3), none⟩, ⟨some 10, .bin .add (.tmp 9) (.lit (.int .i64 1)), none⟩, ⟨some 3, .mov (.tmp 10), none⟩])))))) (.seq (.reg false [⟨some 38, .mov (.tmp 0), none⟩, ⟨some 39, .len (.tmp 38), none⟩, ⟨some 40, .bin .leq (.tmp 39) (.lit (.int .i64 64)), none⟩, ⟨some 2, .mov (.tmp 40), none⟩]) .ret)), [.tmp 2]⟩
def c29 : AFn := ⟨43, .seq (.reg false [⟨some 2, .box (.tmp 0), none⟩, ⟨some 4, .alloc [.int .i64 0, .int .i64 0, .int .i64 0, .nilS], none⟩, ⟨some 5, .mov (.lit (.bool false)), none⟩]) (.seq (.seq (.reg false [⟨some 7, .mov (.tmp 1), none⟩, ⟨some 8, .bin .lss (.tmp 7) (.lit (.int .i64 0)), none⟩, ⟨some 9, .mov (.tmp 8), none⟩, ⟨some 10, .mov (.tmp 1), some ((9, false))⟩, ⟨some 11, .fa 0 (.tmp 2), some ((9, false))⟩, ⟨some 12, .load 1 false (.tmp 11), some ((9, false))⟩, ⟨some 13, .len (.tmp 12), some ((9, false))⟩, ⟨some 14, .bin .geq (.tmp 10) (.tmp 13), some ((9, false))⟩, ⟨some 15, .pick (.tmp 9) (.lit (.bool true)) (.tmp 14), none⟩, ⟨some 16, .mov (.tmp 15), none⟩, ⟨some 17, .fa 0 (.tmp 2), some ((16, false))⟩, ⟨some 18, .load 1 false (.tmp 17), some ((16, false))⟩, ⟨some 19, .mov (.tmp 1), some ((16, false))⟩, ⟨some 20, .ia 1 (.tmp 18) (.tmp 19), some ((16, false))⟩, ⟨some 21, .load 1 false (.tmp 20), some ((16, false))⟩, ⟨some 22, .len (.tmp 21), some ((16, false))⟩, ⟨some 23, .bin .lss (.tmp 22) (.lit (.int .i64 3)), some ((16, false))⟩, ⟨some 24, .pick (.tmp 16) (.lit (.bool true)) (.tmp 23), none⟩]) (.cond (.tmp 24) (.seq (.reg false [⟨some 25, .build [.int .i64 0, .int .i64 0, .int .i64 0, .nilS] [], none⟩, ⟨none, .store 4 (.tmp 4) (.tmp 25), none⟩, ⟨some 5, .mov (.lit (.bool false)), none⟩]) .ret) .skip)) (.seq (.reg false [⟨some 26, .fa 0 (.tmp 2), none⟩, ⟨some 27, .load 1 false (.tmp 26), none⟩, ⟨some 28, .mov (.tmp 1), none⟩, ⟨some 29, .ia 1 (.tmp 27) (.tmp 28), none⟩, ⟨some 30, .load 1 false (.tmp 29), none⟩, ⟨some 6, .mov (.tmp 30), none⟩]) (.seq (.reg true [⟨some 31, .mov (.tmp 6), none⟩, ⟨some 32, .ia 1 (.tmp 31) (.lit (.int .i64 0)), none⟩, ⟨some 33, .load 1 false (.tmp 32), none⟩, ⟨some 34, .mov (.tmp 6), none⟩, ⟨some 35, .ia 1 (.tmp 34) (.lit (.int .i64 1)), none⟩, ⟨some 36, .load 1 false (.tmp 35), none⟩, ⟨some 37, .mov (.tmp 6), none⟩, ⟨some 38, .ia 1 (.tmp 37) (.lit (.int .i64 2)), none⟩, ⟨some 39, .load 1 false (.tmp 38), none⟩, ⟨some 40, .mov (.tmp 6), none⟩, ⟨some 41, .slc 1 (.tmp 40) (some (.lit (.int .i64 3))) none none, none⟩, ⟨some 42, .build [.int .i64 0, .int .i64 0, .int .i64 0, .nilS] [(0, 1, .tmp 33), (1, 1, .tmp 36), (2, 1, .tmp 39), (3, 1, .tmp 41)], none⟩, ⟨none, .store 4 (.tmp 4) (.tmp 42), none⟩, ⟨some 5, .mov (.lit (.bool true)), none⟩]) .ret))), [.cell 4 4 true, .tmp 5]⟩
def c47 : AFn := ⟨134, .seq (.reg false [⟨some 5, .box (.tmp 2), none⟩, ⟨some 6, .mov (.lit (.bool false)), none⟩]) (.seq (.seq (.reg false [⟨some 7, .mov (.lit (.int .i64 0)), none⟩]) (.block 0 (.loop (.seq (.seq (.reg false [⟨some 10, .mov (.tmp 7), none⟩, ⟨some 11, .fa 3 (.tmp 5), none⟩, ⟨some 12, .load 1 false (.tmp 11), none⟩, ⟨some 13, .len (.tmp 12), none⟩, ⟨some 14, .bin .lss (.tmp 10) (.tmp 13), none⟩]) (.cond (.tmp 14) .skip (.exit 0))) (.seq (.block 1 (.seq (.reg false [⟨some 17, .fa 3 (.tmp 5), none⟩, ⟨some 18, .load 1 false (.tmp 17), none⟩, ⟨some 19, .mov (.tmp 7), none⟩, ⟨some 20, .ia 1 (.tmp 18) (.tmp 19), none⟩, ⟨some 21, .load 1 false (.tmp 20), none⟩, ⟨some 22, .bin .lss (.tmp 21) (.lit (.int .i64 0)), none⟩, ⟨some 23, .mov (.tmp 22), none⟩, ⟨some 24, .fa 3 (.tmp 5), some ((23, false))⟩, ⟨some 25, .load 1 false (.tmp 24), some ((23, false))⟩, ⟨some 26, .mov (.tmp 7), some ((23, false))⟩, ⟨some 27, .ia 1 (.tmp 25) (.tmp 26), some ((23, false))⟩, ⟨some 28, .load 1 false (.tmp 27), some ((23, false))⟩, ⟨some 29, .mov (.tmp 1), some ((23, false))⟩, ⟨some 30, .bin .geq (.tmp 28) (.tmp 29), some ((23, false))⟩, ⟨some 31, .pick (.tmp 23) (.lit (.bool true)) (.tmp 30), none⟩]) (.cond (.tmp 31) (.seq (.reg false [⟨some 6, .mov (.lit (.bool false)), none⟩]) .ret) .skip))) (.reg false [⟨some 15, .mov (.tmp 7), none⟩, ⟨some 16, .bin .add (.tmp 15) (.lit (.int .i64 1)), none⟩, ⟨some 7, .mov (.tmp 16), none⟩])))))) (.seq (.reg false [⟨some 32, .fa 3 (.tmp 5), none⟩, ⟨some 33, .load 1 false (.tmp 32), none⟩, ⟨some 34, .len (.tmp 33), none⟩, ⟨some 8, .mov (.tmp 34), none⟩]) (.seq (.reg false [⟨some 35, .fa 1 (.tmp 5), none⟩, ⟨some 36, .load 1 false (.tmp 35), none⟩, ⟨some 37, .bin .geq (.tmp 36) (.lit (.int .i64 0)), none⟩, ⟨some 38, .mov (.tmp 37), none⟩, ⟨some 39, .fa 1 (.tmp 5), some ((38, true))⟩, ⟨some 40, .load 1 false (.tmp 39), some ((38, true))⟩, ⟨some 41, .mov (.tmp 0), some ((38, true))⟩, ⟨some 42, .len (.tmp 41), some ((38, true))⟩, ⟨some 43, .bin .lss (.tmp 40) (.tmp 42), some ((38, true))⟩, ⟨some 44, .pick (.tmp 38) (.tmp 43) (.lit (.bool false)), none⟩, ⟨some 9, .mov (.tmp 44), none⟩]) (.seq (.seq (.reg false [⟨some 45, .fa 0 (.tmp 5), none⟩, ⟨some 46, .load 1 false (.tmp 45), none⟩]) (.block 2 (.seq (.seq (.reg false [⟨some 48, .bin .eql (.tmp 46) (.lit (.int .i64 0)), none⟩, ⟨some 47, .mov (.tmp 48), none⟩]) (.cond (.tmp 47) .skip (.reg false [⟨some 49, .bin .eql (.tmp 46) (.lit (.int .i64 1)), none⟩, ⟨some 47, .mov (.tmp 49), none⟩]))) (.cond (.tmp 47) (.seq (.reg false [⟨some 50, .fa 1 (.tmp 5), none⟩, ⟨some 51, .load 1 false (.tmp 50), none⟩, ⟨some 52, .bin .eql (.tmp 51) (.lit (.int .i64 0)), none⟩, ⟨some 53, .mov (.tmp 52), none⟩, ⟨some 54, .fa 2 (.tmp 5), some ((53, true))⟩, ⟨some 55, .load 1 false (.tmp 54), some ((53, true))⟩, ⟨some 56, .bin .eql (.tmp 55) (.lit (.int .i64 0)), some ((53, true))⟩, ⟨some 57, .pick (.tmp 53) (.tmp 56) (.lit (.bool false)), none⟩, ⟨some 58, .mov (.tmp 57), none⟩, ⟨some 59, .mov (.tmp 8), some ((58, true))⟩, ⟨some 60, .bin .eql (.tmp 59) (.lit (.int .i64 0)), some ((58, true))⟩, ⟨some 61, .pick (.tmp 58) (.tmp 60) (.lit (.bool false)), none⟩, ⟨some 6, .mov (.tmp 61), none⟩]) .ret) (.seq (.reg false [⟨some 63, .bin .eql (.tmp 46) (.lit (.int .i64 2)), none⟩, ⟨some 62, .mov (.tmp 63), none⟩]) (.cond (.tmp 62) (.seq (.reg false [⟨some 64, .fa 1 (.tmp 5), none⟩, ⟨some 65, .load 1 false (.tmp 64), none⟩, ⟨some 66, .bin .geq (.tmp 65) (.lit (.int .i64 0)), none⟩, ⟨some 67, .mov (.tmp 66), none⟩, ⟨some 68, .fa 2 (.tmp 5), some ((67, true))⟩, ⟨some 69, .load 1 false (.tmp 68), some ((67, true))⟩, ⟨some 70, .bin .eql (.tmp 69) (.lit (.int .i64 0)), some ((67, true))⟩, ⟨some 71, .pick (.tmp 67) (.tmp 70) (.lit (.bool false)), none⟩, ⟨some 72, .mov (.tmp 71), none⟩, ⟨some 73, .mov (.tmp 8), some ((72, true))⟩, ⟨some 74, .bin .eql (.tmp 73) (.lit (.int .i64 0)), some ((72, true))⟩, ⟨some 75, .pick (.tmp 72) (.tmp 74) (.lit (.bool false)), none⟩, ⟨some 6, .mov (.tmp 75), none⟩]) .ret) (.seq (.reg false [⟨some 77, .bin .eql (.tmp 46) (.lit (.int .i64 3)), none⟩, ⟨some 76, .mov (.tmp 77), none⟩]) (.cond (.tmp 76) (.seq (.reg false [⟨some 78, .mov (.tmp 9), none⟩, ⟨some 79, .mov (.tmp 78), none⟩, ⟨some 80, .fa 2 (.tmp 5), some ((79, true))⟩, ⟨some 81, .load 1 false (.tmp 80), some ((79, true))⟩, ⟨some 82, .bin .eql (.tmp 81) (.lit (.int .i64 0)), some ((79, true))⟩, ⟨some 83, .pick (.tmp 79) (.tmp 82) (.lit (.bool false)), none⟩, ⟨some 84, .mov (.tmp 83), none⟩, ⟨some 85, .mov (.tmp 8), some ((84, true))⟩, ⟨some 86, .mov (.tmp 0), some ((84, true))⟩, ⟨some 87, .fa 1 (.tmp 5), some ((84, true))⟩, ⟨some 88, .load 1 false (.tmp 87), some ((84, true))⟩, ⟨some 89, .ia 2 (.tmp 86) (.tmp 88), some ((84, true))⟩, ⟨some 90, .fa 1 (.tmp 89), some ((84, true))⟩, ⟨some 91, .load 1 false (.tmp 90), some ((84, true))⟩, ⟨some 92, .lens (.tmp 91), some ((84, true))⟩, ⟨some 93, .bin .eql (.tmp 85) (.tmp 92), some ((84, true))⟩, ⟨some 94, .pick (.tmp 84) (.tmp 93) (.lit (.bool false)), none⟩, ⟨some 6, .mov (.tmp 94), none⟩]) .ret) (.seq (.seq (.reg false [⟨some 96, .bin .eql (.tmp 46) (.lit (.int .i64 4)), none⟩, ⟨some 95, .mov (.tmp 96), none⟩]) (.cond (.tmp 95) .skip (.reg false [⟨some 97, .bin .eql (.tmp 46) (.lit (.int .i64 5)), none⟩, ⟨some 95, .mov (.tmp 97), none⟩]))) (.cond (.tmp 95) (.seq (.reg false [⟨some 98, .fa 1 (.tmp 5), none⟩, ⟨some 99, .load 1 false (.tmp 98), none⟩, ⟨some 100, .bin .eql (.tmp 99) (.lit (.int .i64 0)), none⟩, ⟨some 101, .mov (.tmp 100), none⟩, ⟨some 102, .fa 2 (.tmp 5), some ((101, true))⟩, ⟨some 103, .load 1 false (.tmp 102), some ((101, true))⟩, ⟨some 104, .bin .eql (.tmp 103) (.lit (.int .i64 0)), some ((101, true))⟩, ⟨some 105, .pick (.tmp 101) (.tmp 104) (.lit (.bool false)), none⟩, ⟨some 106, .mov (.tmp 105), none⟩, ⟨some 107, .mov (.tmp 8), some ((106, true))⟩, ⟨some 108, .bin .eql (.tmp 107) (.lit (.int .i64 2)), some ((106, true))⟩, ⟨some 109, .pick (.tmp 106) (.tmp 108) (.lit (.bool false)), none⟩, ⟨some 6, .mov (.tmp 109), none⟩]) .ret) (.seq (.reg false [⟨some 111, .bin .eql (.tmp 46) (.lit (.int .i64 6)), none⟩, ⟨some 110, .mov (.tmp 111), none⟩]) (.cond (.tmp 110) (.seq (.reg true [⟨some 112, .mov (.tmp 9), none⟩, ⟨some 113, .mov (.tmp 112), none⟩, ⟨some 114, .fa 2 (.tmp 5), some ((113, true))⟩, ⟨some 115, .load 1 false (.tmp 114), some ((113, true))⟩, ⟨some 116, .bin .geq (.tmp 115) (.lit (.int .i64 0)), some ((113, true))⟩, ⟨some 117, .pick (.tmp 113) (.tmp 116) (.lit (.bool false)), none⟩, ⟨some 118, .mov (.tmp 117), none⟩, ⟨some 119, .fa 2 (.tmp 5), some ((118, true))⟩, ⟨some 120, .load 1 false (.tmp 119), some ((118, true))⟩, ⟨some 121, .mov (.tmp 0), some ((118, true))⟩, ⟨some 122, .fa 1 (.tmp 5), some ((118, true))⟩, ⟨some 123, .load 1 false (.tmp 122), some ((118, true))⟩, ⟨some 124, .ia 2 (.tmp 121) (.tmp 123), some ((118, true))⟩, ⟨some 125, .fa 1 (.tmp 124), some ((118, true))⟩, ⟨some 126, .load 1 false (.tmp 125), some ((118, true))⟩, ⟨some 127, .lens (.tmp 126), some ((118, true))⟩, ⟨some 128, .bin .lss (.tmp 120) (.tmp 127), some ((118, true))⟩, ⟨some 129, .pick (.tmp 118) (.tmp 128) (.lit (.bool false)), none⟩, ⟨some 130, .mov (.tmp 129), none⟩, ⟨some 131, .mov (.tmp 8), some ((130, true))⟩, ⟨some 132, .bin .eql (.tmp 131) (.lit (.int .i64 1)), some ((130, true))⟩, ⟨some 133, .pick (.tmp 130) (.tmp 132) (.lit (.bool false)), none⟩, ⟨some 6, .mov (.tmp 133), none⟩]) .ret) .skip)))))))))))) (.seq (.reg false [⟨some 6, .mov (.lit (.bool false)), none⟩]) .ret))))), [.tmp 6]⟩
def sigOk (l : List Sg) (i : Nat) : Prop := conOk (gi l i).name = true ∧ argsOk (gi l i).args = true ∧ (i : Int) ≤ fstAt (fun x => decide (x.name = (gi l i).name)) l
instance (l : List Sg) (i : Nat) : Decidable (sigOk l i) := inferInstanceAs (Decidable (_ ∧ _))
def sigRight (l : List Sg) : Bool := decide (∀ i : Nat, i < l.length → sigOk l i) && decide (l.length ≤ 64)
theorem sigBad {l : List Sg} {i : Nat} (h : i < l.length) (hn : ¬ sigOk l i) : sigRight l = false := by
  have : ¬ ∀ i : Nat, i < l.length → sigOk l i := fun hh => hn (hh i h)
  simp [sigRight, this]
theorem c22_ok : cFn Try.prog an0 Try.f22 = some c22 := by kernel_rfl
theorem sigRight_PF (l : List Sg) (hs : ∀ i : Nat, i < l.length → (gi l i).args.size ≤ maxA) : PF Try.prog 22 [sigs l] (.bool (sigRight l)) := by
  refine PFk 9 hm Try.func22 c22_ok (Nat.le_of_ble_eq_true rfl) (by simp) (by simp) ?_
  simp (maxSteps := 3000000) [-List.length_flatten, -List.map_drop, -List.map_take, Function.comp_def, argsT, Opd.ev, Tm.get, put, ares, mapMo, ares1, snilP, bldParts, bslParts, putAt, AV.cells, AV.one, astore, aload, loadCs, callArgs, abin, abinInt, aapp, elems, appMore, appNone, preLen, aFa, aFld, apart, aExt, aPick, aNot, aLens, aEqa, cellsK, fitsA, LK.fitsA, leavesA, leafA, nilD, aNilc, aCint, aCid, alive, alen, alenOk, Rle, lePs, len_flat, c22]
  refine run_count l.length 3 [(0, sigs l)] [] (fun i => ∀ j : Nat, j < i → sigOk l j) (Wk.tell 0 (Nat.le_refl _) (by simp [Tm.get]) (by simp) rfl (by simp)) (fun j hj => by omega) ?_
  intro i hi hj
  have next : ∀ h : i < l.length, sigOk l i → ∀ j : Nat, j < i + 1 → sigOk l j := fun h hb j hl => by
    rcases Nat.lt_or_ge j i with h3 | h3
    · exact hj j h3
    · have : j = i := by omega
      subst this
      exact hb
  simp (maxSteps := 3000000) [-List.length_flatten, -List.map_drop, -List.map_take, Function.comp_def, argsT, Opd.ev, Tm.get, put, ares, mapMo, ares1, snilP, bldParts, bslParts, putAt, AV.cells, AV.one, astore, aload, loadCs, callArgs, abin, abinInt, aapp, elems, appMore, appNone, preLen, aFa, aFld, apart, aExt, aPick, aNot, aLens, aEqa, cellsK, fitsA, LK.fitsA, leavesA, leafA, nilD, aNilc, aCint, aCid, alive, alen, alenOk, Rle, lePs, len_flat]
  intro ha
  refine ⟨fun h1 => ⟨h1, ?_⟩, fun h1 _ => ?_⟩
  · refine PF.call (con_PF (gi l i).name) 9 (by simp [lePs]) ?_
    simp (maxSteps := 3000000) [-List.length_flatten, -List.map_drop, -List.map_take, Function.comp_def, argsT, Opd.ev, Tm.get, put, ares, mapMo, ares1, snilP, bldParts, bslParts, putAt, AV.cells, AV.one, astore, aload, loadCs, callArgs, abin, abinInt, aapp, elems, appMore, appNone, preLen, aFa, aFld, apart, aExt, aPick, aNot, aLens, aEqa, cellsK, fitsA, LK.fitsA, leavesA, leafA, nilD, aNilc, aCint, aCid, alive, alen, alenOk, Rle, lePs, len_flat, Kc]
    refine ⟨fun h2 => ⟨h1, ?_⟩, fun h2 => sigBad h1 (fun h => by simp [sigOk, h2] at h)⟩
    refine PF.call (args_PF (gi l i).args (hs i h1)) 9 (by simp [lePs]) ?_
    simp (maxSteps := 3000000) [-List.length_flatten, -List.map_drop, -List.map_take, Function.comp_def, argsT, Opd.ev, Tm.get, put, ares, mapMo, ares1, snilP, bldParts, bslParts, putAt, AV.cells, AV.one, astore, aload, loadCs, callArgs, abin, abinInt, aapp, elems, appMore, appNone, preLen, aFa, aFld, apart, aExt, aPick, aNot, aLens, aEqa, cellsK, fitsA, LK.fitsA, leavesA, leafA, nilD, aNilc, aCint, aCid, alive, alen, alenOk, Rle, lePs, len_flat, Kc]
    refine ⟨fun h3 => sigBad h1 (fun h => by simp [sigOk, h3] at h), fun h3 => ⟨h1, ?_⟩⟩
    refine PF.call (find_PF l (gi l i).name) 9 (by simp [lePs]) ?_
    simp (maxSteps := 3000000) [-List.length_flatten, -List.map_drop, -List.map_take, Function.comp_def, argsT, Opd.ev, Tm.get, put, ares, mapMo, ares1, snilP, bldParts, bslParts, putAt, AV.cells, AV.one, astore, aload, loadCs, callArgs, abin, abinInt, aapp, elems, appMore, appNone, preLen, aFa, aFld, apart, aExt, aPick, aNot, aLens, aEqa, cellsK, fitsA, LK.fitsA, leavesA, leafA, nilD, aNilc, aCint, aCid, alive, alen, alenOk, Rle, lePs, len_flat, Kc]
    refine ⟨fun h4 => sigBad h1 (fun h => by have := h.2.2; omega), fun h4 => ?_⟩
    exact Kn_next 0 (Nat.le_refl _) (by omega) (next h1 ⟨h2, h3, h4⟩) (by simp [Tm.get, nxt h1 ha]) (by simp) rfl (by simp)
  · have h8 : decide ((l.length : Int) ≤ 64) = decide (l.length ≤ 64) := by
      congr 1
      apply propext
      omega
    have : ∀ i : Nat, i < l.length → sigOk l i := fun j hl => hj j (by omega)
    rw [h8]
    simp [sigRight]
    exact fun _ => this
theorem c29_ok : cFn Try.prog an0 Try.f29 = some c29 := by kernel_rfl
theorem termAt_in {a : Kd} {id : Int} (h0 : 0 ≤ id) (h1 : id < a.keys.length) : termAt a id = termOf (gi a.keys id) := by
  have : ¬ (id < 0 ∨ id ≥ a.keys.length) := by omega
  unfold termAt
  rw [if_neg this]
theorem rof_PF (a : Kd) (id : Int) : PF Try.prog 29 [.agg a.cs, i64 id] (.tuple [.agg (termAt a id).1.cs, .bool (termAt a id).2]) := by
  refine PFk 9 hm Try.func29 c29_ok (Nat.le_of_ble_eq_true rfl) (by simp) (by simp) ?_
  simp (maxSteps := 3000000) [-List.length_flatten, -List.map_drop, -List.map_take, Function.comp_def, argsT, Opd.ev, Tm.get, put, ares, mapMo, ares1, snilP, bldParts, bslParts, putAt, AV.cells, AV.one, astore, aload, loadCs, callArgs, abin, abinInt, aapp, elems, appMore, appNone, preLen, aFa, aFld, apart, aExt, aPick, aNot, aLens, aEqa, cellsK, fitsA, LK.fitsA, leavesA, leafA, nilD, aNilc, aCint, aCid, alive, alen, alenOk, Rle, lePs, len_flat, c29]
  refine ⟨fun h0 => by simp [termAt, h0], fun h0 _ => ⟨fun h1 => by simp [termAt, h1], fun h1 => ⟨⟨h0, h1⟩, fun _ => ⟨fun h2 => ?_, fun h2 => ⟨⟨h0, h1⟩, by omega, by omega, by omega, by omega, ?_⟩⟩⟩⟩⟩
  · rw [termAt_in h0 h1]
    have : (gi a.keys id).length < 3 := by omega
    simp [termOf, this]
  · rw [termAt_in h0 h1]
    have : ¬ (gi a.keys id).length < 3 := by omega
    simp [termOf, this]
/-- What may stand among so many terms. -/
def mayBe (l : List Sg) (many : Int) (t : Tm0) : Bool :=
  decide (∀ i : Nat, i < t.args.length → 0 ≤ gi t.args i ∧ gi t.args i < many) &&
  (if t.kind = 0 ∨ t.kind = 1 then decide (t.sym = 0 ∧ t.part = 0 ∧ t.args.length = 0)
  else if t.kind = 2 then decide (0 ≤ t.sym ∧ t.part = 0 ∧ t.args.length = 0)
  else if t.kind = 3 then decide ((0 ≤ t.sym ∧ t.sym < l.length) ∧ t.part = 0 ∧ t.args.length = (gi l t.sym).args.size)
  else if t.kind = 4 ∨ t.kind = 5 then decide (t.sym = 0 ∧ t.part = 0 ∧ t.args.length = 2)
  else if t.kind = 6 then decide ((0 ≤ t.sym ∧ t.sym < l.length) ∧ 0 ≤ t.part ∧ t.part < (gi l t.sym).args.size ∧ t.args.length = 1)
  else false)
theorem mayBe_all {l : List Sg} {many : Int} {t : Tm0} (h : ∀ i : Nat, i < t.args.length → 0 ≤ gi t.args i ∧ gi t.args i < many) : mayBe l many t =
  (if t.kind = 0 ∨ t.kind = 1 then decide (t.sym = 0 ∧ t.part = 0 ∧ t.args.length = 0)
  else if t.kind = 2 then decide (0 ≤ t.sym ∧ t.part = 0 ∧ t.args.length = 0)
  else if t.kind = 3 then decide ((0 ≤ t.sym ∧ t.sym < l.length) ∧ t.part = 0 ∧ t.args.length = (gi l t.sym).args.size)
  else if t.kind = 4 ∨ t.kind = 5 then decide (t.sym = 0 ∧ t.part = 0 ∧ t.args.length = 2)
  else if t.kind = 6 then decide ((0 ≤ t.sym ∧ t.sym < l.length) ∧ 0 ≤ t.part ∧ t.part < (gi l t.sym).args.size ∧ t.args.length = 1)
  else false) := by
  unfold mayBe
  rw [decide_eq_true h, Bool.true_and]
theorem c47_ok : cFn Try.prog an0 Try.f47 = some c47 := by kernel_rfl
set_option maxHeartbeats 8000000 in
theorem may_PF (l : List Sg) (many : Int) (t : Tm0) (hl : t.args.length ≤ maxA) : PF Try.prog 47 [sigs l, i64 many, .agg t.cs] (.bool (mayBe l many t)) := by
  refine PFk 9 hm Try.func47 c47_ok (Nat.le_of_ble_eq_true rfl) (by simp) (by simp) ?_
  simp (maxSteps := 3000000) [-List.length_flatten, -List.map_drop, -List.map_take, Function.comp_def, argsT, Opd.ev, Tm.get, put, ares, mapMo, ares1, snilP, bldParts, bslParts, putAt, AV.cells, AV.one, astore, aload, loadCs, callArgs, abin, abinInt, aapp, elems, appMore, appNone, preLen, aFa, aFld, apart, aExt, aPick, aNot, aLens, aEqa, cellsK, fitsA, LK.fitsA, leavesA, leafA, nilD, aNilc, aCint, aCid, alive, alen, alenOk, Rle, lePs, len_flat, c47]
  refine run_count t.args.length 7 [(5, .ptr 0 0 0), (0, sigs l), (1, i64 many)] [.cells 0 t.cs] (fun i => ∀ j : Nat, j < i → 0 ≤ gi t.args j ∧ gi t.args j < many) (Wk.tell 1 (by simp) (by simp [Tm.get]) (by simp) rfl (by simp [RLB])) (fun j hj => by omega) ?_
  intro i hi hj
  have next : i < t.args.length → 0 ≤ gi t.args i ∧ gi t.args i < many → ∀ j : Nat, j < i + 1 → 0 ≤ gi t.args j ∧ gi t.args j < many := fun h hb j hl => by
    rcases Nat.lt_or_ge j i with h3 | h3
    · exact hj j h3
    · have : j = i := by omega
      subst this
      exact hb
  have bad : i < t.args.length → ¬ (0 ≤ gi t.args i ∧ gi t.args i < many) → mayBe l many t = false := fun h hb => by
    have : ¬ ∀ i : Nat, i < t.args.length → 0 ≤ gi t.args i ∧ gi t.args i < many := fun hh => hb (hh i h)
    simp only [mayBe, this, decide_false, Bool.false_and]
  simp (maxSteps := 3000000) [-List.length_flatten, -List.map_drop, -List.map_take, Function.comp_def, argsT, Opd.ev, Tm.get, put, ares, mapMo, ares1, snilP, bldParts, bslParts, putAt, AV.cells, AV.one, astore, aload, loadCs, callArgs, abin, abinInt, aapp, elems, appMore, appNone, preLen, aFa, aFld, apart, aExt, aPick, aNot, aLens, aEqa, cellsK, fitsA, LK.fitsA, leavesA, leafA, nilD, aNilc, aCint, aCid, alive, alen, alenOk, Rle, lePs, len_flat]
  intro _
  refine ⟨fun h1 => ⟨h1, fun h2 => bad h1 (by omega), fun h2 => ⟨h1, fun h3 => bad h1 (by omega), fun h3 => ?_⟩⟩, fun h1 => ?_⟩
  · exact Kn_next 1 (by omega) (by omega) (next h1 ⟨h2, h3⟩) (by simp [Tm.get, nxt h1 hl]) (by simp) rfl (by simp [RLB])
  · have hall : ∀ i : Nat, i < t.args.length → 0 ≤ gi t.args i ∧ gi t.args i < many := fun j hl => hj j (by omega)
    have hm0 := mayBe_all (l := l) hall
    rw [hm0]
    have hn : (t.args = []) = (t.args.length = 0) := by simp
    simp only [hn]
    clear hm0 bad next hall hj hn hi h1
    repeat' (first | with_reducible apply And.intro | with_reducible intro _)
    all_goals first
      | omega
      | (simp [*]; done)
      | (simp [*]; omega)
      | skip
end Go.AM

namespace Go.AM
open Go.Proofs
set_option maxRecDepth 100000
set_option linter.unusedVariables false
set_option linter.unusedSimpArgs false
def c23 : AFn := ⟨30, .seq (.reg false [⟨some 1, .box (.tmp 0), none⟩, ⟨some 2, .mov (.lit (.bool false)), none⟩]) (.seq (.reg false [⟨some 5, .fa 1 (.tmp 1), none⟩, ⟨some 6, .load 1 false (.tmp 5), none⟩, ⟨some 7, .len (.tmp 6), none⟩, ⟨some 3, .mov (.tmp 7), none⟩]) (.seq (.seq (.reg false [⟨some 4, .mov (.lit (.int .i64 0)), none⟩]) (.block 0 (.loop (.seq (.seq (.reg false [⟨some 8, .mov (.tmp 4), none⟩, ⟨some 9, .fa 0 (.tmp 1), none⟩, ⟨some 10, .load 1 false (.tmp 9), none⟩, ⟨some 11, .len (.tmp 10), none⟩, ⟨some 12, .bin .lss (.tmp 8) (.tmp 11), none⟩, ⟨some 13, .mov (.tmp 12), none⟩, ⟨some 14, .mov (.tmp 3), some ((13, true))⟩, ⟨some 15, .bin .leq (.tmp 14) (.lit (.int .i64 2000)), some ((13, true))⟩, ⟨some 16, .pick (.tmp 13) (.tmp 15) (.lit (.bool false)), none⟩]) (.cond (.tmp 16) .skip (.exit 0))) (.seq (.block 1 (.reg false [⟨some 19, .mov (.tmp 3), none⟩, ⟨some 20, .bin .add (.tmp 19) (.lit (.int .i64 1)), none⟩, ⟨some 21, .fa 0 (.tmp 1), none⟩, ⟨some 22, .load 1 false (.tmp 21), none⟩, ⟨some 23, .mov (.tmp 4), none⟩, ⟨some 24, .ia 1 (.tmp 22) (.tmp 23), none⟩, ⟨some 25, .load 1 false (.tmp 24), none⟩, ⟨some 26, .len (.tmp 25), none⟩, ⟨some 27, .bin .add (.tmp 20) (.tmp 26), none⟩, ⟨some 3, .mov (.tmp 27), none⟩])) (.reg false [⟨some 17, .mov (.tmp 4), none⟩, ⟨some 18, .bin .add (.tmp 17) (.lit (.int .i64 1)), none⟩, ⟨some 4, .mov (.tmp 18), none⟩])))))) (.seq (.reg false [⟨some 28, .mov (.tmp 3), none⟩, ⟨some 29, .bin .leq (.tmp 28) (.lit (.int .i64 2000)), none⟩, ⟨some 2, .mov (.tmp 29), none⟩]) .ret))), [.tmp 2]⟩
def c41 : AFn := ⟨12, .seq (.reg false [⟨some 2, .mov (.lit (.int .i64 0)), none⟩]) (.seq (.reg false [⟨some 3, .mov (.lit (.int .i64 8)), none⟩]) (.seq (.block 0 (.loop (.seq (.seq (.reg false [⟨some 4, .mov (.tmp 3), none⟩, ⟨some 5, .bin .mul (.tmp 4) (.lit (.int .i64 3)), none⟩, ⟨some 6, .mov (.tmp 0), none⟩, ⟨some 7, .bin .mul (.tmp 6) (.lit (.int .i64 4)), none⟩, ⟨some 8, .bin .lss (.tmp 5) (.tmp 7), none⟩]) (.cond (.tmp 8) .skip (.exit 0))) (.block 1 (.reg false [⟨some 9, .mov (.tmp 3), none⟩, ⟨some 10, .bin .mul (.tmp 9) (.lit (.int .i64 2)), none⟩, ⟨some 3, .mov (.tmp 10), none⟩]))))) (.seq (.reg false [⟨some 11, .mov (.tmp 3), none⟩, ⟨some 2, .mov (.tmp 11), none⟩]) .ret))), [.tmp 2]⟩
def c42 : AFn := ⟨32, .seq (.reg false [⟨some 2, .mov (.lit (.int .u32 0)), none⟩]) (.seq (.reg false [⟨some 3, .mov (.lit (.int .u32 2166136261)), none⟩]) (.seq (.seq (.reg false [⟨some 4, .mov (.lit (.int .i64 0)), none⟩]) (.block 0 (.loop (.seq (.seq (.reg false [⟨some 7, .mov (.tmp 4), none⟩, ⟨some 8, .mov (.tmp 0), none⟩, ⟨some 9, .len (.tmp 8), none⟩, ⟨some 10, .bin .lss (.tmp 7) (.tmp 9), none⟩]) (.cond (.tmp 10) .skip (.exit 0))) (.seq (.block 1 (.seq (.reg false [⟨some 13, .mov (.tmp 0), none⟩, ⟨some 14, .mov (.tmp 4), none⟩, ⟨some 15, .ia 1 (.tmp 13) (.tmp 14), none⟩, ⟨some 16, .load 1 false (.tmp 15), none⟩, ⟨some 17, .cint .u64 (.tmp 16), none⟩, ⟨some 5, .mov (.tmp 17), none⟩]) (.seq (.reg false [⟨some 6, .mov (.lit (.int .i64 0)), none⟩]) (.block 2 (.loop (.seq (.seq (.reg false [⟨some 18, .mov (.tmp 6), none⟩, ⟨some 19, .bin .lss (.tmp 18) (.lit (.int .i64 8)), none⟩]) (.cond (.tmp 19) .skip (.exit 2))) (.seq (.block 3 (.seq (.reg false [⟨some 22, .mov (.tmp 3), none⟩, ⟨some 23, .mov (.tmp 5), none⟩, ⟨some 24, .bin .rem (.tmp 23) (.lit (.int .u64 256)), none⟩, ⟨some 25, .cint .u32 (.tmp 24), none⟩, ⟨some 26, .bin .xor (.tmp 22) (.tmp 25), none⟩, ⟨some 3, .mov (.tmp 26), none⟩]) (.seq (.reg false [⟨some 27, .mov (.tmp 3), none⟩, ⟨some 28, .bin .mul (.tmp 27) (.lit (.int .u32 16777619)), none⟩, ⟨some 3, .mov (.tmp 28), none⟩]) (.reg false [⟨some 29, .mov (.tmp 5), none⟩, ⟨some 30, .bin .quo (.tmp 29) (.lit (.int .u64 256)), none⟩, ⟨some 5, .mov (.tmp 30), none⟩])))) (.reg false [⟨some 20, .mov (.tmp 6), none⟩, ⟨some 21, .bin .add (.tmp 20) (.lit (.int .i64 1)), none⟩, ⟨some 6, .mov (.tmp 21), none⟩])))))))) (.reg false [⟨some 11, .mov (.tmp 4), none⟩, ⟨some 12, .bin .add (.tmp 11) (.lit (.int .i64 1)), none⟩, ⟨some 4, .mov (.tmp 12), none⟩])))))) (.seq (.reg false [⟨some 31, .mov (.tmp 3), none⟩, ⟨some 2, .mov (.tmp 31), none⟩]) .ret))), [.tmp 2]⟩
theorem c41_ok : cFn Try.prog an0 Try.f41 = some c41 := by kernel_rfl
def sizeFrom (n : Nat) : Nat → Nat → Nat
  | 0, s => s
  | f + 1, s => if s * 3 < n * 4 then sizeFrom n f (s * 2) else s
theorem sizeFrom_done {n s : Nat} (h : ¬ s * 3 < n * 4) : ∀ f, sizeFrom n f s = s
  | 0 => rfl
  | f + 1 => by rw [sizeFrom, if_neg h]
theorem size_PF (n : Nat) (hn : n ≤ 1048576) : PF Try.prog 41 [i64 n] (i64 (sizeFrom n 18 8)) := by
  refine PFk 9 hm Try.func41 c41_ok (Nat.le_of_ble_eq_true rfl) (by simp) (by simp) ?_
  simp (maxSteps := 3000000) [-List.length_flatten, -List.map_drop, -List.map_take, Function.comp_def, argsT, Opd.ev, Tm.get, put, ares, mapMo, ares1, snilP, bldParts, bslParts, putAt, AV.cells, AV.one, astore, aload, loadCs, callArgs, abin, abinInt, aapp, elems, appMore, appNone, preLen, aFa, aFld, apart, aExt, aPick, aNot, aLens, aEqa, cellsK, fitsA, LK.fitsA, leavesA, leafA, nilD, aNilc, aCint, aCid, alive, alen, alenOk, Rle, lePs, len_flat, c41]
  refine run_loop (fun m T H => ∃ s : Nat, sizeFrom n m s = sizeFrom n 18 8 ∧ s * 2 ^ m = 8 * 2 ^ 18 ∧ m ≤ 18 ∧ 0 < s ∧ T = [(3, i64 s), (0, i64 n)] ∧ H = []) 18 [(3, i64 8), (0, i64 n)] []
    (Wk.tell 0 (Nat.le_refl _) (by simp [Tm.get]) (by simp) rfl (by simp)) ⟨8, rfl, rfl, Nat.le_refl _, by omega, rfl, rfl⟩ ?_
  rintro m T H ⟨s, h1, h2, h3, h4, rfl, rfl⟩
  have hs : s ≤ 2097152 := by
    have : 1 ≤ 2 ^ m := Nat.one_le_two_pow
    have := Nat.le_mul_of_pos_right s (show 0 < 2 ^ m by omega)
    omega
  have w1 : IntKind.i64.wrap ((s : Int) * 3) = ((s * 3 : Nat) : Int) := by rw [w64 (by omega) (by omega)]; simp
  have w2 : IntKind.i64.wrap ((n : Int) * 4) = ((n * 4 : Nat) : Int) := by rw [w64 (by omega) (by omega)]; simp
  have w3 : IntKind.i64.wrap ((s : Int) * 2) = ((s * 2 : Nat) : Int) := by rw [w64 (by omega) (by omega)]; simp
  simp (maxSteps := 3000000) [-List.length_flatten, -List.map_drop, -List.map_take, Function.comp_def, argsT, Opd.ev, Tm.get, put, ares, mapMo, ares1, snilP, bldParts, bslParts, putAt, AV.cells, AV.one, astore, aload, loadCs, callArgs, abin, abinInt, aapp, elems, appMore, appNone, preLen, aFa, aFld, apart, aExt, aPick, aNot, aLens, aEqa, cellsK, fitsA, LK.fitsA, leavesA, leafA, nilD, aNilc, aCint, aCid, alive, alen, alenOk, Rle, lePs, len_flat, w1, w2, w3]
  refine ⟨fun h => ?_, fun h => ?_⟩
  · have h' : s * 3 < n * 4 := by omega
    cases m with
    | zero => simp at h2; omega
    | succ m =>
      refine Kl_next m 0 (Nat.le_refl _) ⟨s * 2, ?_, ?_, by omega, by omega, rfl, rfl⟩ (by simp [Tm.get]) (by simp) rfl (by simp) (by omega)
      · rw [← h1, sizeFrom, if_pos h']
      · rw [Nat.pow_succ] at h2
        rw [Nat.mul_assoc, Nat.mul_comm 2, h2]
  · have h' : ¬ s * 3 < n * 4 := by omega
    rw [← h1, sizeFrom_done h']
/-- One byte of a number, into the sum. -/
def hstep (p : Int × Int) : Int × Int :=
  (IntKind.u32.wrap (IntKind.u32.wrap (((p.1 % 2 ^ IntKind.u32.bits).toNat ^^^ (IntKind.u32.wrap (p.2.tmod 256) % 2 ^ IntKind.u32.bits).toNat : Nat) : Int) * 16777619), IntKind.u64.wrap (p.2.tdiv 256))
def hsteps : Nat → Int × Int → Int × Int
  | 0, p => p
  | n + 1, p => hstep (hsteps n p)
def hashOf (k : List Int) : Int := k.foldl (fun h n => (hsteps 8 (h, IntKind.u64.wrap n)).1) 2166136261
theorem foldl_take {α β : Type} [Inhabited α] (f : β → α → β) (b : β) (l : List α) (i : Nat) (h : i < l.length) : (l.take (i + 1)).foldl f b = f ((l.take i).foldl f b) (gi l i) := by
  rw [List.take_succ_eq_append_getElem h, List.foldl_append]
  simp [gi, List.getD, h]
theorem c42_ok : cFn Try.prog an0 Try.f42 = some c42 := by kernel_rfl
theorem hash_PF (k : List Int) : PF Try.prog 42 [ints k] (.int .u32 (hashOf k)) := by
  refine PFk 9 hm Try.func42 c42_ok (Nat.le_of_ble_eq_true rfl) (by simp) (by simp) ?_
  simp (maxSteps := 3000000) [-List.length_flatten, -List.map_drop, -List.map_take, Function.comp_def, argsT, Opd.ev, Tm.get, put, ares, mapMo, ares1, snilP, bldParts, bslParts, putAt, AV.cells, AV.one, astore, aload, loadCs, callArgs, abin, abinInt, aapp, elems, appMore, appNone, preLen, aFa, aFld, apart, aExt, aPick, aNot, aLens, aEqa, cellsK, fitsA, LK.fitsA, leavesA, leafA, nilD, aNilc, aCint, aCid, alive, alen, alenOk, Rle, lePs, len_flat, c42]
  refine run_loop (fun m T H => ∃ i : Nat, m = k.length - i ∧ i ≤ k.length ∧ T = [(4, i64 i), (3, .int .u32 ((k.take i).foldl (fun h n => (hsteps 8 (h, IntKind.u64.wrap n)).1) 2166136261)), (0, ints k)] ∧ H = []) k.length [(4, i64 0), (3, .int .u32 2166136261), (0, ints k)] []
    (Wk.tell 0 (Nat.le_refl _) (by simp [Tm.get]) (by simp) rfl (by simp)) ⟨0, by simp, by simp, by simp, rfl⟩ ?_
  rintro m T H ⟨i, rfl, hi, rfl, rfl⟩
  generalize hg : (k.take i).foldl (fun h n => (hsteps 8 (h, IntKind.u64.wrap n)).1) 2166136261 = g
  simp (maxSteps := 3000000) [-List.length_flatten, -List.map_drop, -List.map_take, Function.comp_def, argsT, Opd.ev, Tm.get, put, ares, mapMo, ares1, snilP, bldParts, bslParts, putAt, AV.cells, AV.one, astore, aload, loadCs, callArgs, abin, abinInt, aapp, elems, appMore, appNone, preLen, aFa, aFld, apart, aExt, aPick, aNot, aLens, aEqa, cellsK, fitsA, LK.fitsA, leavesA, leafA, nilD, aNilc, aCint, aCid, alive, alen, alenOk, Rle, lePs, len_flat]
  intro ha
  refine ⟨fun h1 => ⟨h1, ?_⟩, fun h1 => ?_⟩
  · refine run_loop (fun m T H => ∃ j : Nat, m = 8 - j ∧ j ≤ 8 ∧ T = [(6, i64 j), (3, .int .u32 (hsteps j (g, IntKind.u64.wrap (gi k i))).1), (5, .int .u64 (hsteps j (g, IntKind.u64.wrap (gi k i))).2), (4, i64 i), (0, ints k)] ∧ H = []) 8 [(6, i64 0), (3, .int .u32 g), (5, .int .u64 (IntKind.u64.wrap (gi k i))), (4, i64 i), (0, ints k)] []
      (Wk.tell 0 (Nat.le_refl _) (by simp [Tm.get]) (by simp) rfl (by simp)) ⟨0, by simp, by simp, by simp [hsteps], rfl⟩ ?_
    rintro m T H ⟨j, rfl, hj, rfl, rfl⟩
    simp (maxSteps := 3000000) [-List.length_flatten, -List.map_drop, -List.map_take, Function.comp_def, argsT, Opd.ev, Tm.get, put, ares, mapMo, ares1, snilP, bldParts, bslParts, putAt, AV.cells, AV.one, astore, aload, loadCs, callArgs, abin, abinInt, aapp, elems, appMore, appNone, preLen, aFa, aFld, apart, aExt, aPick, aNot, aLens, aEqa, cellsK, fitsA, LK.fitsA, leavesA, leafA, nilD, aNilc, aCint, aCid, alive, alen, alenOk, Rle, lePs, len_flat]
    refine ⟨fun h2 => ?_, fun h2 => ?_⟩
    · have hw := nxt (i := j) (n := 8) (by omega) (by unfold maxA; omega)
      exact Kl_next (8 - (j + 1)) 0 (Nat.le_refl _) ⟨j + 1, rfl, by omega, rfl, rfl⟩ (by simp [Tm.get, hw, hsteps, hstep]) (by simp) rfl (by simp) (by omega)
    · have : j = 8 := by omega
      subst this
      refine Kl_next (k.length - (i + 1)) 0 (Nat.le_refl _) ⟨i + 1, rfl, h1, rfl, rfl⟩ ?_ (by simp) rfl (by simp) (by omega)
      have e := foldl_take (fun h n => (hsteps 8 (h, IntKind.u64.wrap n)).1) 2166136261 k i h1
      rw [hg] at e
      rw [e]
      simp [Tm.get, nxt h1 ha]
  · have : k.take i = k := List.take_of_length_le (by omega)
    rw [← hg, this]
    rfl
def psum (n : Nat) (ks : List (List Int)) : Nat := ks.foldl (fun s k => s + 1 + k.length) n
theorem psum_le : ∀ (ks : List (List Int)) (n : Nat), n ≤ psum n ks
  | [], n => Nat.le_refl n
  | k :: ks, n => by
    have := psum_le ks (n + 1 + k.length)
    simp only [psum, List.foldl_cons] at this ⊢
    omega
theorem psum_take (ks : List (List Int)) (n i : Nat) : psum n (ks.take i) ≤ psum n ks := by
  have h := psum_le (ks.drop i) (psum n (ks.take i))
  have e : psum (psum n (ks.take i)) (ks.drop i) = psum n ks := by
    unfold psum
    rw [← List.foldl_append, List.take_append_drop]
  rwa [e] at h
def few (a : Kd) : Bool := decide (psum a.slots.length a.keys ≤ 2000)
theorem c23_ok : cFn Try.prog an0 Try.f23 = some c23 := by kernel_rfl
theorem few_PF (a : Kd) : PF Try.prog 23 [.agg a.cs] (.bool (few a)) := by
  refine PFk 9 hm Try.func23 c23_ok (Nat.le_of_ble_eq_true rfl) (by simp) (by simp) ?_
  simp (maxSteps := 3000000) [-List.length_flatten, -List.map_drop, -List.map_take, Function.comp_def, argsT, Opd.ev, Tm.get, put, ares, mapMo, ares1, snilP, bldParts, bslParts, putAt, AV.cells, AV.one, astore, aload, loadCs, callArgs, abin, abinInt, aapp, elems, appMore, appNone, preLen, aFa, aFld, apart, aExt, aPick, aNot, aLens, aEqa, cellsK, fitsA, LK.fitsA, leavesA, leafA, nilD, aNilc, aCint, aCid, alive, alen, alenOk, Rle, lePs, len_flat, c23]
  intro hsl
  refine run_loop (fun m T H => ∃ i : Nat, m = a.keys.length - i ∧ i ≤ a.keys.length ∧ psum a.slots.length (a.keys.take i) ≤ 3 * maxA ∧ T = [(4, i64 i), (3, i64 (psum a.slots.length (a.keys.take i))), (1, .ptr 0 0 0)] ∧ H = [.cells 0 a.cs]) a.keys.length [(4, i64 0), (3, i64 a.slots.length), (1, .ptr 0 0 0)] [.cells 0 a.cs]
    (Wk.tell 1 (by omega) (by simp [Tm.get]) (by simp) rfl (by simp [RLB])) ⟨0, by simp, by simp, by simp [psum]; omega, by simp [psum], rfl⟩ ?_
  rintro m T H ⟨i, rfl, hi, hps, rfl, rfl⟩
  have hle := psum_take a.keys a.slots.length i
  have next : ∀ h : i < a.keys.length, psum a.slots.length (a.keys.take (i + 1)) = psum a.slots.length (a.keys.take i) + 1 + (gi a.keys i).length := fun h => by
    unfold psum
    rw [foldl_take _ _ _ _ h]
  generalize hg : psum a.slots.length (a.keys.take i) = g at *
  simp (maxSteps := 3000000) [-List.length_flatten, -List.map_drop, -List.map_take, Function.comp_def, argsT, Opd.ev, Tm.get, put, ares, mapMo, ares1, snilP, bldParts, bslParts, putAt, AV.cells, AV.one, astore, aload, loadCs, callArgs, abin, abinInt, aapp, elems, appMore, appNone, preLen, aFa, aFld, apart, aExt, aPick, aNot, aLens, aEqa, cellsK, fitsA, LK.fitsA, leavesA, leafA, nilD, aNilc, aCint, aCid, alive, alen, alenOk, Rle, lePs, len_flat]
  intro ha
  refine ⟨fun h1 => ⟨fun h2 => ⟨h1, fun h3 => ?_⟩, fun h2 => ?_⟩, fun h1 => ?_⟩
  · have hn := next h1
    have w1 : IntKind.i64.wrap (IntKind.i64.wrap ((g : Int) + 1) + ((gi a.keys i).length : Int)) = ((psum a.slots.length (a.keys.take (i + 1)) : Nat) : Int) := by
      unfold maxA at h3
      rw [hn, w64 (n := (g : Int) + 1) (by omega) (by omega), w64 (by omega) (by omega)]
      simp
    exact Kl_next (a.keys.length - (i + 1)) 1 (by omega) ⟨i + 1, rfl, h1, by rw [hn]; unfold maxA at *; omega, rfl, rfl⟩ (by simp [Tm.get, nxt h1 ha, w1]) (by simp) rfl (by simp [RLB]) (by omega)
  · have h3 : ¬ psum a.slots.length a.keys ≤ 2000 := by omega
    have h4 : ¬ (g : Int) ≤ 2000 := by omega
    simp [few, h3, h4]
  · have e : a.keys.take i = a.keys := List.take_of_length_le (by omega)
    rw [e] at hg
    unfold few
    rw [hg]
    congr 1
    apply propext
    omega
end Go.AM
