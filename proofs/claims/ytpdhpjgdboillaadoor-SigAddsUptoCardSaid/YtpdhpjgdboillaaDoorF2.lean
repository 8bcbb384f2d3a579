/- Contracts of the program's functions. -/
import Derived.Test.YtpdhpjgdboillaaDoorF1
import Derived.KernelRfl
namespace Go.AM
open Go.Proofs
set_option maxRecDepth 100000
set_option linter.unusedVariables false
set_option linter.unusedSimpArgs false
def c6 : AFn := ⟨104, .seq (.reg false [⟨some 4, .mov (.lit (.bool false)), none⟩]) (.seq (.reg false [⟨some 10, .call (.lit (.fn (.func 8) [] [])) [], none⟩, ⟨some 5, .mov (.tmp 10), none⟩]) (.seq (.seq (.reg false [⟨some 11, .mov (.tmp 0), none⟩, ⟨some 12, .lens (.tmp 11), none⟩, ⟨some 13, .bin .gtr (.tmp 12) (.lit (.int .i64 50)), none⟩]) (.cond (.tmp 13) (.seq (.reg false [⟨some 14, .mov (.tmp 5), none⟩, ⟨some 4, .mov (.tmp 14), none⟩]) .ret) .skip)) (.seq (.reg false [⟨some 15, .mov (.tmp 0), none⟩, ⟨some 16, .call (.lit (.fn (.func 16) [] [])) [.tmp 15], none⟩, ⟨some 6, .mov (.tmp 16), none⟩]) (.seq (.reg false [⟨some 17, .mov (.tmp 0), none⟩, ⟨some 18, .call (.lit (.fn (.func 17) [] [])) [.tmp 17], none⟩, ⟨some 7, .mov (.tmp 18), none⟩]) (.seq (.reg false [⟨some 19, .mov (.tmp 1), none⟩, ⟨some 20, .bin .geq (.tmp 19) (.lit (.int .u8 97)), none⟩, ⟨some 21, .mov (.tmp 20), none⟩, ⟨some 22, .mov (.tmp 1), some ((21, true))⟩, ⟨some 23, .bin .leq (.tmp 22) (.lit (.int .u8 122)), some ((21, true))⟩, ⟨some 24, .pick (.tmp 21) (.tmp 23) (.lit (.bool false)), none⟩, ⟨some 25, .mov (.tmp 24), none⟩, ⟨some 26, .mov (.tmp 1), some ((25, false))⟩, ⟨some 27, .bin .geq (.tmp 26) (.lit (.int .u8 65)), some ((25, false))⟩, ⟨some 28, .mov (.tmp 27), some ((25, false))⟩, ⟨some 29, .mov (.tmp 1), some ((28, true))⟩, ⟨some 30, .bin .leq (.tmp 29) (.lit (.int .u8 90)), some ((28, true))⟩, ⟨some 31, .pick (.tmp 28) (.tmp 30) (.lit (.bool false)), some ((25, false))⟩, ⟨some 32, .pick (.tmp 25) (.lit (.bool true)) (.tmp 31), none⟩, ⟨some 33, .mov (.tmp 32), none⟩, ⟨some 34, .mov (.tmp 1), some ((33, false))⟩, ⟨some 35, .bin .geq (.tmp 34) (.lit (.int .u8 48)), some ((33, false))⟩, ⟨some 36, .mov (.tmp 35), some ((33, false))⟩, ⟨some 37, .mov (.tmp 1), some ((36, true))⟩, ⟨some 38, .bin .leq (.tmp 37) (.lit (.int .u8 57)), some ((36, true))⟩, ⟨some 39, .pick (.tmp 36) (.tmp 38) (.lit (.bool false)), some ((33, false))⟩, ⟨some 40, .pick (.tmp 33) (.lit (.bool true)) (.tmp 39), none⟩, ⟨some 41, .mov (.tmp 40), none⟩, ⟨some 42, .mov (.tmp 1), some ((41, false))⟩, ⟨some 43, .bin .eql (.tmp 42) (.lit (.int .u8 95)), some ((41, false))⟩, ⟨some 44, .pick (.tmp 41) (.lit (.bool true)) (.tmp 43), none⟩, ⟨some 8, .mov (.tmp 44), none⟩]) (.seq (.seq .mark (.reg false [⟨some 45, .mov (.tmp 0), none⟩, ⟨some 46, .mov (.tmp 1), none⟩, ⟨some 47, .bslice 1 1 [.int .u8 0] [(0, .tmp 46)], none⟩, ⟨some 48, .b2s (.tmp 47), none⟩, ⟨some 49, .bin .add (.tmp 45) (.tmp 48), none⟩, ⟨some 9, .mov (.tmp 49), none⟩])) (.seq (.seq (.reg false [⟨some 50, .mov (.tmp 6), none⟩, ⟨some 51, .mov (.tmp 50), none⟩, ⟨some 52, .mov (.tmp 7), some ((51, true))⟩, ⟨some 53, .pick (.tmp 51) (.tmp 52) (.lit (.bool false)), none⟩, ⟨some 54, .mov (.tmp 53), none⟩, ⟨some 55, .mov (.tmp 6), some ((54, false))⟩, ⟨some 56, .mov (.tmp 55), some ((54, false))⟩, ⟨some 57, .mov (.tmp 7), some ((56, false))⟩, ⟨some 58, .pick (.tmp 56) (.lit (.bool true)) (.tmp 57), some ((54, false))⟩, ⟨some 59, .mov (.tmp 58), some ((54, false))⟩, ⟨some 60, .mov (.tmp 0), some ((59, true))⟩, ⟨some 61, .lens (.tmp 60), some ((59, true))⟩, ⟨some 62, .bin .lss (.tmp 61) (.lit (.int .i64 1)), some ((59, true))⟩, ⟨some 63, .mov (.tmp 62), some ((59, true))⟩, ⟨some 64, .mov (.tmp 0), some ((63, false))⟩, ⟨some 65, .lens (.tmp 64), some ((63, false))⟩, ⟨some 66, .bin .gtr (.tmp 65) (.lit (.int .i64 20)), some ((63, false))⟩, ⟨some 67, .pick (.tmp 63) (.lit (.bool true)) (.tmp 66), some ((59, true))⟩, ⟨some 68, .pick (.tmp 59) (.tmp 67) (.lit (.bool false)), some ((54, false))⟩, ⟨some 69, .pick (.tmp 54) (.lit (.bool true)) (.tmp 68), none⟩]) (.cond (.tmp 69) (.seq (.reg false [⟨some 4, .mov (.lit (.bool false)), none⟩]) .ret) .skip)) (.seq (.reg false [⟨some 70, .mov (.tmp 5), none⟩, ⟨some 71, .mov (.tmp 70), none⟩, ⟨some 72, .mov (.tmp 0), some ((71, true))⟩, ⟨some 73, .lens (.tmp 72), some ((71, true))⟩, ⟨some 74, .bin .eql (.tmp 73) (.lit (.int .i64 0)), some ((71, true))⟩, ⟨some 75, .mov (.tmp 74), some ((71, true))⟩, ⟨some 76, .mov (.tmp 9), some ((75, false))⟩, ⟨some 77, .call (.lit (.fn (.func 16) [] [])) [.tmp 76], some ((75, false))⟩, ⟨some 78, .mov (.tmp 6), some ((75, false))⟩, ⟨some 79, .mov (.tmp 78), some ((75, false))⟩, ⟨some 80, .mov (.tmp 8), some ((79, true))⟩, ⟨some 81, .pick (.tmp 79) (.tmp 80) (.lit (.bool false)), some ((75, false))⟩, ⟨some 82, .mov (.tmp 81), some ((75, false))⟩, ⟨some 83, .mov (.tmp 0), some ((82, true))⟩, ⟨some 84, .lens (.tmp 83), some ((82, true))⟩, ⟨some 85, .bin .lss (.tmp 84) (.lit (.int .i64 20)), some ((82, true))⟩, ⟨some 86, .pick (.tmp 82) (.tmp 85) (.lit (.bool false)), some ((75, false))⟩, ⟨some 87, .eqa false false [.bool] (.tmp 77) (.tmp 86), some ((75, false))⟩, ⟨some 88, .mov (.tmp 87), some ((75, false))⟩, ⟨some 89, .mov (.tmp 9), some ((88, true))⟩, ⟨some 90, .call (.lit (.fn (.func 17) [] [])) [.tmp 89], some ((88, true))⟩, ⟨some 91, .mov (.tmp 7), some ((88, true))⟩, ⟨some 92, .mov (.tmp 91), some ((88, true))⟩, ⟨some 93, .mov (.tmp 8), some ((92, true))⟩, ⟨some 94, .pick (.tmp 92) (.tmp 93) (.lit (.bool false)), some ((88, true))⟩, ⟨some 95, .mov (.tmp 94), some ((88, true))⟩, ⟨some 96, .mov (.tmp 0), some ((95, true))⟩, ⟨some 97, .lens (.tmp 96), some ((95, true))⟩, ⟨some 98, .bin .lss (.tmp 97) (.lit (.int .i64 20)), some ((95, true))⟩, ⟨some 99, .pick (.tmp 95) (.tmp 98) (.lit (.bool false)), some ((88, true))⟩, ⟨some 100, .eqa false false [.bool] (.tmp 90) (.tmp 99), some ((88, true))⟩, ⟨some 101, .pick (.tmp 88) (.tmp 100) (.lit (.bool false)), some ((75, false))⟩, ⟨some 102, .pick (.tmp 75) (.lit (.bool true)) (.tmp 101), some ((71, true))⟩, ⟨some 103, .pick (.tmp 71) (.tmp 102) (.lit (.bool false)), none⟩, ⟨some 4, .mov (.tmp 103), none⟩]) .ret)))))))), [.tmp 4]⟩
def c7 : AFn := ⟨64, .seq (.reg false [⟨some 5, .box (.tmp 2), none⟩, ⟨some 6, .mov (.lit (.bool false)), none⟩]) (.seq (.reg false [⟨some 9, .call (.lit (.fn (.func 8) [] [])) [], none⟩, ⟨some 7, .mov (.tmp 9), none⟩]) (.seq (.seq (.reg false [⟨some 10, .mov (.tmp 0), none⟩, ⟨some 11, .call (.lit (.fn (.func 9) [] [])) [.tmp 10], none⟩, ⟨some 12, .not (.tmp 11), none⟩, ⟨some 13, .mov (.tmp 12), none⟩, ⟨some 14, .mov (.tmp 1), some ((13, false))⟩, ⟨some 15, .bin .lss (.tmp 14) (.lit (.int .i64 0)), some ((13, false))⟩, ⟨some 16, .pick (.tmp 13) (.lit (.bool true)) (.tmp 15), none⟩, ⟨some 17, .mov (.tmp 16), none⟩, ⟨some 18, .mov (.tmp 1), some ((17, false))⟩, ⟨some 19, .mov (.tmp 0), some ((17, false))⟩, ⟨some 20, .len (.tmp 19), some ((17, false))⟩, ⟨some 21, .bin .geq (.tmp 18) (.tmp 20), some ((17, false))⟩, ⟨some 22, .pick (.tmp 17) (.lit (.bool true)) (.tmp 21), none⟩]) (.cond (.tmp 22) (.seq (.reg false [⟨some 23, .mov (.tmp 7), none⟩, ⟨some 6, .mov (.tmp 23), none⟩]) .ret) .skip)) (.seq (.reg false [⟨some 24, .bslice 2 0 [.str ⟨#[]⟩, .str ⟨#[]⟩] [], none⟩, ⟨some 25, .mov (.tmp 0), none⟩, ⟨some 26, .app 2 32 (.tmp 24) (.tmp 25), none⟩, ⟨some 8, .mov (.tmp 26), none⟩]) (.seq (.reg false [⟨some 27, .mov (.tmp 8), none⟩, ⟨some 28, .mov (.tmp 1), none⟩, ⟨some 29, .load 2 true (.tmp 5), none⟩, ⟨some 30, .ia 2 (.tmp 27) (.tmp 28), none⟩, ⟨none, .store 2 (.tmp 30) (.tmp 29), none⟩]) (.seq (.seq .mark (.reg true [⟨some 31, .mov (.tmp 7), none⟩, ⟨some 32, .mov (.tmp 31), none⟩, ⟨some 33, .mov (.tmp 0), some ((32, true))⟩, ⟨some 34, .mov (.tmp 0), some ((32, true))⟩, ⟨some 35, .call (.lit (.fn (.func 18) [] [])) [.tmp 33, .tmp 34], some ((32, true))⟩, ⟨some 36, .pick (.tmp 32) (.tmp 35) (.lit (.bool false)), none⟩, ⟨some 37, .mov (.tmp 36), none⟩, ⟨some 38, .mov (.tmp 0), some ((37, true))⟩, ⟨some 39, .mov (.tmp 0), some ((37, true))⟩, ⟨some 40, .mov (.tmp 0), some ((37, true))⟩, ⟨some 41, .len (.tmp 40), some ((37, true))⟩, ⟨some 42, .bin .sub (.tmp 41) (.lit (.int .i64 1)), some ((37, true))⟩, ⟨some 43, .slc 2 (.tmp 39) none (some (.tmp 42)) none, some ((37, true))⟩, ⟨some 44, .call (.lit (.fn (.func 18) [] [])) [.tmp 38, .tmp 43], some ((37, true))⟩, ⟨some 45, .not (.tmp 44), some ((37, true))⟩, ⟨some 46, .pick (.tmp 37) (.tmp 45) (.lit (.bool false)), none⟩, ⟨some 47, .mov (.tmp 46), none⟩, ⟨some 48, .mov (.tmp 0), some ((47, true))⟩, ⟨some 49, .mov (.tmp 8), some ((47, true))⟩, ⟨some 50, .call (.lit (.fn (.func 18) [] [])) [.tmp 48, .tmp 49], some ((47, true))⟩, ⟨some 51, .mov (.tmp 0), some ((47, true))⟩, ⟨some 52, .mov (.tmp 1), some ((47, true))⟩, ⟨some 53, .ia 2 (.tmp 51) (.tmp 52), some ((47, true))⟩, ⟨some 54, .load 2 true (.tmp 53), some ((47, true))⟩, ⟨some 55, .load 2 true (.tmp 5), some ((47, true))⟩, ⟨some 56, .eqa false true [.str, .str] (.tmp 54) (.tmp 55), some ((47, true))⟩, ⟨some 57, .eqa false false [.bool] (.tmp 50) (.tmp 56), some ((47, true))⟩, ⟨some 58, .pick (.tmp 47) (.tmp 57) (.lit (.bool false)), none⟩, ⟨some 59, .mov (.tmp 58), none⟩, ⟨some 60, .mov (.tmp 0), some ((59, true))⟩, ⟨some 61, .mov (.tmp 0), some ((59, true))⟩, ⟨some 62, .call (.lit (.fn (.func 13) [] [])) [.tmp 60, .tmp 61], some ((59, true))⟩, ⟨some 63, .pick (.tmp 59) (.tmp 62) (.lit (.bool false)), none⟩, ⟨some 6, .mov (.tmp 63), none⟩])) .ret))))), [.tmp 6]⟩
/-! ### SigNames -/
theorem push_size (s : ByteArray) (u : UInt8) : (s ++ ⟨#[u]⟩).size = s.size + 1 := by
  rw [ByteArray.size_append]
  rfl
theorem push_byte (s : ByteArray) (u : UInt8) (i : Nat) : byte (s ++ ⟨#[u]⟩) i = if i < s.size then byte s i else if i = s.size then (u.toNat : Int) else 0 := by
  unfold byte
  have e : (s ++ ⟨#[u]⟩).data = s.data ++ #[u] := by simp
  rw [e, Int.toNat_natCast]
  by_cases h : i < s.size
  · rw [if_pos h]
    have h' : i < s.data.size := h
    simp only [Array.append_singleton, Array.getD, Array.size_push, Nat.lt_succ_of_lt h', h', dif_pos]
    have : (s.data.push u)[i]'(by simp; omega) = s.data[i] := Array.getElem_push_lt h'
    simp [this]
  · rw [if_neg h]
    by_cases h2 : i = s.size
    · subst h2
      have e2 : (s.data.push u)[s.data.size]'(by simp) = u := Array.getElem_push_eq
      have e3 : (s.data.push u).getD s.data.size 0 = u := by
        simp only [Array.getD, Array.size_push]
        rw [dif_pos (by omega)]
        exact e2
      rw [if_pos rfl]
      simp only [Array.append_singleton]
      exact congrArg (fun x : UInt8 => (x.toNat : Int)) e3
    · have : ¬ i < s.size + 1 := by omega
      simp [Array.getD, h2, this]
theorem named_push (s : ByteArray) (u : UInt8) (a b : Int) (h : 1 ≤ s.size) : namedOk (s ++ ⟨#[u]⟩) a b = (namedOk s a b && (innerOk u.toNat && decide (s.size < 20))) := by
  rw [Bool.eq_iff_iff]
  have h0 : byte (s ++ ⟨#[u]⟩) 0 = byte s 0 := by
    have := push_byte s u 0
    rw [if_pos (by omega)] at this
    exact this
  simp only [namedOk, push_size, h0, Bool.and_eq_true, decide_eq_true_eq]
  constructor
  · rintro ⟨h1, h2, h3, h4⟩
    refine ⟨⟨h, by omega, h3, fun i hi => ?_⟩, ?_, by omega⟩
    · have := h4 i (by omega)
      rw [push_byte, if_pos hi] at this
      exact this
    · have := h4 s.size (by omega)
      rw [push_byte, if_neg (by omega), if_pos rfl] at this
      exact this
  · rintro ⟨⟨h1, h2, h3, h4⟩, h5, h6⟩
    refine ⟨by omega, by omega, h3, fun i hi => ?_⟩
    rw [push_byte]
    by_cases hi2 : i < s.size
    · rw [if_pos hi2]
      exact h4 i hi2
    · rw [if_neg hi2, if_pos (by omega)]
      exact h5
theorem named_not (s : ByteArray) : (namedOk s 97 122 && namedOk s 65 90) = false := by
  cases h : (namedOk s 97 122 && namedOk s 65 90) with
  | false => rfl
  | true =>
    simp only [namedOk, Bool.and_eq_true, decide_eq_true_eq] at h
    omega
theorem named_len {s : ByteArray} {a b : Int} (h : namedOk s a b = true) : 1 ≤ s.size ∧ s.size ≤ 20 := by
  simp only [namedOk, Bool.and_eq_true, decide_eq_true_eq] at h
  exact ⟨h.1, h.2.1⟩
def an6 : An := ⟨[], [7]⟩
theorem c6_ok : cFn Tryd.prog an6 Tryd.f6 = some c6 := by kernel_rfl
theorem law6_PF (s : ByteArray) (c : Int) (hs : s.size ≤ 1048576) (hc : 0 ≤ c ∧ c < 256) : PF Tryd.prog 6 [.str s, .int .u8 c] (.bool true) := by
  refine PFk 9 hm Tryd.func6 c6_ok (Nat.le_of_ble_eq_true rfl) (by simp) (by simp) ?_
  simp (maxSteps := 3000000) [-List.length_flatten, -List.map_drop, -List.map_take, Function.comp_def, argsT, Opd.ev, Tm.get, put, ares, mapMo, ares1, snilP, bldParts, bslParts, putAt, AV.cells, AV.one, astore, aload, loadCs, callArgs, abin, abinInt, aapp, elems, appMore, appNone, preLen, aFa, aFld, apart, aExt, aPick, aNot, aLens, aEqa, cellsK, fitsA, LK.fitsA, leavesA, leafA, nilD, aNilc, aCint, aCid, alive, alen, alenOk, Rle, lePs, len_flat, c6]
  refine PF.call dshown_PF 9 (by simp [lePs]) ?_
  by_cases h50 : (50 : Int) < (s.size : Int)
  · simp (maxSteps := 3000000) [-List.length_flatten, -List.map_drop, -List.map_take, Function.comp_def, argsT, Opd.ev, Tm.get, put, ares, mapMo, ares1, snilP, bldParts, bslParts, putAt, AV.cells, AV.one, astore, aload, loadCs, callArgs, abin, abinInt, aapp, elems, appMore, appNone, preLen, aFa, aFld, apart, aExt, aPick, aNot, aLens, aEqa, cellsK, fitsA, LK.fitsA, leavesA, leafA, nilD, aNilc, aCint, aCid, alive, alen, alenOk, Rle, lePs, len_flat, Kc, h50]
  simp (maxSteps := 3000000) [-List.length_flatten, -List.map_drop, -List.map_take, Function.comp_def, argsT, Opd.ev, Tm.get, put, ares, mapMo, ares1, snilP, bldParts, bslParts, putAt, AV.cells, AV.one, astore, aload, loadCs, callArgs, abin, abinInt, aapp, elems, appMore, appNone, preLen, aFa, aFld, apart, aExt, aPick, aNot, aLens, aEqa, cellsK, fitsA, LK.fitsA, leavesA, leafA, nilD, aNilc, aCint, aCid, alive, alen, alenOk, Rle, lePs, len_flat, Kc, h50]
  intro _
  refine PF.call (isCon_PF s) 9 (by simp [lePs]) ?_
  simp (maxSteps := 3000000) [-List.length_flatten, -List.map_drop, -List.map_take, Function.comp_def, argsT, Opd.ev, Tm.get, put, ares, mapMo, ares1, snilP, bldParts, bslParts, putAt, AV.cells, AV.one, astore, aload, loadCs, callArgs, abin, abinInt, aapp, elems, appMore, appNone, preLen, aFa, aFld, apart, aExt, aPick, aNot, aLens, aEqa, cellsK, fitsA, LK.fitsA, leavesA, leafA, nilD, aNilc, aCint, aCid, alive, alen, alenOk, Rle, lePs, len_flat, Kc]
  refine PF.call (isVar_PF s) 9 (by simp [lePs]) ?_
  refine by_way (A := ?G) (fun key => ?main) ?sub
  case main =>
    by_cases k1 : 97 ≤ c ∧ c ≤ 122
    · have e : innerOk c = true := by simp [innerOk, letter, k1]
      simp (maxSteps := 3000000) [-List.length_flatten, -List.map_drop, -List.map_take, Function.comp_def, argsT, Opd.ev, Tm.get, put, ares, mapMo, ares1, snilP, bldParts, bslParts, putAt, AV.cells, AV.one, astore, aload, loadCs, callArgs, abin, abinInt, aapp, elems, appMore, appNone, preLen, aFa, aFld, apart, aExt, aPick, aNot, aLens, aEqa, cellsK, fitsA, LK.fitsA, leavesA, leafA, nilD, aNilc, aCint, aCid, alive, alen, alenOk, Rle, lePs, len_flat, Kc, k1]
      refine run_markT [(8, .bool (innerOk c)), (7, .bool (namedOk s 65 90)), (6, .bool (namedOk s 97 122)), (5, .bool true), (1, .int .u8 c), (0, .str s)] [] (Wk.tell 0 (by omega) (by simp [Tm.get, e]) (by simp) rfl (by simp)) ?_
      exact key ()
    by_cases k2 : 65 ≤ c ∧ c ≤ 90
    · have e : innerOk c = true := by simp [innerOk, letter, k2]
      have n1 : ¬ 97 ≤ c := by omega
      simp (maxSteps := 3000000) [-List.length_flatten, -List.map_drop, -List.map_take, Function.comp_def, argsT, Opd.ev, Tm.get, put, ares, mapMo, ares1, snilP, bldParts, bslParts, putAt, AV.cells, AV.one, astore, aload, loadCs, callArgs, abin, abinInt, aapp, elems, appMore, appNone, preLen, aFa, aFld, apart, aExt, aPick, aNot, aLens, aEqa, cellsK, fitsA, LK.fitsA, leavesA, leafA, nilD, aNilc, aCint, aCid, alive, alen, alenOk, Rle, lePs, len_flat, Kc, n1, k2]
      refine run_markT [(8, .bool (innerOk c)), (7, .bool (namedOk s 65 90)), (6, .bool (namedOk s 97 122)), (5, .bool true), (1, .int .u8 c), (0, .str s)] [] (Wk.tell 0 (by omega) (by simp [Tm.get, e]) (by simp) rfl (by simp)) ?_
      exact key ()
    by_cases k3 : 48 ≤ c ∧ c ≤ 57
    · have e : innerOk c = true := by simp [innerOk, figure, k3]
      have n1 : ¬ 97 ≤ c := by omega
      have n2 : ¬ 65 ≤ c := by omega
      simp (maxSteps := 3000000) [-List.length_flatten, -List.map_drop, -List.map_take, Function.comp_def, argsT, Opd.ev, Tm.get, put, ares, mapMo, ares1, snilP, bldParts, bslParts, putAt, AV.cells, AV.one, astore, aload, loadCs, callArgs, abin, abinInt, aapp, elems, appMore, appNone, preLen, aFa, aFld, apart, aExt, aPick, aNot, aLens, aEqa, cellsK, fitsA, LK.fitsA, leavesA, leafA, nilD, aNilc, aCint, aCid, alive, alen, alenOk, Rle, lePs, len_flat, Kc, n1, n2, k3]
      refine run_markT [(8, .bool (innerOk c)), (7, .bool (namedOk s 65 90)), (6, .bool (namedOk s 97 122)), (5, .bool true), (1, .int .u8 c), (0, .str s)] [] (Wk.tell 0 (by omega) (by simp [Tm.get, e]) (by simp) rfl (by simp)) ?_
      exact key ()
    · have e : innerOk c = decide (c = 95) := by
        unfold innerOk letter figure
        refine decide_eq_decide.2 ?_
        omega
      by_cases n1 : 97 ≤ c
      · have n1' : ¬ c ≤ 122 := by omega
        have n2 : 65 ≤ c := by omega
        have n2' : ¬ c ≤ 90 := by omega
        have n3 : 48 ≤ c := by omega
        have n3' : ¬ c ≤ 57 := by omega
        simp (maxSteps := 3000000) [-List.length_flatten, -List.map_drop, -List.map_take, Function.comp_def, argsT, Opd.ev, Tm.get, put, ares, mapMo, ares1, snilP, bldParts, bslParts, putAt, AV.cells, AV.one, astore, aload, loadCs, callArgs, abin, abinInt, aapp, elems, appMore, appNone, preLen, aFa, aFld, apart, aExt, aPick, aNot, aLens, aEqa, cellsK, fitsA, LK.fitsA, leavesA, leafA, nilD, aNilc, aCint, aCid, alive, alen, alenOk, Rle, lePs, len_flat, Kc, n1, n1', n2, n2', n3, n3']
        refine run_markT [(8, .bool (innerOk c)), (7, .bool (namedOk s 65 90)), (6, .bool (namedOk s 97 122)), (5, .bool true), (1, .int .u8 c), (0, .str s)] [] (Wk.tell 0 (by omega) (by simp [Tm.get, e]) (by simp) rfl (by simp)) ?_
        exact key ()
      by_cases n2 : 65 ≤ c
      · have n2' : ¬ c ≤ 90 := by omega
        have n3 : 48 ≤ c := by omega
        have n3' : ¬ c ≤ 57 := by omega
        simp (maxSteps := 3000000) [-List.length_flatten, -List.map_drop, -List.map_take, Function.comp_def, argsT, Opd.ev, Tm.get, put, ares, mapMo, ares1, snilP, bldParts, bslParts, putAt, AV.cells, AV.one, astore, aload, loadCs, callArgs, abin, abinInt, aapp, elems, appMore, appNone, preLen, aFa, aFld, apart, aExt, aPick, aNot, aLens, aEqa, cellsK, fitsA, LK.fitsA, leavesA, leafA, nilD, aNilc, aCint, aCid, alive, alen, alenOk, Rle, lePs, len_flat, Kc, n1, n2, n2', n3, n3']
        refine run_markT [(8, .bool (innerOk c)), (7, .bool (namedOk s 65 90)), (6, .bool (namedOk s 97 122)), (5, .bool true), (1, .int .u8 c), (0, .str s)] [] (Wk.tell 0 (by omega) (by simp [Tm.get, e]) (by simp) rfl (by simp)) ?_
        exact key ()
      by_cases n3 : 48 ≤ c
      · have n3' : ¬ c ≤ 57 := by omega
        simp (maxSteps := 3000000) [-List.length_flatten, -List.map_drop, -List.map_take, Function.comp_def, argsT, Opd.ev, Tm.get, put, ares, mapMo, ares1, snilP, bldParts, bslParts, putAt, AV.cells, AV.one, astore, aload, loadCs, callArgs, abin, abinInt, aapp, elems, appMore, appNone, preLen, aFa, aFld, apart, aExt, aPick, aNot, aLens, aEqa, cellsK, fitsA, LK.fitsA, leavesA, leafA, nilD, aNilc, aCint, aCid, alive, alen, alenOk, Rle, lePs, len_flat, Kc, n1, n2, n3, n3']
        refine run_markT [(8, .bool (innerOk c)), (7, .bool (namedOk s 65 90)), (6, .bool (namedOk s 97 122)), (5, .bool true), (1, .int .u8 c), (0, .str s)] [] (Wk.tell 0 (by omega) (by simp [Tm.get, e]) (by simp) rfl (by simp)) ?_
        exact key ()
      · simp (maxSteps := 3000000) [-List.length_flatten, -List.map_drop, -List.map_take, Function.comp_def, argsT, Opd.ev, Tm.get, put, ares, mapMo, ares1, snilP, bldParts, bslParts, putAt, AV.cells, AV.one, astore, aload, loadCs, callArgs, abin, abinInt, aapp, elems, appMore, appNone, preLen, aFa, aFld, apart, aExt, aPick, aNot, aLens, aEqa, cellsK, fitsA, LK.fitsA, leavesA, leafA, nilD, aNilc, aCint, aCid, alive, alen, alenOk, Rle, lePs, len_flat, Kc, n1, n2, n3]
        refine run_markT [(8, .bool (innerOk c)), (7, .bool (namedOk s 65 90)), (6, .bool (namedOk s 97 122)), (5, .bool true), (1, .int .u8 c), (0, .str s)] [] (Wk.tell 0 (by omega) (by simp [Tm.get, e]) (by simp) rfl (by simp)) ?_
        exact key ()
  case sub =>
    have hcc : (((UInt8.ofNat c.toNat).toNat : Nat) : Int) = c := by
      have : c.toNat < 256 := by omega
      simp [Nat.mod_eq_of_lt this]
      omega
    have hsz : s.size + 1 ≤ 9223372036854775807 := by omega
    have hone : (⟨#[UInt8.ofNat c.toNat]⟩ : ByteArray).size = 1 := rfl
    have hp1 := fun h => named_push s (UInt8.ofNat c.toNat) 97 122 h
    have hp2 := fun h => named_push s (UInt8.ofNat c.toNat) 65 90 h
    rw [hcc] at hp1 hp2
    have hnot := named_not s
    have hl1 := named_len (s := s) (a := 97) (b := 122)
    have hl2 := named_len (s := s) (a := 65) (b := 90)
    have p1 := isCon_PF (s ++ ⟨#[UInt8.ofNat c.toNat]⟩)
    have p2 := isVar_PF (s ++ ⟨#[UInt8.ofNat c.toNat]⟩)
    by_cases z0 : s.size = 0
    · have q1 : namedOk s 97 122 = false := by simp [namedOk, z0]
      have q2 : namedOk s 65 90 = false := by simp [namedOk, z0]
      simp (maxSteps := 3000000) [-List.length_flatten, -List.map_drop, -List.map_take, Function.comp_def, argsT, Opd.ev, Tm.get, put, ares, mapMo, ares1, snilP, bldParts, bslParts, putAt, AV.cells, AV.one, astore, aload, loadCs, callArgs, abin, abinInt, aapp, elems, appMore, appNone, preLen, aFa, aFld, apart, aExt, aPick, aNot, aLens, aEqa, cellsK, fitsA, LK.fitsA, leavesA, leafA, nilD, aNilc, aCint, aCid, alive, alen, alenOk, Rle, lePs, len_flat, aB2s, bytesA, hone, hsz, z0, q1, q2]
    have z1 : 1 ≤ s.size := by omega
    have z1' : ¬ (s.size : Int) < 1 := by omega
    have hp1 := hp1 z1
    have hp2 := hp2 z1
    cases hcon : namedOk s 97 122 with
    | true =>
      have hof : namedOk s 65 90 = false := by rw [hcon] at hnot; simpa using hnot
      have z2 : ¬ (20 : Int) < (s.size : Int) := by have := hl1 hcon; omega
      rw [hcon] at hp1
      rw [hof] at hp2
      simp only [Bool.true_and, Bool.false_and] at hp1 hp2
      rw [hp1] at p1
      rw [hp2] at p2
      cases hin : innerOk c with
      | true =>
        by_cases h20 : s.size < 20
        · have h20' : (s.size : Int) < 20 := by omega
          simp only [hin, h20, decide_true, Bool.true_and] at p1
          simp (maxSteps := 3000000) [-List.length_flatten, -List.map_drop, -List.map_take, Function.comp_def, argsT, Opd.ev, Tm.get, put, ares, mapMo, ares1, snilP, bldParts, bslParts, putAt, AV.cells, AV.one, astore, aload, loadCs, callArgs, abin, abinInt, aapp, elems, appMore, appNone, preLen, aFa, aFld, apart, aExt, aPick, aNot, aLens, aEqa, cellsK, fitsA, LK.fitsA, leavesA, leafA, nilD, aNilc, aCint, aCid, alive, alen, alenOk, Rle, lePs, len_flat, aB2s, bytesA, hone, hsz, z0, z1', z2, hcon, hof, hin]
          intro _
          refine PF.call p1 9 (by simp [lePs]) ?_
          simp (maxSteps := 3000000) [-List.length_flatten, -List.map_drop, -List.map_take, Function.comp_def, argsT, Opd.ev, Tm.get, put, ares, mapMo, ares1, snilP, bldParts, bslParts, putAt, AV.cells, AV.one, astore, aload, loadCs, callArgs, abin, abinInt, aapp, elems, appMore, appNone, preLen, aFa, aFld, apart, aExt, aPick, aNot, aLens, aEqa, cellsK, fitsA, LK.fitsA, leavesA, leafA, nilD, aNilc, aCint, aCid, alive, alen, alenOk, Rle, lePs, len_flat, Kc, h20']
          intro _
          refine PF.call p2 9 (by simp [lePs]) ?_
          simp (maxSteps := 3000000) [-List.length_flatten, -List.map_drop, -List.map_take, Function.comp_def, argsT, Opd.ev, Tm.get, put, ares, mapMo, ares1, snilP, bldParts, bslParts, putAt, AV.cells, AV.one, astore, aload, loadCs, callArgs, abin, abinInt, aapp, elems, appMore, appNone, preLen, aFa, aFld, apart, aExt, aPick, aNot, aLens, aEqa, cellsK, fitsA, LK.fitsA, leavesA, leafA, nilD, aNilc, aCint, aCid, alive, alen, alenOk, Rle, lePs, len_flat, Kc, h20']
        · have h20' : ¬ (s.size : Int) < 20 := by omega
          simp only [hin, h20, decide_false, Bool.and_false] at p1
          simp (maxSteps := 3000000) [-List.length_flatten, -List.map_drop, -List.map_take, Function.comp_def, argsT, Opd.ev, Tm.get, put, ares, mapMo, ares1, snilP, bldParts, bslParts, putAt, AV.cells, AV.one, astore, aload, loadCs, callArgs, abin, abinInt, aapp, elems, appMore, appNone, preLen, aFa, aFld, apart, aExt, aPick, aNot, aLens, aEqa, cellsK, fitsA, LK.fitsA, leavesA, leafA, nilD, aNilc, aCint, aCid, alive, alen, alenOk, Rle, lePs, len_flat, aB2s, bytesA, hone, hsz, z0, z1', z2, hcon, hof, hin]
          intro _
          refine PF.call p1 9 (by simp [lePs]) ?_
          simp (maxSteps := 3000000) [-List.length_flatten, -List.map_drop, -List.map_take, Function.comp_def, argsT, Opd.ev, Tm.get, put, ares, mapMo, ares1, snilP, bldParts, bslParts, putAt, AV.cells, AV.one, astore, aload, loadCs, callArgs, abin, abinInt, aapp, elems, appMore, appNone, preLen, aFa, aFld, apart, aExt, aPick, aNot, aLens, aEqa, cellsK, fitsA, LK.fitsA, leavesA, leafA, nilD, aNilc, aCint, aCid, alive, alen, alenOk, Rle, lePs, len_flat, Kc, h20']
          intro _
          refine PF.call p2 9 (by simp [lePs]) ?_
          simp (maxSteps := 3000000) [-List.length_flatten, -List.map_drop, -List.map_take, Function.comp_def, argsT, Opd.ev, Tm.get, put, ares, mapMo, ares1, snilP, bldParts, bslParts, putAt, AV.cells, AV.one, astore, aload, loadCs, callArgs, abin, abinInt, aapp, elems, appMore, appNone, preLen, aFa, aFld, apart, aExt, aPick, aNot, aLens, aEqa, cellsK, fitsA, LK.fitsA, leavesA, leafA, nilD, aNilc, aCint, aCid, alive, alen, alenOk, Rle, lePs, len_flat, Kc, h20']
      | false =>
        simp only [hin, Bool.false_and] at p1
        simp (maxSteps := 3000000) [-List.length_flatten, -List.map_drop, -List.map_take, Function.comp_def, argsT, Opd.ev, Tm.get, put, ares, mapMo, ares1, snilP, bldParts, bslParts, putAt, AV.cells, AV.one, astore, aload, loadCs, callArgs, abin, abinInt, aapp, elems, appMore, appNone, preLen, aFa, aFld, apart, aExt, aPick, aNot, aLens, aEqa, cellsK, fitsA, LK.fitsA, leavesA, leafA, nilD, aNilc, aCint, aCid, alive, alen, alenOk, Rle, lePs, len_flat, aB2s, bytesA, hone, hsz, z0, z1', z2, hcon, hof, hin]
        intro _
        refine PF.call p1 9 (by simp [lePs]) ?_
        simp (maxSteps := 3000000) [-List.length_flatten, -List.map_drop, -List.map_take, Function.comp_def, argsT, Opd.ev, Tm.get, put, ares, mapMo, ares1, snilP, bldParts, bslParts, putAt, AV.cells, AV.one, astore, aload, loadCs, callArgs, abin, abinInt, aapp, elems, appMore, appNone, preLen, aFa, aFld, apart, aExt, aPick, aNot, aLens, aEqa, cellsK, fitsA, LK.fitsA, leavesA, leafA, nilD, aNilc, aCint, aCid, alive, alen, alenOk, Rle, lePs, len_flat, Kc]
        refine PF.call p2 9 (by simp [lePs]) ?_
        simp (maxSteps := 3000000) [-List.length_flatten, -List.map_drop, -List.map_take, Function.comp_def, argsT, Opd.ev, Tm.get, put, ares, mapMo, ares1, snilP, bldParts, bslParts, putAt, AV.cells, AV.one, astore, aload, loadCs, callArgs, abin, abinInt, aapp, elems, appMore, appNone, preLen, aFa, aFld, apart, aExt, aPick, aNot, aLens, aEqa, cellsK, fitsA, LK.fitsA, leavesA, leafA, nilD, aNilc, aCint, aCid, alive, alen, alenOk, Rle, lePs, len_flat, Kc]
    | false =>
      rw [hcon] at hp1
      simp only [Bool.false_and] at hp1
      rw [hp1] at p1
      cases hof : namedOk s 65 90 with
      | true =>
        have z2 : ¬ (20 : Int) < (s.size : Int) := by have := hl2 hof; omega
        rw [hof] at hp2
        simp only [Bool.true_and] at hp2
        rw [hp2] at p2
        cases hin : innerOk c with
        | true =>
          by_cases h20 : s.size < 20
          · have h20' : (s.size : Int) < 20 := by omega
            simp only [hin, h20, decide_true, Bool.true_and] at p2
            simp (maxSteps := 3000000) [-List.length_flatten, -List.map_drop, -List.map_take, Function.comp_def, argsT, Opd.ev, Tm.get, put, ares, mapMo, ares1, snilP, bldParts, bslParts, putAt, AV.cells, AV.one, astore, aload, loadCs, callArgs, abin, abinInt, aapp, elems, appMore, appNone, preLen, aFa, aFld, apart, aExt, aPick, aNot, aLens, aEqa, cellsK, fitsA, LK.fitsA, leavesA, leafA, nilD, aNilc, aCint, aCid, alive, alen, alenOk, Rle, lePs, len_flat, aB2s, bytesA, hone, hsz, z0, z1', z2, hcon, hof, hin]
            intro _
            refine PF.call p1 9 (by simp [lePs]) ?_
            simp (maxSteps := 3000000) [-List.length_flatten, -List.map_drop, -List.map_take, Function.comp_def, argsT, Opd.ev, Tm.get, put, ares, mapMo, ares1, snilP, bldParts, bslParts, putAt, AV.cells, AV.one, astore, aload, loadCs, callArgs, abin, abinInt, aapp, elems, appMore, appNone, preLen, aFa, aFld, apart, aExt, aPick, aNot, aLens, aEqa, cellsK, fitsA, LK.fitsA, leavesA, leafA, nilD, aNilc, aCint, aCid, alive, alen, alenOk, Rle, lePs, len_flat, Kc, h20']
            refine PF.call p2 9 (by simp [lePs]) ?_
            simp (maxSteps := 3000000) [-List.length_flatten, -List.map_drop, -List.map_take, Function.comp_def, argsT, Opd.ev, Tm.get, put, ares, mapMo, ares1, snilP, bldParts, bslParts, putAt, AV.cells, AV.one, astore, aload, loadCs, callArgs, abin, abinInt, aapp, elems, appMore, appNone, preLen, aFa, aFld, apart, aExt, aPick, aNot, aLens, aEqa, cellsK, fitsA, LK.fitsA, leavesA, leafA, nilD, aNilc, aCint, aCid, alive, alen, alenOk, Rle, lePs, len_flat, Kc, h20']
          · have h20' : ¬ (s.size : Int) < 20 := by omega
            simp only [hin, h20, decide_false, Bool.and_false] at p2
            simp (maxSteps := 3000000) [-List.length_flatten, -List.map_drop, -List.map_take, Function.comp_def, argsT, Opd.ev, Tm.get, put, ares, mapMo, ares1, snilP, bldParts, bslParts, putAt, AV.cells, AV.one, astore, aload, loadCs, callArgs, abin, abinInt, aapp, elems, appMore, appNone, preLen, aFa, aFld, apart, aExt, aPick, aNot, aLens, aEqa, cellsK, fitsA, LK.fitsA, leavesA, leafA, nilD, aNilc, aCint, aCid, alive, alen, alenOk, Rle, lePs, len_flat, aB2s, bytesA, hone, hsz, z0, z1', z2, hcon, hof, hin]
            intro _
            refine PF.call p1 9 (by simp [lePs]) ?_
            simp (maxSteps := 3000000) [-List.length_flatten, -List.map_drop, -List.map_take, Function.comp_def, argsT, Opd.ev, Tm.get, put, ares, mapMo, ares1, snilP, bldParts, bslParts, putAt, AV.cells, AV.one, astore, aload, loadCs, callArgs, abin, abinInt, aapp, elems, appMore, appNone, preLen, aFa, aFld, apart, aExt, aPick, aNot, aLens, aEqa, cellsK, fitsA, LK.fitsA, leavesA, leafA, nilD, aNilc, aCint, aCid, alive, alen, alenOk, Rle, lePs, len_flat, Kc, h20']
            refine PF.call p2 9 (by simp [lePs]) ?_
            simp (maxSteps := 3000000) [-List.length_flatten, -List.map_drop, -List.map_take, Function.comp_def, argsT, Opd.ev, Tm.get, put, ares, mapMo, ares1, snilP, bldParts, bslParts, putAt, AV.cells, AV.one, astore, aload, loadCs, callArgs, abin, abinInt, aapp, elems, appMore, appNone, preLen, aFa, aFld, apart, aExt, aPick, aNot, aLens, aEqa, cellsK, fitsA, LK.fitsA, leavesA, leafA, nilD, aNilc, aCint, aCid, alive, alen, alenOk, Rle, lePs, len_flat, Kc, h20']
        | false =>
          simp only [hin, Bool.false_and] at p2
          simp (maxSteps := 3000000) [-List.length_flatten, -List.map_drop, -List.map_take, Function.comp_def, argsT, Opd.ev, Tm.get, put, ares, mapMo, ares1, snilP, bldParts, bslParts, putAt, AV.cells, AV.one, astore, aload, loadCs, callArgs, abin, abinInt, aapp, elems, appMore, appNone, preLen, aFa, aFld, apart, aExt, aPick, aNot, aLens, aEqa, cellsK, fitsA, LK.fitsA, leavesA, leafA, nilD, aNilc, aCint, aCid, alive, alen, alenOk, Rle, lePs, len_flat, aB2s, bytesA, hone, hsz, z0, z1', z2, hcon, hof, hin]
          intro _
          refine PF.call p1 9 (by simp [lePs]) ?_
          simp (maxSteps := 3000000) [-List.length_flatten, -List.map_drop, -List.map_take, Function.comp_def, argsT, Opd.ev, Tm.get, put, ares, mapMo, ares1, snilP, bldParts, bslParts, putAt, AV.cells, AV.one, astore, aload, loadCs, callArgs, abin, abinInt, aapp, elems, appMore, appNone, preLen, aFa, aFld, apart, aExt, aPick, aNot, aLens, aEqa, cellsK, fitsA, LK.fitsA, leavesA, leafA, nilD, aNilc, aCint, aCid, alive, alen, alenOk, Rle, lePs, len_flat, Kc]
          refine PF.call p2 9 (by simp [lePs]) ?_
          simp (maxSteps := 3000000) [-List.length_flatten, -List.map_drop, -List.map_take, Function.comp_def, argsT, Opd.ev, Tm.get, put, ares, mapMo, ares1, snilP, bldParts, bslParts, putAt, AV.cells, AV.one, astore, aload, loadCs, callArgs, abin, abinInt, aapp, elems, appMore, appNone, preLen, aFa, aFld, apart, aExt, aPick, aNot, aLens, aEqa, cellsK, fitsA, LK.fitsA, leavesA, leafA, nilD, aNilc, aCint, aCid, alive, alen, alenOk, Rle, lePs, len_flat, Kc]
      | false =>
        rw [hof] at hp2
        simp only [Bool.false_and] at hp2
        rw [hp2] at p2
        simp (maxSteps := 3000000) [-List.length_flatten, -List.map_drop, -List.map_take, Function.comp_def, argsT, Opd.ev, Tm.get, put, ares, mapMo, ares1, snilP, bldParts, bslParts, putAt, AV.cells, AV.one, astore, aload, loadCs, callArgs, abin, abinInt, aapp, elems, appMore, appNone, preLen, aFa, aFld, apart, aExt, aPick, aNot, aLens, aEqa, cellsK, fitsA, LK.fitsA, leavesA, leafA, nilD, aNilc, aCint, aCid, alive, alen, alenOk, Rle, lePs, len_flat, aB2s, bytesA, hone, hsz, z0, hcon, hof]
        intro _
        refine PF.call p1 9 (by simp [lePs]) ?_
        simp (maxSteps := 3000000) [-List.length_flatten, -List.map_drop, -List.map_take, Function.comp_def, argsT, Opd.ev, Tm.get, put, ares, mapMo, ares1, snilP, bldParts, bslParts, putAt, AV.cells, AV.one, astore, aload, loadCs, callArgs, abin, abinInt, aapp, elems, appMore, appNone, preLen, aFa, aFld, apart, aExt, aPick, aNot, aLens, aEqa, cellsK, fitsA, LK.fitsA, leavesA, leafA, nilD, aNilc, aCint, aCid, alive, alen, alenOk, Rle, lePs, len_flat, Kc]
        refine PF.call p2 9 (by simp [lePs]) ?_
        simp (maxSteps := 3000000) [-List.length_flatten, -List.map_drop, -List.map_take, Function.comp_def, argsT, Opd.ev, Tm.get, put, ares, mapMo, ares1, snilP, bldParts, bslParts, putAt, AV.cells, AV.one, astore, aload, loadCs, callArgs, abin, abinInt, aapp, elems, appMore, appNone, preLen, aFa, aFld, apart, aExt, aPick, aNot, aLens, aEqa, cellsK, fitsA, LK.fitsA, leavesA, leafA, nilD, aNilc, aCint, aCid, alive, alen, alenOk, Rle, lePs, len_flat, Kc]
theorem putAt_mid : ∀ (vs pre old rest : List AV), old.length = vs.length → putAt (pre ++ (old ++ rest)) pre.length vs = pre ++ (vs ++ rest)
  | [], pre, old, rest, h => by
    have : old = [] := List.eq_nil_of_length_eq_zero (by simpa using h)
    subst this
    rfl
  | v :: vs, pre, [], rest, h => by simp at h
  | v :: vs, pre, r :: old, rest, h => by
    simp only [putAt]
    have e : (pre ++ (r :: old ++ rest)).set pre.length v = (pre ++ [v]) ++ (old ++ rest) := by simp [List.set_append]
    rw [e, show pre.length + 1 = (pre ++ [v]).length by simp, putAt_mid vs (pre ++ [v]) old rest (by simpa using h)]
    simp
theorem putAt_fl {α : Type} {sz : Nat} {f : α → List AV} (h : ∀ x, (f x).length = sz) {l : List α} {k : Nat} (hk : k < l.length) (v : α) : putAt (fl f l) (k * sz) (f v) = fl f (l.set k v) := by
  have e1 : l = l.take k ++ l[k] :: l.drop (k + 1) := by
    conv => lhs; rw [← List.take_append_drop k l, List.drop_eq_getElem_cons hk]
  have e2 : l.set k v = l.take k ++ v :: l.drop (k + 1) := by rw [List.set_eq_take_append_cons_drop, if_pos hk]
  have e3 : fl f l = fl f (l.take k) ++ (f l[k] ++ fl f (l.drop (k + 1))) := by
    conv => lhs; rw [e1]
    rw [fl_app, fl_cons]
  have e4 : (fl f (l.take k)).length = k * sz := by rw [fl_len h, List.length_take, Nat.min_eq_left (by omega)]
  rw [e3, e2, fl_app, fl_cons, ← e4]
  exact putAt_mid _ _ _ _ (by rw [h, h])
/-! ### SigSames -/
def an7 : An := ⟨[], [6]⟩
theorem c7_ok : cFn Tryd.prog an7 Tryd.f7 = some c7 := by kernel_rfl
theorem law7_PF (l : List Sg) (x : Int) (s : Sg) (hl : l.length ≤ maxA) (hs : ∀ i : Nat, i < l.length → (gi l i).name.size ≤ maxA ∧ (gi l i).args.size ≤ maxA) : PF Tryd.prog 7 [sigs l, i64 x, .agg (sgc s)] (.bool true) := by
  refine PFk 9 hm Tryd.func7 c7_ok (Nat.le_of_ble_eq_true rfl) (by simp) (by simp) ?_
  simp (maxSteps := 3000000) [-List.length_flatten, -List.map_drop, -List.map_take, Function.comp_def, argsT, Opd.ev, Tm.get, put, ares, mapMo, ares1, snilP, bldParts, bslParts, putAt, AV.cells, AV.one, astore, aload, loadCs, callArgs, abin, abinInt, aapp, elems, appMore, appNone, preLen, aFa, aFld, apart, aExt, aPick, aNot, aLens, aEqa, cellsK, fitsA, LK.fitsA, leavesA, leafA, nilD, aNilc, aCint, aCid, alive, alen, alenOk, Rle, lePs, len_flat, c7]
  refine PF.call dshown_PF 9 (by simp [lePs]) ?_
  simp (maxSteps := 3000000) [-List.length_flatten, -List.map_drop, -List.map_take, Function.comp_def, argsT, Opd.ev, Tm.get, put, ares, mapMo, ares1, snilP, bldParts, bslParts, putAt, AV.cells, AV.one, astore, aload, loadCs, callArgs, abin, abinInt, aapp, elems, appMore, appNone, preLen, aFa, aFld, apart, aExt, aPick, aNot, aLens, aEqa, cellsK, fitsA, LK.fitsA, leavesA, leafA, nilD, aNilc, aCint, aCid, alive, alen, alenOk, Rle, lePs, len_flat, Kc]
  refine PF.call (few_PF l hl hs) 9 (by simp [lePs]) ?_
  by_cases hf : fewOk l = true
  · by_cases h0 : x < 0
    · simp (maxSteps := 3000000) [-List.length_flatten, -List.map_drop, -List.map_take, Function.comp_def, argsT, Opd.ev, Tm.get, put, ares, mapMo, ares1, snilP, bldParts, bslParts, putAt, AV.cells, AV.one, astore, aload, loadCs, callArgs, abin, abinInt, aapp, elems, appMore, appNone, preLen, aFa, aFld, apart, aExt, aPick, aNot, aLens, aEqa, cellsK, fitsA, LK.fitsA, leavesA, leafA, nilD, aNilc, aCint, aCid, alive, alen, alenOk, Rle, lePs, len_flat, Kc, hf, h0]
    by_cases h1 : (l.length : Int) ≤ x
    · simp (maxSteps := 3000000) [-List.length_flatten, -List.map_drop, -List.map_take, Function.comp_def, argsT, Opd.ev, Tm.get, put, ares, mapMo, ares1, snilP, bldParts, bslParts, putAt, AV.cells, AV.one, astore, aload, loadCs, callArgs, abin, abinInt, aapp, elems, appMore, appNone, preLen, aFa, aFld, apart, aExt, aPick, aNot, aLens, aEqa, cellsK, fitsA, LK.fitsA, leavesA, leafA, nilD, aNilc, aCint, aCid, alive, alen, alenOk, Rle, lePs, len_flat, Kc, hf, h0, h1]
    have hne : l ≠ [] := fun e => by subst e; simp at h1; omega
    have x0 : 0 ≤ x := by omega
    have x1 : x < l.length := by omega
    simp (maxSteps := 3000000) [-List.length_flatten, -List.map_drop, -List.map_take, Function.comp_def, argsT, Opd.ev, Tm.get, put, ares, mapMo, ares1, snilP, bldParts, bslParts, putAt, AV.cells, AV.one, astore, aload, loadCs, callArgs, abin, abinInt, aapp, elems, appMore, appNone, preLen, aFa, aFld, apart, aExt, aPick, aNot, aLens, aEqa, cellsK, fitsA, LK.fitsA, leavesA, leafA, nilD, aNilc, aCint, aCid, alive, alen, alenOk, Rle, lePs, len_flat, Kc, hf, h0, h1, hne, x0, x1]
    intro _
    refine ⟨hl, by omega, ?_⟩
    have hk : x.toNat < l.length := by omega
    have hput := putAt_fl (f := sgc) (sz := 2) (by simp) hk s
    have hput : putAt (l.map sgc).flatten (x.toNat * 2) (sgc s) = fl sgc (l.set x.toNat s) := hput
    have hch := chunk_fl (f := sgc) (sz := 2) (by simp) (l.set x.toNat s)
    rw [List.length_set] at hch
    have hln := fl_len (f := sgc) (sz := 2) (by simp) (l.set x.toNat s)
    rw [List.length_set] at hln
    simp only [putAt] at hput
    rw [hput]
    have hdec : decide (l = l.set x.toNat s) = decide (gi l x = s) := by
      refine decide_eq_decide.2 ?_
      have e1 : gi l x = l[x.toNat] := by simp [gi, List.getD, hk]
      rw [e1]
      constructor
      · intro h
        have := congrArg (fun m => m[x.toNat]?) h
        simp [hk] at this
        exact this
      · intro h
        rw [← h]
        simp
    have hsub : decide (l = l.take (l.length - 1)) = false := by
      refine decide_eq_false fun h => ?_
      have := congrArg List.length h
      rw [List.length_take] at this
      omega
    generalize l.set x.toNat s = m at *
    refine run_markT [(8, sigs (m)), (7, .bool true), (5, .ptr 0 0 0), (1, i64 x), (0, sigs l)] [.cells 0 (sgc s)]
      ((Wk.freeze 8 (i := 1) (g := 0) (off := 0) (len := l.length) (sz := 2) (c := false) (cs := fl sgc (m)) (by simp [Tm.get]) rfl (by rw [hln]; omega)).trans (Wk.tell 1 (by omega) (by simp [Tm.get, hch]) (by simp) (by simp) (by simp [RLB]))) ?_
    have hw : IntKind.i64.wrap ((l.length : Int) - 1) = ((l.length - 1 : Nat) : Int) := by
      unfold maxA at hl
      rw [w64 (by omega) (by omega)]
      omega
    have hle : ((l.length - 1 : Nat) : Int) ≤ (l.length : Int) := by omega
    have hnn : (0 : Int) ≤ ((l.length - 1 : Nat) : Int) := by omega
    simp (maxSteps := 3000000) [-List.length_flatten, -List.map_drop, -List.map_take, Function.comp_def, argsT, Opd.ev, Tm.get, put, ares, mapMo, ares1, snilP, bldParts, bslParts, putAt, AV.cells, AV.one, astore, aload, loadCs, callArgs, abin, abinInt, aapp, elems, appMore, appNone, preLen, aFa, aFld, apart, aExt, aPick, aNot, aLens, aEqa, cellsK, fitsA, LK.fitsA, leavesA, leafA, nilD, aNilc, aCint, aCid, alive, alen, alenOk, Rle, lePs, len_flat]
    refine ⟨_, ssame_PF l l, ?_⟩
    simp (maxSteps := 3000000) [-List.length_flatten, -List.map_drop, -List.map_take, Function.comp_def, argsT, Opd.ev, Tm.get, put, ares, mapMo, ares1, snilP, bldParts, bslParts, putAt, AV.cells, AV.one, astore, aload, loadCs, callArgs, abin, abinInt, aapp, elems, appMore, appNone, preLen, aFa, aFld, apart, aExt, aPick, aNot, aLens, aEqa, cellsK, fitsA, LK.fitsA, leavesA, leafA, nilD, aNilc, aCint, aCid, alive, alen, alenOk, Rle, lePs, len_flat, Kc, hw, hle, hnn]
    intro _
    refine ⟨_, ssame_PF l (l.take (l.length - 1)), ?_⟩
    simp (maxSteps := 3000000) [-List.length_flatten, -List.map_drop, -List.map_take, Function.comp_def, argsT, Opd.ev, Tm.get, put, ares, mapMo, ares1, snilP, bldParts, bslParts, putAt, AV.cells, AV.one, astore, aload, loadCs, callArgs, abin, abinInt, aapp, elems, appMore, appNone, preLen, aFa, aFld, apart, aExt, aPick, aNot, aLens, aEqa, cellsK, fitsA, LK.fitsA, leavesA, leafA, nilD, aNilc, aCint, aCid, alive, alen, alenOk, Rle, lePs, len_flat, hsub]
    refine ⟨_, ssame_PF l m, ?_⟩
    have hdec2 : decide (l = m) = (decide ((gi l x).name = s.name) && decide ((gi l x).args = s.args)) := by
      rw [hdec, Bool.eq_iff_iff]
      simp only [Bool.and_eq_true, decide_eq_true_eq]
      cases gi l x
      cases s
      simp
    simp (maxSteps := 3000000) [-List.length_flatten, -List.map_drop, -List.map_take, Function.comp_def, argsT, Opd.ev, Tm.get, put, ares, mapMo, ares1, snilP, bldParts, bslParts, putAt, AV.cells, AV.one, astore, aload, loadCs, callArgs, abin, abinInt, aapp, elems, appMore, appNone, preLen, aFa, aFld, apart, aExt, aPick, aNot, aLens, aEqa, cellsK, fitsA, LK.fitsA, leavesA, leafA, nilD, aNilc, aCint, aCid, alive, alen, alenOk, Rle, lePs, len_flat, Kc, x0, x1, hdec2]
    refine ⟨_, rsame_PF l l, ?_⟩
    simp (maxSteps := 3000000) [-List.length_flatten, -List.map_drop, -List.map_take, Function.comp_def, argsT, Opd.ev, Tm.get, put, ares, mapMo, ares1, snilP, bldParts, bslParts, putAt, AV.cells, AV.one, astore, aload, loadCs, callArgs, abin, abinInt, aapp, elems, appMore, appNone, preLen, aFa, aFld, apart, aExt, aPick, aNot, aLens, aEqa, cellsK, fitsA, LK.fitsA, leavesA, leafA, nilD, aNilc, aCint, aCid, alive, alen, alenOk, Rle, lePs, len_flat]
  · simp (maxSteps := 3000000) [-List.length_flatten, -List.map_drop, -List.map_take, Function.comp_def, argsT, Opd.ev, Tm.get, put, ares, mapMo, ares1, snilP, bldParts, bslParts, putAt, AV.cells, AV.one, astore, aload, loadCs, callArgs, abin, abinInt, aapp, elems, appMore, appNone, preLen, aFa, aFld, apart, aExt, aPick, aNot, aLens, aEqa, cellsK, fitsA, LK.fitsA, leavesA, leafA, nilD, aNilc, aCint, aCid, alive, alen, alenOk, Rle, lePs, len_flat, Kc, hf]
end Go.AM
