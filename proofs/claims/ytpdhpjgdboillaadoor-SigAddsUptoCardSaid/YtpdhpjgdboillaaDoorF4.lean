/- Contracts of the program's functions. -/
import Derived.Test.YtpdhpjgdboillaaDoorF3
import Derived.KernelRfl
namespace Go.AM
open Go.Proofs
set_option maxRecDepth 100000
set_option linter.unusedVariables false
set_option linter.unusedSimpArgs false
def c12 : AFn := ⟨36, .seq (.reg false [⟨some 3, .box (.tmp 1), none⟩, ⟨some 4, .mov (.lit .nilS), none⟩, ⟨some 5, .mov (.lit (.int .i64 0)), none⟩]) (.seq (.reg false [⟨some 8, .fa 0 (.tmp 3), none⟩, ⟨some 9, .load 1 false (.tmp 8), none⟩, ⟨some 10, .call (.lit (.fn (.func 20) [] [])) [.tmp 9], none⟩, ⟨some 6, .mov (.tmp 10), none⟩]) (.seq (.seq (.reg false [⟨some 11, .mov (.tmp 6), none⟩, ⟨some 12, .not (.tmp 11), none⟩]) (.cond (.tmp 12) (.seq (.reg false [⟨some 13, .mov (.tmp 0), none⟩, ⟨some 4, .mov (.tmp 13), none⟩, ⟨some 5, .mov (.lit (.int .i64 3)), none⟩]) .ret) .skip)) (.seq (.reg false [⟨some 14, .fa 1 (.tmp 3), none⟩, ⟨some 15, .load 1 false (.tmp 14), none⟩, ⟨some 16, .call (.lit (.fn (.func 21) [] [])) [.tmp 15], none⟩, ⟨some 7, .mov (.tmp 16), none⟩]) (.seq (.seq (.reg false [⟨some 17, .mov (.tmp 7), none⟩, ⟨some 18, .not (.tmp 17), none⟩]) (.cond (.tmp 18) (.seq (.reg false [⟨some 19, .mov (.tmp 0), none⟩, ⟨some 4, .mov (.tmp 19), none⟩, ⟨some 5, .mov (.lit (.int .i64 1)), none⟩]) .ret) .skip)) (.seq (.seq (.reg false [⟨some 20, .mov (.tmp 0), none⟩, ⟨some 21, .fa 0 (.tmp 3), none⟩, ⟨some 22, .load 1 false (.tmp 21), none⟩, ⟨some 23, .call (.lit (.fn (.func 22) [] [])) [.tmp 20, .tmp 22], none⟩, ⟨some 24, .bin .geq (.tmp 23) (.lit (.int .i64 0)), none⟩]) (.cond (.tmp 24) (.seq (.reg false [⟨some 25, .mov (.tmp 0), none⟩, ⟨some 4, .mov (.tmp 25), none⟩, ⟨some 5, .mov (.lit (.int .i64 4)), none⟩]) .ret) .skip)) (.seq (.seq (.reg false [⟨some 26, .mov (.tmp 0), none⟩, ⟨some 27, .len (.tmp 26), none⟩, ⟨some 28, .bin .geq (.tmp 27) (.lit (.int .i64 64)), none⟩]) (.cond (.tmp 28) (.seq (.reg false [⟨some 29, .mov (.tmp 0), none⟩, ⟨some 4, .mov (.tmp 29), none⟩, ⟨some 5, .mov (.lit (.int .i64 7)), none⟩]) .ret) .skip)) (.seq (.reg true [⟨some 30, .bslice 2 0 [.str ⟨#[]⟩, .str ⟨#[]⟩] [], none⟩, ⟨some 31, .mov (.tmp 0), none⟩, ⟨some 33, .load 2 true (.tmp 3), none⟩, ⟨some 34, .bslice 2 1 [.str ⟨#[]⟩, .str ⟨#[]⟩] [(0, .tmp 33)], none⟩, ⟨some 32, .appc 2 32 (.tmp 30) (.tmp 31), none⟩, ⟨some 35, .app 2 32 (.tmp 32) (.tmp 34), none⟩, ⟨some 4, .mov (.tmp 35), none⟩, ⟨some 5, .mov (.lit (.int .i64 0)), none⟩]) .ret))))))), [.tmp 4, .tmp 5]⟩
/-! ### SigAdds -/
def an12 : An := ⟨[1000032], []⟩
theorem c12_ok : cFn Tryd.prog an12 Tryd.f12 = some c12 := by kernel_rfl
theorem radd_PF (l : List Sg) (s : Sg) (ha : s.args.size ≤ maxA) : PF Tryd.prog 12 [sigs l, .agg (sgc s)] (.tuple [sigs (addOf l s).1, i64 (addOf l s).2]) := by
  refine PFk 9 hm Tryd.func12 c12_ok (Nat.le_of_ble_eq_true rfl) (by simp) (by simp) ?_
  simp (maxSteps := 3000000) [-List.length_flatten, -List.map_drop, -List.map_take, Function.comp_def, argsT, Opd.ev, Tm.get, put, ares, mapMo, ares1, snilP, bldParts, bslParts, putAt, AV.cells, AV.one, astore, aload, loadCs, callArgs, abin, abinInt, aapp, elems, appMore, appNone, preLen, aFa, aFld, apart, aExt, aPick, aNot, aLens, aEqa, cellsK, fitsA, LK.fitsA, leavesA, leafA, nilD, aNilc, aCint, aCid, alive, alen, alenOk, Rle, lePs, len_flat, c12]
  refine PF.call (con_PF s.name) 9 (by simp [lePs]) ?_
  by_cases h1 : conOk s.name = true
  · simp (maxSteps := 3000000) [-List.length_flatten, -List.map_drop, -List.map_take, Function.comp_def, argsT, Opd.ev, Tm.get, put, ares, mapMo, ares1, snilP, bldParts, bslParts, putAt, AV.cells, AV.one, astore, aload, loadCs, callArgs, abin, abinInt, aapp, elems, appMore, appNone, preLen, aFa, aFld, apart, aExt, aPick, aNot, aLens, aEqa, cellsK, fitsA, LK.fitsA, leavesA, leafA, nilD, aNilc, aCint, aCid, alive, alen, alenOk, Rle, lePs, len_flat, Kc, h1]
    refine PF.call (args_PF s.args ha) 9 (by simp [lePs]) ?_
    by_cases h2 : argsOk s.args = true
    · simp (maxSteps := 3000000) [-List.length_flatten, -List.map_drop, -List.map_take, Function.comp_def, argsT, Opd.ev, Tm.get, put, ares, mapMo, ares1, snilP, bldParts, bslParts, putAt, AV.cells, AV.one, astore, aload, loadCs, callArgs, abin, abinInt, aapp, elems, appMore, appNone, preLen, aFa, aFld, apart, aExt, aPick, aNot, aLens, aEqa, cellsK, fitsA, LK.fitsA, leavesA, leafA, nilD, aNilc, aCint, aCid, alive, alen, alenOk, Rle, lePs, len_flat, Kc, h2]
      refine PF.call (find_PF l s.name) 9 (by simp [lePs]) ?_
      by_cases h3 : 0 ≤ fstAt (fun x => decide (x.name = s.name)) l
      · simp (maxSteps := 3000000) [-List.length_flatten, -List.map_drop, -List.map_take, Function.comp_def, argsT, Opd.ev, Tm.get, put, ares, mapMo, ares1, snilP, bldParts, bslParts, putAt, AV.cells, AV.one, astore, aload, loadCs, callArgs, abin, abinInt, aapp, elems, appMore, appNone, preLen, aFa, aFld, apart, aExt, aPick, aNot, aLens, aEqa, cellsK, fitsA, LK.fitsA, leavesA, leafA, nilD, aNilc, aCint, aCid, alive, alen, alenOk, Rle, lePs, len_flat, Kc, h3]
        simp [addOf, h1, h2, h3]
      · by_cases h4 : 64 ≤ l.length
        · have h4' : (64 : Int) ≤ (l.length : Int) := by omega
          simp (maxSteps := 3000000) [-List.length_flatten, -List.map_drop, -List.map_take, Function.comp_def, argsT, Opd.ev, Tm.get, put, ares, mapMo, ares1, snilP, bldParts, bslParts, putAt, AV.cells, AV.one, astore, aload, loadCs, callArgs, abin, abinInt, aapp, elems, appMore, appNone, preLen, aFa, aFld, apart, aExt, aPick, aNot, aLens, aEqa, cellsK, fitsA, LK.fitsA, leavesA, leafA, nilD, aNilc, aCint, aCid, alive, alen, alenOk, Rle, lePs, len_flat, Kc, h3, h4']
          simp [addOf, h1, h2, h3, h4]
        · have h4' : ¬ (64 : Int) ≤ (l.length : Int) := by omega
          have hA0 : l.length ≤ maxA := by unfold maxA; omega
          have hA : l.length + 1 ≤ maxA := by unfold maxA; omega
          have hch : chunk 2 ((l.map sgc).flatten ++ [AV.str s.name, AV.str s.args]) (l.length + 1) = (l ++ [s]).map sgc := by
            have := chunk_flat (f := sgc) (sz := 2) (l := l ++ [s]) (by simp)
            simpa using this
          have hln : (l.map sgc).flatten.length = l.length * 2 := len_flat (f := sgc) (by simp)
          have htk : (l.map sgc).flatten.take (l.length * 2) = (l.map sgc).flatten := take_flat (f := sgc) (by simp) l
          by_cases hl : l = []
          · subst hl
            simp (maxSteps := 3000000) [-List.length_flatten, -List.map_drop, -List.map_take, Function.comp_def, argsT, Opd.ev, Tm.get, put, ares, mapMo, ares1, snilP, bldParts, bslParts, putAt, AV.cells, AV.one, astore, aload, loadCs, callArgs, abin, abinInt, aapp, elems, appMore, appNone, preLen, aFa, aFld, apart, aExt, aPick, aNot, aLens, aEqa, cellsK, fitsA, LK.fitsA, leavesA, leafA, nilD, aNilc, aCint, aCid, alive, alen, alenOk, Rle, lePs, len_flat, Kc, h3, h4', aappc]
            intro h
            refine ⟨h, ?_⟩
            simp [chunk, addOf, h1, h2, h3]
          · simp (maxSteps := 3000000) [-List.length_flatten, -List.map_drop, -List.map_take, Function.comp_def, argsT, Opd.ev, Tm.get, put, ares, mapMo, ares1, snilP, bldParts, bslParts, putAt, AV.cells, AV.one, astore, aload, loadCs, callArgs, abin, abinInt, aapp, elems, appMore, appNone, preLen, aFa, aFld, apart, aExt, aPick, aNot, aLens, aEqa, cellsK, fitsA, LK.fitsA, leavesA, leafA, nilD, aNilc, aCint, aCid, alive, alen, alenOk, Rle, lePs, len_flat, Kc, h3, h4', aappc, hA0, hA, hch, hln, htk, hl]
            intro _
            rw [if_pos (by omega)]
            simp [addOf, h1, h2, h3, h4]
    · simp (maxSteps := 3000000) [-List.length_flatten, -List.map_drop, -List.map_take, Function.comp_def, argsT, Opd.ev, Tm.get, put, ares, mapMo, ares1, snilP, bldParts, bslParts, putAt, AV.cells, AV.one, astore, aload, loadCs, callArgs, abin, abinInt, aapp, elems, appMore, appNone, preLen, aFa, aFld, apart, aExt, aPick, aNot, aLens, aEqa, cellsK, fitsA, LK.fitsA, leavesA, leafA, nilD, aNilc, aCint, aCid, alive, alen, alenOk, Rle, lePs, len_flat, Kc, h2]
      simp [addOf, h1, h2]
  · simp (maxSteps := 3000000) [-List.length_flatten, -List.map_drop, -List.map_take, Function.comp_def, argsT, Opd.ev, Tm.get, put, ares, mapMo, ares1, snilP, bldParts, bslParts, putAt, AV.cells, AV.one, astore, aload, loadCs, callArgs, abin, abinInt, aapp, elems, appMore, appNone, preLen, aFa, aFld, apart, aExt, aPick, aNot, aLens, aEqa, cellsK, fitsA, LK.fitsA, leavesA, leafA, nilD, aNilc, aCint, aCid, alive, alen, alenOk, Rle, lePs, len_flat, Kc, h1]
    simp [addOf, h1]
theorem c3_ok : cFn Tryd.prog an0 Tryd.f3 = some c3 := by kernel_rfl
theorem law3_PF (l : List Sg) (s : Sg) (hl : l.length ≤ maxA) (hs : ∀ i : Nat, i < l.length → (gi l i).name.size ≤ maxA ∧ (gi l i).args.size ≤ maxA) (hn : s.name.size ≤ maxA) (ha : s.args.size ≤ maxA) : PF Tryd.prog 3 [sigs l, .agg (sgc s)] (.bool true) := by
  refine PFk 9 hm Tryd.func3 c3_ok (Nat.le_of_ble_eq_true rfl) (by simp) (by simp) ?_
  have hw : IntKind.i64.wrap ((s.name.size : Int) + s.args.size) = ((s.name.size + s.args.size : Nat) : Int) := by
    unfold maxA at hn ha
    rw [w64 (by omega) (by omega)]
    omega
  simp (maxSteps := 3000000) [-List.length_flatten, -List.map_drop, -List.map_take, Function.comp_def, argsT, Opd.ev, Tm.get, put, ares, mapMo, ares1, snilP, bldParts, bslParts, putAt, AV.cells, AV.one, astore, aload, loadCs, callArgs, abin, abinInt, aapp, elems, appMore, appNone, preLen, aFa, aFld, apart, aExt, aPick, aNot, aLens, aEqa, cellsK, fitsA, LK.fitsA, leavesA, leafA, nilD, aNilc, aCint, aCid, alive, alen, alenOk, Rle, lePs, len_flat, c3]
  refine PF.call dshown_PF 9 (by simp [lePs]) ?_
  simp (maxSteps := 3000000) [-List.length_flatten, -List.map_drop, -List.map_take, Function.comp_def, argsT, Opd.ev, Tm.get, put, ares, mapMo, ares1, snilP, bldParts, bslParts, putAt, AV.cells, AV.one, astore, aload, loadCs, callArgs, abin, abinInt, aapp, elems, appMore, appNone, preLen, aFa, aFld, apart, aExt, aPick, aNot, aLens, aEqa, cellsK, fitsA, LK.fitsA, leavesA, leafA, nilD, aNilc, aCint, aCid, alive, alen, alenOk, Rle, lePs, len_flat, Kc]
  refine PF.call (few_PF l hl hs) 9 (by simp [lePs]) ?_
  by_cases hf : fewOk l = true
  · simp (maxSteps := 3000000) [-List.length_flatten, -List.map_drop, -List.map_take, Function.comp_def, argsT, Opd.ev, Tm.get, put, ares, mapMo, ares1, snilP, bldParts, bslParts, putAt, AV.cells, AV.one, astore, aload, loadCs, callArgs, abin, abinInt, aapp, elems, appMore, appNone, preLen, aFa, aFld, apart, aExt, aPick, aNot, aLens, aEqa, cellsK, fitsA, LK.fitsA, leavesA, leafA, nilD, aNilc, aCint, aCid, alive, alen, alenOk, Rle, lePs, len_flat, Kc, hf]
    refine PF.call (sigRight_PF l (fun i hi => (hs i hi).2)) 9 (by simp [lePs]) ?_
    by_cases hr : sigRight l = true
    · by_cases h100 : (100 : Int) < ((s.name.size + s.args.size : Nat) : Int)
      · simp (maxSteps := 3000000) [-List.length_flatten, -List.map_drop, -List.map_take, Function.comp_def, argsT, Opd.ev, Tm.get, put, ares, mapMo, ares1, snilP, bldParts, bslParts, putAt, AV.cells, AV.one, astore, aload, loadCs, callArgs, abin, abinInt, aapp, elems, appMore, appNone, preLen, aFa, aFld, apart, aExt, aPick, aNot, aLens, aEqa, cellsK, fitsA, LK.fitsA, leavesA, leafA, nilD, aNilc, aCint, aCid, alive, alen, alenOk, Rle, lePs, len_flat, Kc, hr, hw, h100, -Int.natCast_add]
      simp (maxSteps := 3000000) [-List.length_flatten, -List.map_drop, -List.map_take, Function.comp_def, argsT, Opd.ev, Tm.get, put, ares, mapMo, ares1, snilP, bldParts, bslParts, putAt, AV.cells, AV.one, astore, aload, loadCs, callArgs, abin, abinInt, aapp, elems, appMore, appNone, preLen, aFa, aFld, apart, aExt, aPick, aNot, aLens, aEqa, cellsK, fitsA, LK.fitsA, leavesA, leafA, nilD, aNilc, aCint, aCid, alive, alen, alenOk, Rle, lePs, len_flat, Kc, hr, hw, h100, -Int.natCast_add]
      intros
      refine PF.call (sadd_PF l s) 9 (by simp [lePs]) ?_
      simp (maxSteps := 3000000) [-List.length_flatten, -List.map_drop, -List.map_take, Function.comp_def, argsT, Opd.ev, Tm.get, put, ares, mapMo, ares1, snilP, bldParts, bslParts, putAt, AV.cells, AV.one, astore, aload, loadCs, callArgs, abin, abinInt, aapp, elems, appMore, appNone, preLen, aFa, aFld, apart, aExt, aPick, aNot, aLens, aEqa, cellsK, fitsA, LK.fitsA, leavesA, leafA, nilD, aNilc, aCint, aCid, alive, alen, alenOk, Rle, lePs, len_flat, Kc]
      refine PF.call (radd_PF l s ha) 9 (by simp [lePs]) ?_
      simp (maxSteps := 3000000) [-List.length_flatten, -List.map_drop, -List.map_take, Function.comp_def, argsT, Opd.ev, Tm.get, put, ares, mapMo, ares1, snilP, bldParts, bslParts, putAt, AV.cells, AV.one, astore, aload, loadCs, callArgs, abin, abinInt, aapp, elems, appMore, appNone, preLen, aFa, aFld, apart, aExt, aPick, aNot, aLens, aEqa, cellsK, fitsA, LK.fitsA, leavesA, leafA, nilD, aNilc, aCint, aCid, alive, alen, alenOk, Rle, lePs, len_flat, Kc]
      refine PF.call (rsame_PF (addOf l s).1 (addOf l s).1) 9 (by simp [lePs]) ?_
      simp (maxSteps := 3000000) [-List.length_flatten, -List.map_drop, -List.map_take, Function.comp_def, argsT, Opd.ev, Tm.get, put, ares, mapMo, ares1, snilP, bldParts, bslParts, putAt, AV.cells, AV.one, astore, aload, loadCs, callArgs, abin, abinInt, aapp, elems, appMore, appNone, preLen, aFa, aFld, apart, aExt, aPick, aNot, aLens, aEqa, cellsK, fitsA, LK.fitsA, leavesA, leafA, nilD, aNilc, aCint, aCid, alive, alen, alenOk, Rle, lePs, len_flat, Kc]
    · simp (maxSteps := 3000000) [-List.length_flatten, -List.map_drop, -List.map_take, Function.comp_def, argsT, Opd.ev, Tm.get, put, ares, mapMo, ares1, snilP, bldParts, bslParts, putAt, AV.cells, AV.one, astore, aload, loadCs, callArgs, abin, abinInt, aapp, elems, appMore, appNone, preLen, aFa, aFld, apart, aExt, aPick, aNot, aLens, aEqa, cellsK, fitsA, LK.fitsA, leavesA, leafA, nilD, aNilc, aCint, aCid, alive, alen, alenOk, Rle, lePs, len_flat, Kc, hr]
  · simp (maxSteps := 3000000) [-List.length_flatten, -List.map_drop, -List.map_take, Function.comp_def, argsT, Opd.ev, Tm.get, put, ares, mapMo, ares1, snilP, bldParts, bslParts, putAt, AV.cells, AV.one, astore, aload, loadCs, callArgs, abin, abinInt, aapp, elems, appMore, appNone, preLen, aFa, aFld, apart, aExt, aPick, aNot, aLens, aEqa, cellsK, fitsA, LK.fitsA, leavesA, leafA, nilD, aNilc, aCint, aCid, alive, alen, alenOk, Rle, lePs, len_flat, Kc, hf]
end Go.AM
