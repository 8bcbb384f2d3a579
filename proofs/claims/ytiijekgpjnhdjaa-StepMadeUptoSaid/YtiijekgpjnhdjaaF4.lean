/- Contracts of the program's functions. -/
import Derived.Test.YtiijekgpjnhdjaaF3
import Derived.KernelRfl
namespace Go.AM
open Go.Proofs
set_option maxRecDepth 100000
set_option linter.unusedVariables false
set_option linter.unusedSimpArgs false
def c4 : AFn := ⟨112, .seq (.reg false [⟨some 4, .box (.tmp 1), none⟩, ⟨some 6, .mov (.lit (.bool false)), none⟩]) (.seq (.reg false [⟨some 14, .call (.lit (.fn (.func 9) [] [])) [], none⟩, ⟨some 7, .mov (.tmp 14), none⟩]) (.seq (.seq (.reg false [⟨some 15, .mov (.tmp 0), none⟩, ⟨some 16, .load 2 true (.tmp 4), none⟩, ⟨some 17, .call (.lit (.fn (.func 10) [] [])) [.tmp 15, .tmp 16], none⟩, ⟨some 18, .not (.tmp 17), none⟩, ⟨some 19, .mov (.tmp 18), none⟩, ⟨some 20, .mov (.tmp 2), some ((19, false))⟩, ⟨some 21, .bin .lss (.tmp 20) (.lit (.int .i64 0)), some ((19, false))⟩, ⟨some 22, .pick (.tmp 19) (.lit (.bool true)) (.tmp 21), none⟩, ⟨some 23, .mov (.tmp 22), none⟩, ⟨some 24, .mov (.tmp 2), some ((23, false))⟩, ⟨some 25, .fa 0 (.tmp 4), some ((23, false))⟩, ⟨some 26, .load 1 false (.tmp 25), some ((23, false))⟩, ⟨some 27, .len (.tmp 26), some ((23, false))⟩, ⟨some 28, .bin .geq (.tmp 24) (.tmp 27), some ((23, false))⟩, ⟨some 29, .pick (.tmp 23) (.lit (.bool true)) (.tmp 28), none⟩]) (.cond (.tmp 29) (.seq (.reg false [⟨some 30, .mov (.tmp 7), none⟩, ⟨some 6, .mov (.tmp 30), none⟩]) .ret) .skip)) (.seq (.reg false [⟨some 31, .mov (.tmp 0), none⟩, ⟨some 32, .load 2 true (.tmp 4), none⟩, ⟨some 33, .mov (.tmp 2), none⟩, ⟨some 34, .call (.lit (.fn (.func 12) [] [])) [.tmp 31, .tmp 32, .tmp 33, .lit (.int .u8 76)], none⟩, ⟨some 8, .mov (.tmp 34), none⟩]) (.seq (.reg false [⟨some 35, .mov (.tmp 0), none⟩, ⟨some 36, .load 2 true (.tmp 4), none⟩, ⟨some 37, .mov (.tmp 2), none⟩, ⟨some 38, .call (.lit (.fn (.func 12) [] [])) [.tmp 35, .tmp 36, .tmp 37, .lit (.int .u8 82)], none⟩, ⟨some 9, .mov (.tmp 38), none⟩]) (.seq (.reg false [⟨some 39, .mov (.tmp 0), none⟩, ⟨some 40, .load 2 true (.tmp 4), none⟩, ⟨some 41, .mov (.tmp 2), none⟩, ⟨some 42, .call (.lit (.fn (.func 12) [] [])) [.tmp 39, .tmp 40, .tmp 41, .lit (.int .u8 66)], none⟩, ⟨some 10, .mov (.tmp 42), none⟩]) (.seq (.reg false [⟨some 11, .mov (.lit (.bool true)), none⟩]) (.seq (.seq (.reg false [⟨some 12, .mov (.lit (.int .i64 0)), none⟩]) (.block 0 (.loop (.seq (.seq (.reg false [⟨some 43, .mov (.tmp 12), none⟩, ⟨some 44, .mov (.tmp 2), none⟩, ⟨some 45, .bin .leq (.tmp 43) (.tmp 44), none⟩]) (.cond (.tmp 45) .skip (.exit 0))) (.seq (.block 1 (.reg false [⟨some 48, .mov (.tmp 11), none⟩, ⟨some 49, .mov (.tmp 48), none⟩, ⟨some 50, .fa 0 (.tmp 4), some ((49, true))⟩, ⟨some 51, .load 1 false (.tmp 50), some ((49, true))⟩, ⟨some 52, .mov (.tmp 12), some ((49, true))⟩, ⟨some 53, .ia 1 (.tmp 51) (.tmp 52), some ((49, true))⟩, ⟨some 54, .load 1 false (.tmp 53), some ((49, true))⟩, ⟨some 55, .ia 1 (.tmp 54) (.lit (.int .i64 0)), some ((49, true))⟩, ⟨some 56, .load 1 false (.tmp 55), some ((49, true))⟩, ⟨some 57, .bin .leq (.tmp 56) (.lit (.int .i64 3)), some ((49, true))⟩, ⟨some 58, .pick (.tmp 49) (.tmp 57) (.lit (.bool false)), none⟩, ⟨some 11, .mov (.tmp 58), none⟩])) (.reg false [⟨some 46, .mov (.tmp 12), none⟩, ⟨some 47, .bin .add (.tmp 46) (.lit (.int .i64 1)), none⟩, ⟨some 12, .mov (.tmp 47), none⟩])))))) (.seq (.reg false [⟨some 59, .fa 0 (.tmp 4), none⟩, ⟨some 60, .load 1 false (.tmp 59), none⟩, ⟨some 61, .mov (.tmp 2), none⟩, ⟨some 62, .ia 1 (.tmp 60) (.tmp 61), none⟩, ⟨some 63, .load 1 false (.tmp 62), none⟩, ⟨some 64, .ia 1 (.tmp 63) (.lit (.int .i64 0)), none⟩, ⟨some 65, .load 1 false (.tmp 64), none⟩, ⟨some 13, .mov (.tmp 65), none⟩]) (.seq (.reg false [⟨some 66, .mov (.tmp 7), none⟩, ⟨some 67, .mov (.tmp 66), none⟩, ⟨some 68, .mov (.tmp 10), some ((67, true))⟩, ⟨some 69, .not (.tmp 68), some ((67, true))⟩, ⟨some 70, .mov (.tmp 69), some ((67, true))⟩, ⟨some 71, .mov (.tmp 8), some ((70, false))⟩, ⟨some 72, .mov (.tmp 71), some ((70, false))⟩, ⟨some 73, .mov (.tmp 9), some ((72, true))⟩, ⟨some 74, .pick (.tmp 72) (.tmp 73) (.lit (.bool false)), some ((70, false))⟩, ⟨some 75, .pick (.tmp 70) (.lit (.bool true)) (.tmp 74), some ((67, true))⟩, ⟨some 76, .pick (.tmp 67) (.tmp 75) (.lit (.bool false)), none⟩, ⟨some 77, .mov (.tmp 76), none⟩, ⟨some 78, .mov (.tmp 11), some ((77, true))⟩, ⟨some 79, .not (.tmp 78), some ((77, true))⟩, ⟨some 80, .mov (.tmp 79), some ((77, true))⟩, ⟨some 81, .mov (.tmp 10), some ((80, false))⟩, ⟨some 82, .pick (.tmp 80) (.lit (.bool true)) (.tmp 81), some ((77, true))⟩, ⟨some 83, .pick (.tmp 77) (.tmp 82) (.lit (.bool false)), none⟩, ⟨some 84, .mov (.tmp 83), none⟩, ⟨some 85, .mov (.tmp 13), some ((84, true))⟩, ⟨some 86, .bin .neq (.tmp 85) (.lit (.int .i64 4)), some ((84, true))⟩, ⟨some 87, .mov (.tmp 86), some ((84, true))⟩, ⟨some 88, .mov (.tmp 9), some ((87, false))⟩, ⟨some 89, .not (.tmp 88), some ((87, false))⟩, ⟨some 90, .mov (.tmp 89), some ((87, false))⟩, ⟨some 91, .mov (.tmp 10), some ((90, true))⟩, ⟨some 92, .not (.tmp 91), some ((90, true))⟩, ⟨some 93, .pick (.tmp 90) (.tmp 92) (.lit (.bool false)), some ((87, false))⟩, ⟨some 94, .pick (.tmp 87) (.lit (.bool true)) (.tmp 93), some ((84, true))⟩, ⟨some 95, .pick (.tmp 84) (.tmp 94) (.lit (.bool false)), none⟩, ⟨some 96, .mov (.tmp 95), none⟩, ⟨some 97, .mov (.tmp 13), some ((96, true))⟩, ⟨some 98, .bin .neq (.tmp 97) (.lit (.int .i64 5)), some ((96, true))⟩, ⟨some 99, .mov (.tmp 98), some ((96, true))⟩, ⟨some 100, .mov (.tmp 13), some ((99, true))⟩, ⟨some 101, .bin .neq (.tmp 100) (.lit (.int .i64 6)), some ((99, true))⟩, ⟨some 102, .pick (.tmp 99) (.tmp 101) (.lit (.bool false)), some ((96, true))⟩, ⟨some 103, .mov (.tmp 102), some ((96, true))⟩, ⟨some 104, .mov (.tmp 8), some ((103, false))⟩, ⟨some 105, .not (.tmp 104), some ((103, false))⟩, ⟨some 106, .mov (.tmp 105), some ((103, false))⟩, ⟨some 107, .mov (.tmp 10), some ((106, true))⟩, ⟨some 108, .not (.tmp 107), some ((106, true))⟩, ⟨some 109, .pick (.tmp 106) (.tmp 108) (.lit (.bool false)), some ((103, false))⟩, ⟨some 110, .pick (.tmp 103) (.lit (.bool true)) (.tmp 109), some ((96, true))⟩, ⟨some 111, .pick (.tmp 96) (.tmp 110) (.lit (.bool false)), none⟩, ⟨some 6, .mov (.tmp 111), none⟩]) .ret))))))))), [.tmp 6]⟩
/-! ### The law of StepSided -/
theorem key_kind {l : List Sg} {a : Kd} (hF : Fine l a) {x : Int} (h : 0 ≤ x ∧ x < a.keys.length) : 0 < (gi a.keys x).length ∧ gi (gi a.keys x) 0 = (termAt a x).1.kind := by
  have h1 := (hF.fit h).1
  have e : termAt a x = termOf (gi a.keys x) := by
    unfold termAt
    rw [if_neg (by omega)]
  rw [e] at h1 ⊢
  unfold termOf at h1 ⊢
  split at h1
  · cases h1
  · rename_i h3
    rw [if_neg h3]
    exact ⟨by omega, rfl⟩
theorem okAt_plain {l : List Sg} {a : Kd} (hF : Fine l a) : ∀ (n : Nat) (id : Int), (0 ≤ id ∧ id < a.keys.length) → id.toNat < n → (∀ j : Nat, (j : Int) ≤ id → (termAt a j).1.kind ≤ 3) → ∀ s, okAt l a id s = true
  | 0, id, _, h, _, _ => by omega
  | n + 1, id, hr, hn, h, s => by
    have hfit := (hF.fit hr).2
    have hk := h id.toNat (by omega)
    rw [Int.toNat_of_nonneg hr.1] at hk
    refine (okAt_step hF hr).2 ⟨?_, fun i hi => ?_⟩
    · unfold sideMay
      rw [if_neg (by omega), if_neg (by omega)]
    · have hp := hfit.parts i hi
      exact okAt_plain hF n (gi (termAt a id).1.args i) ⟨hp.1, by omega⟩ (by omega) (fun j hj => h j (by omega)) _
theorem okAt_not {l : List Sg} {a : Kd} (hF : Fine l a) {id s : Int} (hr : 0 ≤ id ∧ id < a.keys.length) (h : sideMay (termAt a id).1 s = false) : okAt l a id s = false := by
  cases h0 : okAt l a id s with
  | false => rfl
  | true =>
    have := ((okAt_step hF hr).1 h0).1
    rw [h] at this
    cases this
theorem sided_law {l : List Sg} {a : Kd} (hF : Fine l a) {id : Int} (hr : 0 ≤ id ∧ id < a.keys.length) (pl : Bool) (hpl : pl = true → ∀ j : Nat, (j : Int) ≤ id → (termAt a j).1.kind ≤ 3) :
    (sided l a id 66 = true → sided l a id 76 = true ∧ sided l a id 82 = true) ∧ (pl = true → sided l a id 66 = true) ∧ ((termAt a id).1.kind = 4 → sided l a id 82 = false ∧ sided l a id 66 = false) ∧
      ((termAt a id).1.kind = 5 ∨ (termAt a id).1.kind = 6 → sided l a id 76 = false ∧ sided l a id 66 = false) := by
  have h1 := (hF.fit hr).1
  have e : ∀ s, sided l a id s = okAt l a id (nside s) := fun s => by simp [sided, h1]
  rw [e, e, e]
  have e1 : nside 66 = 66 := rfl
  have e2 : nside 76 = 76 := rfl
  have e3 : nside 82 = 82 := rfl
  rw [e1, e2, e3]
  refine ⟨fun h => okAt_both hF _ id hr (Nat.lt_succ_self _) h, fun h => okAt_plain hF _ id hr (Nat.lt_succ_self _) (hpl h) 66, fun h => ⟨okAt_not hF hr ?_, okAt_not hF hr ?_⟩, fun h => ⟨okAt_not hF hr ?_, okAt_not hF hr ?_⟩⟩
  · simp [sideMay, h]
  · simp [sideMay, h]
  · rcases h with h | h <;> simp [sideMay, h]
  · rcases h with h | h <;> simp [sideMay, h]
def plainTo (a : Kd) (i : Nat) : Bool := decide (∀ j : Nat, j < i → (termAt a j).1.kind ≤ 3)
theorem plainTo_succ (a : Kd) (i : Nat) : plainTo a (i + 1) = (plainTo a i && decide ((termAt a i).1.kind ≤ 3)) := by
  unfold plainTo
  rw [Bool.eq_iff_iff]
  simp only [Bool.and_eq_true, decide_eq_true_eq]
  constructor
  · exact fun h => ⟨fun j hj => h j (by omega), h i (by omega)⟩
  · rintro ⟨h1, h2⟩ j hj
    rcases Nat.lt_or_ge j i with h | h
    · exact h1 j h
    · have : j = i := by omega
      subst this
      exact h2
theorem c4_ok : cFn Try.prog an0 Try.f4 = some c4 := by kernel_rfl
theorem law4_PF (l : List Sg) (a : Kd) (id : Int) (hs : ∀ i : Nat, i < l.length → (gi l i).args.size ≤ maxA) (hk : a.keys.length ≤ 1048576) (hks : ∀ i : Nat, i < a.keys.length → (gi a.keys i).length ≤ maxA) :
    PF Try.prog 4 [sigs l, .agg a.cs, i64 id] (.bool true) := by
  refine PFk 9 hm Try.func4 c4_ok (Nat.le_of_ble_eq_true rfl) (by simp) (by simp) ?_
  simp (maxSteps := 3000000) [-List.length_flatten, -List.map_drop, -List.map_take, Function.comp_def, argsT, Opd.ev, Tm.get, put, ares, mapMo, ares1, snilP, bldParts, bslParts, putAt, AV.cells, AV.one, astore, aload, loadCs, callArgs, abin, abinInt, aapp, elems, appMore, appNone, preLen, aFa, aFld, apart, aExt, aPick, aNot, aLens, aEqa, cellsK, fitsA, LK.fitsA, leavesA, leafA, nilD, aNilc, aCint, aCid, alive, alen, alenOk, Rle, lePs, len_flat, c4]
  refine PF.call shown_PF 9 (by simp [lePs]) ?_
  simp (maxSteps := 3000000) [-List.length_flatten, -List.map_drop, -List.map_take, Function.comp_def, argsT, Opd.ev, Tm.get, put, ares, mapMo, ares1, snilP, bldParts, bslParts, putAt, AV.cells, AV.one, astore, aload, loadCs, callArgs, abin, abinInt, aapp, elems, appMore, appNone, preLen, aFa, aFld, apart, aExt, aPick, aNot, aLens, aEqa, cellsK, fitsA, LK.fitsA, leavesA, leafA, nilD, aNilc, aCint, aCid, alive, alen, alenOk, Rle, lePs, len_flat, Kc]
  refine PF.call (of10_PF l a hs hk hks) 9 (by simp [lePs]) ?_
  by_cases ho : ofOk l a = true
  · have hF := ofOk_fine ho
    by_cases h0 : id < 0
    · simp (maxSteps := 3000000) [-List.length_flatten, -List.map_drop, -List.map_take, Function.comp_def, argsT, Opd.ev, Tm.get, put, ares, mapMo, ares1, snilP, bldParts, bslParts, putAt, AV.cells, AV.one, astore, aload, loadCs, callArgs, abin, abinInt, aapp, elems, appMore, appNone, preLen, aFa, aFld, apart, aExt, aPick, aNot, aLens, aEqa, cellsK, fitsA, LK.fitsA, leavesA, leafA, nilD, aNilc, aCint, aCid, alive, alen, alenOk, Rle, lePs, len_flat, Kc, ho, h0]
    by_cases h1 : (a.keys.length : Int) ≤ id
    · simp (maxSteps := 3000000) [-List.length_flatten, -List.map_drop, -List.map_take, Function.comp_def, argsT, Opd.ev, Tm.get, put, ares, mapMo, ares1, snilP, bldParts, bslParts, putAt, AV.cells, AV.one, astore, aload, loadCs, callArgs, abin, abinInt, aapp, elems, appMore, appNone, preLen, aFa, aFld, apart, aExt, aPick, aNot, aLens, aEqa, cellsK, fitsA, LK.fitsA, leavesA, leafA, nilD, aNilc, aCint, aCid, alive, alen, alenOk, Rle, lePs, len_flat, Kc, ho, h0, h1]
    simp (maxSteps := 3000000) [-List.length_flatten, -List.map_drop, -List.map_take, Function.comp_def, argsT, Opd.ev, Tm.get, put, ares, mapMo, ares1, snilP, bldParts, bslParts, putAt, AV.cells, AV.one, astore, aload, loadCs, callArgs, abin, abinInt, aapp, elems, appMore, appNone, preLen, aFa, aFld, apart, aExt, aPick, aNot, aLens, aEqa, cellsK, fitsA, LK.fitsA, leavesA, leafA, nilD, aNilc, aCint, aCid, alive, alen, alenOk, Rle, lePs, len_flat, Kc, ho, h0, h1]
    intro hkl
    have hr : 0 ≤ id ∧ id < a.keys.length := by omega
    refine PF.call (sided_PF hF id 76) 9 (by simp [lePs]) ?_
    simp (maxSteps := 3000000) [-List.length_flatten, -List.map_drop, -List.map_take, Function.comp_def, argsT, Opd.ev, Tm.get, put, ares, mapMo, ares1, snilP, bldParts, bslParts, putAt, AV.cells, AV.one, astore, aload, loadCs, callArgs, abin, abinInt, aapp, elems, appMore, appNone, preLen, aFa, aFld, apart, aExt, aPick, aNot, aLens, aEqa, cellsK, fitsA, LK.fitsA, leavesA, leafA, nilD, aNilc, aCint, aCid, alive, alen, alenOk, Rle, lePs, len_flat, Kc]
    refine PF.call (sided_PF hF id 82) 9 (by simp [lePs]) ?_
    simp (maxSteps := 3000000) [-List.length_flatten, -List.map_drop, -List.map_take, Function.comp_def, argsT, Opd.ev, Tm.get, put, ares, mapMo, ares1, snilP, bldParts, bslParts, putAt, AV.cells, AV.one, astore, aload, loadCs, callArgs, abin, abinInt, aapp, elems, appMore, appNone, preLen, aFa, aFld, apart, aExt, aPick, aNot, aLens, aEqa, cellsK, fitsA, LK.fitsA, leavesA, leafA, nilD, aNilc, aCint, aCid, alive, alen, alenOk, Rle, lePs, len_flat, Kc]
    refine PF.call (sided_PF hF id 66) 9 (by simp [lePs]) ?_
    simp (maxSteps := 3000000) [-List.length_flatten, -List.map_drop, -List.map_take, Function.comp_def, argsT, Opd.ev, Tm.get, put, ares, mapMo, ares1, snilP, bldParts, bslParts, putAt, AV.cells, AV.one, astore, aload, loadCs, callArgs, abin, abinInt, aapp, elems, appMore, appNone, preLen, aFa, aFld, apart, aExt, aPick, aNot, aLens, aEqa, cellsK, fitsA, LK.fitsA, leavesA, leafA, nilD, aNilc, aCint, aCid, alive, alen, alenOk, Rle, lePs, len_flat, Kc]
    have hk0 := fun (i : Nat) (hi : (i : Int) ≤ id) => key_kind hF (x := i) (by omega)
    refine run_loop (fun m T H => ∃ i : Nat, m = id.toNat + 1 - i ∧ i ≤ id.toNat + 1 ∧ T = [(12, i64 i), (11, .bool (plainTo a i)), (10, .bool (sided l a id 66)), (9, .bool (sided l a id 82)), (8, .bool (sided l a id 76)), (7, .bool true), (4, .ptr 0 0 0), (2, i64 id)] ∧ H = [.cells 0 a.cs])
      (id.toNat + 1) [(12, i64 0), (11, .bool true), (10, .bool (sided l a id 66)), (9, .bool (sided l a id 82)), (8, .bool (sided l a id 76)), (7, .bool true), (4, .ptr 0 0 0), (2, i64 id)] [.cells 0 a.cs]
      (Wk.tell 1 (by omega) (by simp [Tm.get]) (by simp) rfl (by simp [RLB])) ⟨0, by simp, by simp, by simp [plainTo], rfl⟩ ?_
    rintro m T H ⟨i, rfl, hi, rfl, rfl⟩
    by_cases hlt : (i : Int) ≤ id
    · obtain ⟨k1, k2⟩ := hk0 i hlt
      have hnx : IntKind.i64.wrap ((i : Int) + 1) = ((i + 1 : Nat) : Int) := nxt (n := a.keys.length) (by omega) hkl
      have hik : i < a.keys.length := by omega
      cases hp : plainTo a i with
      | true =>
        simp (maxSteps := 3000000) [-List.length_flatten, -List.map_drop, -List.map_take, Function.comp_def, argsT, Opd.ev, Tm.get, put, ares, mapMo, ares1, snilP, bldParts, bslParts, putAt, AV.cells, AV.one, astore, aload, loadCs, callArgs, abin, abinInt, aapp, elems, appMore, appNone, preLen, aFa, aFld, apart, aExt, aPick, aNot, aLens, aEqa, cellsK, fitsA, LK.fitsA, leavesA, leafA, nilD, aNilc, aCint, aCid, alive, alen, alenOk, Rle, lePs, len_flat, hlt, hp, hik, k1, k2]
        exact Kl_next (id.toNat + 1 - (i + 1)) 1 (by omega) ⟨i + 1, rfl, by omega, rfl, rfl⟩ (by simp [Tm.get, hnx, plainTo_succ, hp]) (by simp) rfl (by simp [RLB]) (by omega)
      | false =>
        simp (maxSteps := 3000000) [-List.length_flatten, -List.map_drop, -List.map_take, Function.comp_def, argsT, Opd.ev, Tm.get, put, ares, mapMo, ares1, snilP, bldParts, bslParts, putAt, AV.cells, AV.one, astore, aload, loadCs, callArgs, abin, abinInt, aapp, elems, appMore, appNone, preLen, aFa, aFld, apart, aExt, aPick, aNot, aLens, aEqa, cellsK, fitsA, LK.fitsA, leavesA, leafA, nilD, aNilc, aCint, aCid, alive, alen, alenOk, Rle, lePs, len_flat, hlt, hp]
        exact Kl_next (id.toNat + 1 - (i + 1)) 1 (by omega) ⟨i + 1, rfl, by omega, rfl, rfl⟩ (by simp [Tm.get, hnx, plainTo_succ, hp]) (by simp) rfl (by simp [RLB]) (by omega)
    · have e : (i : Int) = id + 1 := by omega
      obtain ⟨k1, k2⟩ := key_kind hF hr
      obtain ⟨w1, w2, w3, w4⟩ := sided_law hF hr (plainTo a i) (fun h j hj => by
        unfold plainTo at h
        exact of_decide_eq_true h j (by omega))
      have hlt' : ¬ (i : Int) ≤ id := hlt
      generalize plainTo a i = pl at *
      generalize sided l a id 66 = b at *
      generalize sided l a id 76 = p at *
      generalize sided l a id 82 = q at *
      generalize (termAt a id).1.kind = kd at *
      by_cases h4 : kd = 4
      · obtain ⟨rfl, rfl⟩ := w3 h4
        have hpl : pl = false := by cases pl; rfl; exact absurd (w2 rfl) (by simp)
        subst hpl
        simp (maxSteps := 3000000) [-List.length_flatten, -List.map_drop, -List.map_take, Function.comp_def, argsT, Opd.ev, Tm.get, put, ares, mapMo, ares1, snilP, bldParts, bslParts, putAt, AV.cells, AV.one, astore, aload, loadCs, callArgs, abin, abinInt, aapp, elems, appMore, appNone, preLen, aFa, aFld, apart, aExt, aPick, aNot, aLens, aEqa, cellsK, fitsA, LK.fitsA, leavesA, leafA, nilD, aNilc, aCint, aCid, alive, alen, alenOk, Rle, lePs, len_flat, hlt', hr, k1, k2, h4]
      by_cases h5 : kd = 5
      · obtain ⟨rfl, rfl⟩ := w4 (.inl h5)
        have hpl : pl = false := by cases pl; rfl; exact absurd (w2 rfl) (by simp)
        subst hpl
        simp (maxSteps := 3000000) [-List.length_flatten, -List.map_drop, -List.map_take, Function.comp_def, argsT, Opd.ev, Tm.get, put, ares, mapMo, ares1, snilP, bldParts, bslParts, putAt, AV.cells, AV.one, astore, aload, loadCs, callArgs, abin, abinInt, aapp, elems, appMore, appNone, preLen, aFa, aFld, apart, aExt, aPick, aNot, aLens, aEqa, cellsK, fitsA, LK.fitsA, leavesA, leafA, nilD, aNilc, aCint, aCid, alive, alen, alenOk, Rle, lePs, len_flat, hlt', hr, k1, k2, h5]
      by_cases h6 : kd = 6
      · obtain ⟨rfl, rfl⟩ := w4 (.inr h6)
        have hpl : pl = false := by cases pl; rfl; exact absurd (w2 rfl) (by simp)
        subst hpl
        simp (maxSteps := 3000000) [-List.length_flatten, -List.map_drop, -List.map_take, Function.comp_def, argsT, Opd.ev, Tm.get, put, ares, mapMo, ares1, snilP, bldParts, bslParts, putAt, AV.cells, AV.one, astore, aload, loadCs, callArgs, abin, abinInt, aapp, elems, appMore, appNone, preLen, aFa, aFld, apart, aExt, aPick, aNot, aLens, aEqa, cellsK, fitsA, LK.fitsA, leavesA, leafA, nilD, aNilc, aCint, aCid, alive, alen, alenOk, Rle, lePs, len_flat, hlt', hr, k1, k2, h6]
      cases b with
      | true =>
        obtain ⟨rfl, rfl⟩ := w1 rfl
        cases pl <;> simp (maxSteps := 3000000) [-List.length_flatten, -List.map_drop, -List.map_take, Function.comp_def, argsT, Opd.ev, Tm.get, put, ares, mapMo, ares1, snilP, bldParts, bslParts, putAt, AV.cells, AV.one, astore, aload, loadCs, callArgs, abin, abinInt, aapp, elems, appMore, appNone, preLen, aFa, aFld, apart, aExt, aPick, aNot, aLens, aEqa, cellsK, fitsA, LK.fitsA, leavesA, leafA, nilD, aNilc, aCint, aCid, alive, alen, alenOk, Rle, lePs, len_flat, hlt', hr, k1, k2, h4, h5, h6]
      | false =>
        have hpl : pl = false := by cases pl; rfl; exact absurd (w2 rfl) (by simp)
        subst hpl
        simp (maxSteps := 3000000) [-List.length_flatten, -List.map_drop, -List.map_take, Function.comp_def, argsT, Opd.ev, Tm.get, put, ares, mapMo, ares1, snilP, bldParts, bslParts, putAt, AV.cells, AV.one, astore, aload, loadCs, callArgs, abin, abinInt, aapp, elems, appMore, appNone, preLen, aFa, aFld, apart, aExt, aPick, aNot, aLens, aEqa, cellsK, fitsA, LK.fitsA, leavesA, leafA, nilD, aNilc, aCint, aCid, alive, alen, alenOk, Rle, lePs, len_flat, hlt', hr, k1, k2, h4, h5, h6]
  · simp (maxSteps := 3000000) [-List.length_flatten, -List.map_drop, -List.map_take, Function.comp_def, argsT, Opd.ev, Tm.get, put, ares, mapMo, ares1, snilP, bldParts, bslParts, putAt, AV.cells, AV.one, astore, aload, loadCs, callArgs, abin, abinInt, aapp, elems, appMore, appNone, preLen, aFa, aFld, apart, aExt, aPick, aNot, aLens, aEqa, cellsK, fitsA, LK.fitsA, leavesA, leafA, nilD, aNilc, aCint, aCid, alive, alen, alenOk, Rle, lePs, len_flat, Kc, ho]
end Go.AM
