/- Contracts of the program's functions. -/
import Derived.Test.YtpdhpjgdboillaaDoorF2
import Derived.KernelRfl
namespace Go.AM
open Go.Proofs
set_option maxRecDepth 100000
set_option linter.unusedVariables false
set_option linter.unusedSimpArgs false
/-! ### SigStays -/
theorem gi_app_lt {α : Type} [Inhabited α] {l m : List α} {i : Nat} (h : i < l.length) : gi (l ++ m) i = gi l i := by
  simp [gi, List.getD, List.getElem?_append_left h]
theorem gi_app_eq {α : Type} [Inhabited α] {l : List α} {x : α} : gi (l ++ [x]) (l.length : Nat) = x := by
  simp [gi, List.getD]
theorem fstAt_app {α : Type} [Inhabited α] {p : α → Bool} {l : List α} {x : α} : fstAt p (l ++ [x]) = if 0 ≤ fstAt p l then fstAt p l else if p x = true then (l.length : Int) else -1 := by
  by_cases h : 0 ≤ fstAt p l
  · rw [if_pos h]
    obtain ⟨j, hj, hp⟩ := fstAt_neg.1 h
    unfold fstAt at h ⊢
    rw [List.findIdx?_append]
    cases hf : l.findIdx? p with
    | some k => rfl
    | none => rw [hf] at h; simp at h
  · rw [if_neg h]
    have hn : ∀ j : Nat, j < l.length → p (gi l j) = false := fun j hj => by
      cases hp : p (gi l j) with
      | false => rfl
      | true => exact absurd (fstAt_neg.2 ⟨j, hj, hp⟩) h
    by_cases hx : p x = true
    · rw [if_pos hx]
      refine fstAt_some (by simp) (by rw [gi_app_eq]; exact hx) (fun j hj => by rw [gi_app_lt hj]; exact hn j hj)
    · rw [if_neg hx]
      refine fstAt_none fun j hj => ?_
      simp at hj
      rcases Nat.lt_or_ge j l.length with h1 | h1
      · rw [gi_app_lt h1]; exact hn j h1
      · have : j = l.length := by omega
        subst this
        rw [gi_app_eq]
        simpa using hx
theorem addOf_cases (l : List Sg) (s : Sg) : ((addOf l s).1 = l ∧ (addOf l s).2 ≠ 0) ∨ ((addOf l s) = (l ++ [s], 0) ∧ conOk s.name = true ∧ argsOk s.args = true ∧ ¬ 0 ≤ fstAt (fun x => decide (x.name = s.name)) l ∧ l.length < 64) := by
  unfold addOf
  split
  · simp
  · split
    · simp
    · split
      · simp
      · split
        · simp
        · rename_i h1 h2 h3 h4
          exact .inr ⟨rfl, by simpa using h1, by simpa using h2, h3, by omega⟩
theorem right_add {l : List Sg} {s : Sg} (h : sigRight l = true) (h1 : conOk s.name = true) (h2 : argsOk s.args = true) (h3 : ¬ 0 ≤ fstAt (fun x => decide (x.name = s.name)) l) (h4 : l.length < 64) :
    sigRight (l ++ [s]) = true ∧ (∀ i : Nat, i < l.length → fstAt (fun x => decide (x.name = (gi l i).name)) (l ++ [s]) = i) ∧ fstAt (fun x => decide (x.name = s.name)) l = -1 ∧ fstAt (fun x => decide (x.name = s.name)) (l ++ [s]) = l.length := by
  simp only [sigRight, Bool.and_eq_true, decide_eq_true_eq] at h
  have hold : ∀ i : Nat, i < l.length → fstAt (fun x => decide (x.name = (gi l i).name)) (l ++ [s]) = i := fun i hi => by
    have := ((sigOk_find hi).1 (h.1 i hi)).2.2
    rw [fstAt_app, this, if_pos (by omega)]
  have hnew : fstAt (fun x => decide (x.name = s.name)) (l ++ [s]) = l.length := by
    rw [fstAt_app, if_neg h3, if_pos (by simp)]
  refine ⟨?_, hold, ?_, hnew⟩
  · simp only [sigRight, Bool.and_eq_true, decide_eq_true_eq]
    refine ⟨fun i hi => ?_, by simp; omega⟩
    refine (sigOk_find hi).2 ?_
    simp at hi
    rcases Nat.lt_or_ge i l.length with h5 | h5
    · rw [gi_app_lt h5]
      have := (sigOk_find h5).1 (h.1 i h5)
      exact ⟨this.1, this.2.1, hold i h5⟩
    · have : i = l.length := by omega
      subst this
      rw [gi_app_eq]
      exact ⟨h1, h2, hnew⟩
  · refine fstAt_none fun j hj => ?_
    cases hp : decide ((gi l j).name = s.name) with
    | false => rfl
    | true => exact absurd (fstAt_neg.2 ⟨j, hj, hp⟩) h3
theorem c4_ok : cFn Tryd.prog an0 Tryd.f4 = some c4 := by kernel_rfl
theorem law4_PF (l : List Sg) (s : Sg) (hl : l.length ≤ maxA) (hs : ∀ i : Nat, i < l.length → (gi l i).name.size ≤ maxA ∧ (gi l i).args.size ≤ maxA) (hn : s.name.size ≤ maxA) (ha : s.args.size ≤ maxA) : PF Tryd.prog 4 [sigs l, .agg (sgc s)] (.bool true) := by
  refine PFk 9 hm Tryd.func4 c4_ok (Nat.le_of_ble_eq_true rfl) (by simp) (by simp) ?_
  have hw : IntKind.i64.wrap ((s.name.size : Int) + s.args.size) = ((s.name.size + s.args.size : Nat) : Int) := by
    unfold maxA at hn ha
    rw [w64 (by omega) (by omega)]
    omega
  simp (maxSteps := 3000000) [-List.length_flatten, -List.map_drop, -List.map_take, Function.comp_def, argsT, Opd.ev, Tm.get, put, ares, mapMo, ares1, snilP, bldParts, bslParts, putAt, AV.cells, AV.one, astore, aload, loadCs, callArgs, abin, abinInt, aapp, elems, appMore, appNone, preLen, aFa, aFld, apart, aExt, aPick, aNot, aLens, aEqa, cellsK, fitsA, LK.fitsA, leavesA, leafA, nilD, aNilc, aCint, aCid, alive, alen, alenOk, Rle, lePs, len_flat, c4]
  refine PF.call dshown_PF 9 (by simp [lePs]) ?_
  simp (maxSteps := 3000000) [-List.length_flatten, -List.map_drop, -List.map_take, Function.comp_def, argsT, Opd.ev, Tm.get, put, ares, mapMo, ares1, snilP, bldParts, bslParts, putAt, AV.cells, AV.one, astore, aload, loadCs, callArgs, abin, abinInt, aapp, elems, appMore, appNone, preLen, aFa, aFld, apart, aExt, aPick, aNot, aLens, aEqa, cellsK, fitsA, LK.fitsA, leavesA, leafA, nilD, aNilc, aCint, aCid, alive, alen, alenOk, Rle, lePs, len_flat, Kc]
  refine PF.call (few_PF l hl hs) 9 (by simp [lePs]) ?_
  by_cases hf : fewOk l = true
  · simp (maxSteps := 3000000) [-List.length_flatten, -List.map_drop, -List.map_take, Function.comp_def, argsT, Opd.ev, Tm.get, put, ares, mapMo, ares1, snilP, bldParts, bslParts, putAt, AV.cells, AV.one, astore, aload, loadCs, callArgs, abin, abinInt, aapp, elems, appMore, appNone, preLen, aFa, aFld, apart, aExt, aPick, aNot, aLens, aEqa, cellsK, fitsA, LK.fitsA, leavesA, leafA, nilD, aNilc, aCint, aCid, alive, alen, alenOk, Rle, lePs, len_flat, Kc, hf]
    refine PF.call (sigRight_PF l (fun i hi => (hs i hi).2)) 9 (by simp [lePs]) ?_
    by_cases hr : sigRight l = true
    · by_cases h100 : (100 : Int) < ((s.name.size + s.args.size : Nat) : Int)
      · simp (maxSteps := 3000000) [-List.length_flatten, -List.map_drop, -List.map_take, Function.comp_def, argsT, Opd.ev, Tm.get, put, ares, mapMo, ares1, snilP, bldParts, bslParts, putAt, AV.cells, AV.one, astore, aload, loadCs, callArgs, abin, abinInt, aapp, elems, appMore, appNone, preLen, aFa, aFld, apart, aExt, aPick, aNot, aLens, aEqa, cellsK, fitsA, LK.fitsA, leavesA, leafA, nilD, aNilc, aCint, aCid, alive, alen, alenOk, Rle, lePs, len_flat, Kc, hr, hw, h100, -Int.natCast_add]
      simp (maxSteps := 3000000) [-List.length_flatten, -List.map_drop, -List.map_take, Function.comp_def, argsT, Opd.ev, Tm.get, put, ares, mapMo, ares1, snilP, bldParts, bslParts, putAt, AV.cells, AV.one, astore, aload, loadCs, callArgs, abin, abinInt, aapp, elems, appMore, appNone, preLen, aFa, aFld, apart, aExt, aPick, aNot, aLens, aEqa, cellsK, fitsA, LK.fitsA, leavesA, leafA, nilD, aNilc, aCint, aCid, alive, alen, alenOk, Rle, lePs, len_flat, Kc, hr, hw, h100, -Int.natCast_add]
      intros
      refine PF.call (sadd_PF l s) 9 (by simp [lePs]) ?_
      rcases addOf_cases l s with ⟨e1, e2⟩ | ⟨e1, h1, h2, h3, h4⟩
      · rw [e1]
        simp (maxSteps := 3000000) [-List.length_flatten, -List.map_drop, -List.map_take, Function.comp_def, argsT, Opd.ev, Tm.get, put, ares, mapMo, ares1, snilP, bldParts, bslParts, putAt, AV.cells, AV.one, astore, aload, loadCs, callArgs, abin, abinInt, aapp, elems, appMore, appNone, preLen, aFa, aFld, apart, aExt, aPick, aNot, aLens, aEqa, cellsK, fitsA, LK.fitsA, leavesA, leafA, nilD, aNilc, aCint, aCid, alive, alen, alenOk, Rle, lePs, len_flat, Kc, e2]
        refine PF.call (rsame_PF l l) 9 (by simp [lePs]) ?_
        simp (maxSteps := 3000000) [-List.length_flatten, -List.map_drop, -List.map_take, Function.comp_def, argsT, Opd.ev, Tm.get, put, ares, mapMo, ares1, snilP, bldParts, bslParts, putAt, AV.cells, AV.one, astore, aload, loadCs, callArgs, abin, abinInt, aapp, elems, appMore, appNone, preLen, aFa, aFld, apart, aExt, aPick, aNot, aLens, aEqa, cellsK, fitsA, LK.fitsA, leavesA, leafA, nilD, aNilc, aCint, aCid, alive, alen, alenOk, Rle, lePs, len_flat, Kc]
      · rw [e1]
        obtain ⟨r1, r2, r3, r4⟩ := right_add hr h1 h2 h3 h4
        have hxs : ∀ i : Nat, i < (l ++ [s]).length → (gi (l ++ [s]) i).args.size ≤ maxA := fun i hi => by
          simp at hi
          rcases Nat.lt_or_ge i l.length with h5 | h5
          · rw [gi_app_lt h5]; exact (hs i h5).2
          · have : i = l.length := by omega
            subst this
            rw [gi_app_eq]; exact ha
        have pr := sigRight_PF (l ++ [s]) hxs
        rw [r1] at pr
        have pf := sfind_PF l s.name
        rw [r3] at pf
        have px := sfind_PF (l ++ [s]) s.name
        rw [r4] at px
        have pold := fun i (hi : i < l.length) => (show PF Tryd.prog 14 [sigs (l ++ [s]), .str (gi l i).name] (i64 (i : Int)) by have := sfind_PF (l ++ [s]) (gi l i).name; rw [r2 i hi] at this; exact this)
        have gx := fun i (hi : i < l.length) => gi_app_lt (m := [s]) hi
        have gl := gi_app_eq (l := l) (x := s)
        have hlen : (l ++ [s]).length = l.length + 1 := by simp
        generalize hx : l ++ [s] = x at *
        have hwl : IntKind.i64.wrap ((l.length : Int) + 1) = (x.length : Int) := by
          rw [hlen, w64 (by omega) (by omega)]
          omega
        have hlx : l.length < x.length := by omega
        have hlx' : (l.length : Int) < (x.length : Int) := by omega
        simp (maxSteps := 3000000) [-List.length_flatten, -List.map_drop, -List.map_take, Function.comp_def, argsT, Opd.ev, Tm.get, put, ares, mapMo, ares1, snilP, bldParts, bslParts, putAt, AV.cells, AV.one, astore, aload, loadCs, callArgs, abin, abinInt, aapp, elems, appMore, appNone, preLen, aFa, aFld, apart, aExt, aPick, aNot, aLens, aEqa, cellsK, fitsA, LK.fitsA, leavesA, leafA, nilD, aNilc, aCint, aCid, alive, alen, alenOk, Rle, lePs, len_flat, Kc, hwl, -Int.natCast_add]
        intro _ _
        refine ⟨_, pr, ?_⟩
        simp (maxSteps := 3000000) [-List.length_flatten, -List.map_drop, -List.map_take, Function.comp_def, argsT, Opd.ev, Tm.get, put, ares, mapMo, ares1, snilP, bldParts, bslParts, putAt, AV.cells, AV.one, astore, aload, loadCs, callArgs, abin, abinInt, aapp, elems, appMore, appNone, preLen, aFa, aFld, apart, aExt, aPick, aNot, aLens, aEqa, cellsK, fitsA, LK.fitsA, leavesA, leafA, nilD, aNilc, aCint, aCid, alive, alen, alenOk, Rle, lePs, len_flat, Kc, hlx, gl]
        intro _
        refine ⟨_, pf, ?_⟩
        simp (maxSteps := 3000000) [-List.length_flatten, -List.map_drop, -List.map_take, Function.comp_def, argsT, Opd.ev, Tm.get, put, ares, mapMo, ares1, snilP, bldParts, bslParts, putAt, AV.cells, AV.one, astore, aload, loadCs, callArgs, abin, abinInt, aapp, elems, appMore, appNone, preLen, aFa, aFld, apart, aExt, aPick, aNot, aLens, aEqa, cellsK, fitsA, LK.fitsA, leavesA, leafA, nilD, aNilc, aCint, aCid, alive, alen, alenOk, Rle, lePs, len_flat, Kc]
        refine run_countK l.length 8 [(6, sigs x), (5, .bool true), (3, .ptr 0 0 0), (0, sigs l)] [.cells 0 (sgc s)] (fun i => True)
          (Wk.tell 1 (by omega) (by simp [Tm.get]) (by simp) rfl (by simp [RLB])) trivial ?_
        intro i hi _ KK kx kr kn
        by_cases h : i < l.length
        · have hix : i < x.length := by omega
          have g1 := gx i h
          simp (maxSteps := 3000000) [-List.length_flatten, -List.map_drop, -List.map_take, Function.comp_def, argsT, Opd.ev, Tm.get, put, ares, mapMo, ares1, snilP, bldParts, bslParts, putAt, AV.cells, AV.one, astore, aload, loadCs, callArgs, abin, abinInt, aapp, elems, appMore, appNone, preLen, aFa, aFld, apart, aExt, aPick, aNot, aLens, aEqa, cellsK, fitsA, LK.fitsA, leavesA, leafA, nilD, aNilc, aCint, aCid, alive, alen, alenOk, Rle, lePs, len_flat, h, hix, g1]
          intros
          refine ⟨_, pold i h, ?_⟩
          simp (maxSteps := 3000000) [-List.length_flatten, -List.map_drop, -List.map_take, Function.comp_def, argsT, Opd.ev, Tm.get, put, ares, mapMo, ares1, snilP, bldParts, bslParts, putAt, AV.cells, AV.one, astore, aload, loadCs, callArgs, abin, abinInt, aapp, elems, appMore, appNone, preLen, aFa, aFld, apart, aExt, aPick, aNot, aLens, aEqa, cellsK, fitsA, LK.fitsA, leavesA, leafA, nilD, aNilc, aCint, aCid, alive, alen, alenOk, Rle, lePs, len_flat, Kc]
          exact kn _ _ (Kn_next 1 (by omega) (by omega) trivial (by simp [Tm.get, nxt h hl]) (by simp) rfl (by simp [RLB]))
        · simp (maxSteps := 3000000) [-List.length_flatten, -List.map_drop, -List.map_take, Function.comp_def, argsT, Opd.ev, Tm.get, put, ares, mapMo, ares1, snilP, bldParts, bslParts, putAt, AV.cells, AV.one, astore, aload, loadCs, callArgs, abin, abinInt, aapp, elems, appMore, appNone, preLen, aFa, aFld, apart, aExt, aPick, aNot, aLens, aEqa, cellsK, fitsA, LK.fitsA, leavesA, leafA, nilD, aNilc, aCint, aCid, alive, alen, alenOk, Rle, lePs, len_flat, h, kx]
          intros
          refine PF.call px 9 (by simp [lePs]) ?_
          simp (maxSteps := 3000000) [-List.length_flatten, -List.map_drop, -List.map_take, Function.comp_def, argsT, Opd.ev, Tm.get, put, ares, mapMo, ares1, snilP, bldParts, bslParts, putAt, AV.cells, AV.one, astore, aload, loadCs, callArgs, abin, abinInt, aapp, elems, appMore, appNone, preLen, aFa, aFld, apart, aExt, aPick, aNot, aLens, aEqa, cellsK, fitsA, LK.fitsA, leavesA, leafA, nilD, aNilc, aCint, aCid, alive, alen, alenOk, Rle, lePs, len_flat, Kc]
    · simp (maxSteps := 3000000) [-List.length_flatten, -List.map_drop, -List.map_take, Function.comp_def, argsT, Opd.ev, Tm.get, put, ares, mapMo, ares1, snilP, bldParts, bslParts, putAt, AV.cells, AV.one, astore, aload, loadCs, callArgs, abin, abinInt, aapp, elems, appMore, appNone, preLen, aFa, aFld, apart, aExt, aPick, aNot, aLens, aEqa, cellsK, fitsA, LK.fitsA, leavesA, leafA, nilD, aNilc, aCint, aCid, alive, alen, alenOk, Rle, lePs, len_flat, Kc, hr]
  · simp (maxSteps := 3000000) [-List.length_flatten, -List.map_drop, -List.map_take, Function.comp_def, argsT, Opd.ev, Tm.get, put, ares, mapMo, ares1, snilP, bldParts, bslParts, putAt, AV.cells, AV.one, astore, aload, loadCs, callArgs, abin, abinInt, aapp, elems, appMore, appNone, preLen, aFa, aFld, apart, aExt, aPick, aNot, aLens, aEqa, cellsK, fitsA, LK.fitsA, leavesA, leafA, nilD, aNilc, aCint, aCid, alive, alen, alenOk, Rle, lePs, len_flat, Kc, hf]
end Go.AM
