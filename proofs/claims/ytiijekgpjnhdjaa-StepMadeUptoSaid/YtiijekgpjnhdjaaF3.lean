/- Contracts of the program's functions. -/
import Derived.Test.YtiijekgpjnhdjaaF2
import Derived.Test.YtiijekgpjnhdjaaAm3
import Derived.KernelRfl
namespace Go.AM
open Go.Proofs
set_option maxRecDepth 100000
set_option linter.unusedVariables false
set_option linter.unusedSimpArgs false
/-- Both terms' parts, each two. -/
def consL (b : Bo) : Nat → List (Int × Int)
  | 0 => []
  | i + 1 => consL b i ++ varied (gi b.s.args i) (gi b.t.args i) (byte (gi b.l b.s.sym).args i)
theorem varied_len (p q v : Int) : 1 ≤ (varied p q v).length ∧ (varied p q v).length ≤ 2 := by
  unfold varied
  split
  · simp
  · split <;> simp
theorem consL_len (b : Bo) : ∀ i, (consL b i).length ≤ 2 * i
  | 0 => by simp [consL]
  | i + 1 => by
    have := consL_len b i
    have := varied_len (gi b.s.args i) (gi b.t.args i) (byte (gi b.l b.s.sym).args i)
    simp [consL]
    omega
theorem c53_ok : cFn Try.prog an0 Try.f53 = some c53 := by kernel_rfl
theorem f53_PF (b : Bo) (h1 : 0 ≤ b.s.sym ∧ b.s.sym < b.l.length) (h2 : b.s.args.length ≤ b.t.args.length) (h3 : b.s.args.length ≤ (gi b.l b.s.sym).args.size) (h4 : b.s.args.length ≤ 1048576) :
    PF Try.prog 53 [.agg b.cs] (way 1 (consL b b.s.args.length)) := by
  refine PFk 9 hm Try.func53 c53_ok (Nat.le_of_ble_eq_true rfl) (Bo_RL b 0) (way_RL _ _ _) ?_
  simp (maxSteps := 3000000) [-List.length_flatten, -List.map_drop, -List.map_take, Function.comp_def, argsT, Opd.ev, Tm.get, put, ares, mapMo, ares1, snilP, bldParts, bslParts, putAt, AV.cells, AV.one, astore, aload, loadCs, callArgs, abin, abinInt, aapp, elems, appMore, appNone, preLen, aFa, aFld, apart, aExt, aPick, aNot, aLens, aEqa, cellsK, fitsA, LK.fitsA, leavesA, leafA, nilD, aNilc, aCint, aCid, alive, alen, alenOk, Rle, lePs, len_flat, c53]
  intro ha
  refine run_loop (fun m T H => ∃ i g : Nat, m = b.s.args.length - i ∧ i ≤ b.s.args.length ∧ T = [(10, i64 i), (9, i64 b.s.args.length), (8, ints b.s.args), (3, .loc 2 g 0 (consL b i).length 2 false), (2, .ptr 1 0 0), (1, .ptr 0 0 0)] ∧ H = [.cells 0 b.cs, .cells 0 [.int .i64 0, .nilS], .cells g ((consL b i).map fun p => [i64 p.1, i64 p.2]).flatten])
    b.s.args.length [(10, i64 0), (9, i64 b.s.args.length), (8, ints b.s.args), (3, .loc 2 0 0 0 2 false), (2, .ptr 1 0 0), (1, .ptr 0 0 0)] [.cells 0 b.cs, .cells 0 [.int .i64 0, .nilS], .cells 0 []]
    ((Wk.nil 3 2 (by simp [Tm.get])).trans (Wk.tell 3 (by omega) (by simp [Tm.get]) (by simp) rfl (by simp [RLB]))) ⟨0, 0, by simp, by simp, by simp [consL], by simp [consL]⟩ ?_
  rintro m T H ⟨i, g, rfl, hi, rfl, rfl⟩
  have hcl := consL_len b i
  have hv := varied_len (gi b.s.args i) (gi b.t.args i) (byte (gi b.l b.s.sym).args i)
  simp (maxSteps := 3000000) [-List.length_flatten, -List.map_drop, -List.map_take, Function.comp_def, argsT, Opd.ev, Tm.get, put, ares, mapMo, ares1, snilP, bldParts, bslParts, putAt, AV.cells, AV.one, astore, aload, loadCs, callArgs, abin, abinInt, aapp, elems, appMore, appNone, preLen, aFa, aFld, apart, aExt, aPick, aNot, aLens, aEqa, cellsK, fitsA, LK.fitsA, leavesA, leafA, nilD, aNilc, aCint, aCid, alive, alen, alenOk, Rle, lePs, len_flat]
  refine ⟨fun h => ⟨h, by omega, h1, by omega, _, varied_PF _ _ _, ?_⟩, fun h => ?_⟩
  · have hne : varied (gi b.s.args i) (gi b.t.args i) (byte (gi b.l b.s.sym).args i) ≠ [] := fun h => by rw [h] at hv; simp at hv
    simp (maxSteps := 3000000) [-List.length_flatten, -List.map_drop, -List.map_take, Function.comp_def, argsT, Opd.ev, Tm.get, put, ares, mapMo, ares1, snilP, bldParts, bslParts, putAt, AV.cells, AV.one, astore, aload, loadCs, callArgs, abin, abinInt, aapp, elems, appMore, appNone, preLen, aFa, aFld, apart, aExt, aPick, aNot, aLens, aEqa, cellsK, fitsA, LK.fitsA, leavesA, leafA, nilD, aNilc, aCint, aCid, alive, alen, alenOk, Rle, lePs, len_flat, Kc, hne, app_flat]
    intro _ _
    refine ⟨by unfold maxA; omega, ?_⟩
    exact Kl_next (b.s.args.length - (i + 1)) 3 (by omega) ⟨i + 1, rfl, h, g + 1, rfl, rfl⟩ (by simp [Tm.get, nxt h ha, consL]) (by simp) (by simp [consL]) (by simp [RLB, -List.mem_flatten]; exact flat_RL (by simp) _) (by omega)
  · have e : i = b.s.args.length := by omega
    subst e
    refine FT.letgo 2 9 rfl ?_
    simp (maxSteps := 3000000) [-List.length_flatten, -List.map_drop, -List.map_take, Function.comp_def, argsT, Opd.ev, Tm.get, put, ares, mapMo, ares1, snilP, bldParts, bslParts, putAt, AV.cells, AV.one, astore, aload, loadCs, callArgs, abin, abinInt, aapp, elems, appMore, appNone, preLen, aFa, aFld, apart, aExt, aPick, aNot, aLens, aEqa, cellsK, fitsA, LK.fitsA, leavesA, leafA, nilD, aNilc, aCint, aCid, alive, alen, alenOk, Rle, lePs, len_flat, fz]
    refine PF.call (made_PF (consL b b.s.args.length)) 9 (by simp [lePs]) ?_
    simp (maxSteps := 3000000) [-List.length_flatten, -List.map_drop, -List.map_take, Function.comp_def, argsT, Opd.ev, Tm.get, put, ares, mapMo, ares1, snilP, bldParts, bslParts, putAt, AV.cells, AV.one, astore, aload, loadCs, callArgs, abin, abinInt, aapp, elems, appMore, appNone, preLen, aFa, aFld, apart, aExt, aPick, aNot, aLens, aEqa, cellsK, fitsA, LK.fitsA, leavesA, leafA, nilD, aNilc, aCint, aCid, alive, alen, alenOk, Rle, lePs, len_flat, Kc]
def wayFn (b : Bo) : Nat :=
  if b.x = b.y ∨ b.s.kind = 0 ∨ b.t.kind = 1 then 48
  else if b.s.kind = 4 then 49
  else if b.t.kind = 5 then 50
  else if b.s.kind = 2 ∨ b.t.kind = 2 then 51
  else if b.t.kind = 6 then 52
  else if b.s.kind = 3 ∧ b.t.kind = 3 ∧ b.s.sym = b.t.sym then 53
  else if (b.s.kind = 1 ∨ b.s.kind = 3) ∧ (b.t.kind = 0 ∨ b.t.kind = 3) then 54
  else 48
theorem c26_ok : cFn Try.prog an0 Try.f26 = some c26 := by kernel_rfl
theorem f26_PF (b : Bo) : PF Try.prog 26 [.agg b.cs] (.fn (.func (wayFn b)) [.agg b.cs] []) := by
  refine PFk 9 hm Try.func26 c26_ok (Nat.le_of_ble_eq_true rfl) (Bo_RL b 0) (by simp) ?_
  by_cases h0 : b.x = b.y
  · simp (maxSteps := 3000000) [-List.length_flatten, -List.map_drop, -List.map_take, Function.comp_def, argsT, Opd.ev, Tm.get, put, ares, mapMo, ares1, snilP, bldParts, bslParts, putAt, AV.cells, AV.one, astore, aload, loadCs, callArgs, abin, abinInt, aapp, elems, appMore, appNone, preLen, aFa, aFld, apart, aExt, aPick, aNot, aLens, aEqa, cellsK, fitsA, LK.fitsA, leavesA, leafA, nilD, aNilc, aCint, aCid, alive, alen, alenOk, Rle, lePs, len_flat, c26, h0]
    simp [wayFn, h0]
  by_cases h1 : b.s.kind = 0
  · simp (maxSteps := 3000000) [-List.length_flatten, -List.map_drop, -List.map_take, Function.comp_def, argsT, Opd.ev, Tm.get, put, ares, mapMo, ares1, snilP, bldParts, bslParts, putAt, AV.cells, AV.one, astore, aload, loadCs, callArgs, abin, abinInt, aapp, elems, appMore, appNone, preLen, aFa, aFld, apart, aExt, aPick, aNot, aLens, aEqa, cellsK, fitsA, LK.fitsA, leavesA, leafA, nilD, aNilc, aCint, aCid, alive, alen, alenOk, Rle, lePs, len_flat, c26, h0, h1]
    simp [wayFn, h0, h1]
  by_cases h2 : b.t.kind = 1
  · simp (maxSteps := 3000000) [-List.length_flatten, -List.map_drop, -List.map_take, Function.comp_def, argsT, Opd.ev, Tm.get, put, ares, mapMo, ares1, snilP, bldParts, bslParts, putAt, AV.cells, AV.one, astore, aload, loadCs, callArgs, abin, abinInt, aapp, elems, appMore, appNone, preLen, aFa, aFld, apart, aExt, aPick, aNot, aLens, aEqa, cellsK, fitsA, LK.fitsA, leavesA, leafA, nilD, aNilc, aCint, aCid, alive, alen, alenOk, Rle, lePs, len_flat, c26, h0, h1, h2]
    simp [wayFn, h0, h1, h2]
  by_cases h3 : b.s.kind = 4
  · simp (maxSteps := 3000000) [-List.length_flatten, -List.map_drop, -List.map_take, Function.comp_def, argsT, Opd.ev, Tm.get, put, ares, mapMo, ares1, snilP, bldParts, bslParts, putAt, AV.cells, AV.one, astore, aload, loadCs, callArgs, abin, abinInt, aapp, elems, appMore, appNone, preLen, aFa, aFld, apart, aExt, aPick, aNot, aLens, aEqa, cellsK, fitsA, LK.fitsA, leavesA, leafA, nilD, aNilc, aCint, aCid, alive, alen, alenOk, Rle, lePs, len_flat, c26, h0, h1, h2, h3]
    simp [wayFn, h0, h1, h2, h3]
  by_cases h4 : b.t.kind = 5
  · simp (maxSteps := 3000000) [-List.length_flatten, -List.map_drop, -List.map_take, Function.comp_def, argsT, Opd.ev, Tm.get, put, ares, mapMo, ares1, snilP, bldParts, bslParts, putAt, AV.cells, AV.one, astore, aload, loadCs, callArgs, abin, abinInt, aapp, elems, appMore, appNone, preLen, aFa, aFld, apart, aExt, aPick, aNot, aLens, aEqa, cellsK, fitsA, LK.fitsA, leavesA, leafA, nilD, aNilc, aCint, aCid, alive, alen, alenOk, Rle, lePs, len_flat, c26, h0, h1, h2, h3, h4]
    simp [wayFn, h0, h1, h2, h3, h4]
  by_cases h5 : b.s.kind = 2
  · simp (maxSteps := 3000000) [-List.length_flatten, -List.map_drop, -List.map_take, Function.comp_def, argsT, Opd.ev, Tm.get, put, ares, mapMo, ares1, snilP, bldParts, bslParts, putAt, AV.cells, AV.one, astore, aload, loadCs, callArgs, abin, abinInt, aapp, elems, appMore, appNone, preLen, aFa, aFld, apart, aExt, aPick, aNot, aLens, aEqa, cellsK, fitsA, LK.fitsA, leavesA, leafA, nilD, aNilc, aCint, aCid, alive, alen, alenOk, Rle, lePs, len_flat, c26, h0, h1, h2, h3, h4, h5]
    simp [wayFn, h0, h1, h2, h3, h4, h5]
  by_cases h6 : b.t.kind = 2
  · simp (maxSteps := 3000000) [-List.length_flatten, -List.map_drop, -List.map_take, Function.comp_def, argsT, Opd.ev, Tm.get, put, ares, mapMo, ares1, snilP, bldParts, bslParts, putAt, AV.cells, AV.one, astore, aload, loadCs, callArgs, abin, abinInt, aapp, elems, appMore, appNone, preLen, aFa, aFld, apart, aExt, aPick, aNot, aLens, aEqa, cellsK, fitsA, LK.fitsA, leavesA, leafA, nilD, aNilc, aCint, aCid, alive, alen, alenOk, Rle, lePs, len_flat, c26, h0, h1, h2, h3, h4, h5, h6]
    simp [wayFn, h0, h1, h2, h3, h4, h5, h6]
  by_cases h7 : b.t.kind = 6
  · simp (maxSteps := 3000000) [-List.length_flatten, -List.map_drop, -List.map_take, Function.comp_def, argsT, Opd.ev, Tm.get, put, ares, mapMo, ares1, snilP, bldParts, bslParts, putAt, AV.cells, AV.one, astore, aload, loadCs, callArgs, abin, abinInt, aapp, elems, appMore, appNone, preLen, aFa, aFld, apart, aExt, aPick, aNot, aLens, aEqa, cellsK, fitsA, LK.fitsA, leavesA, leafA, nilD, aNilc, aCint, aCid, alive, alen, alenOk, Rle, lePs, len_flat, c26, h0, h1, h2, h3, h4, h5, h6, h7]
    simp [wayFn, h0, h1, h2, h3, h4, h5, h6, h7]
  by_cases h8 : b.s.kind = 3
  · by_cases h9 : b.t.kind = 3
    · by_cases h10 : b.s.sym = b.t.sym
      · simp (maxSteps := 3000000) [-List.length_flatten, -List.map_drop, -List.map_take, Function.comp_def, argsT, Opd.ev, Tm.get, put, ares, mapMo, ares1, snilP, bldParts, bslParts, putAt, AV.cells, AV.one, astore, aload, loadCs, callArgs, abin, abinInt, aapp, elems, appMore, appNone, preLen, aFa, aFld, apart, aExt, aPick, aNot, aLens, aEqa, cellsK, fitsA, LK.fitsA, leavesA, leafA, nilD, aNilc, aCint, aCid, alive, alen, alenOk, Rle, lePs, len_flat, c26, h0, h1, h2, h3, h4, h5, h6, h7, h8, h9, h10]
        simp [wayFn, h0, h1, h2, h3, h4, h5, h6, h7, h8, h9, h10]
      · simp (maxSteps := 3000000) [-List.length_flatten, -List.map_drop, -List.map_take, Function.comp_def, argsT, Opd.ev, Tm.get, put, ares, mapMo, ares1, snilP, bldParts, bslParts, putAt, AV.cells, AV.one, astore, aload, loadCs, callArgs, abin, abinInt, aapp, elems, appMore, appNone, preLen, aFa, aFld, apart, aExt, aPick, aNot, aLens, aEqa, cellsK, fitsA, LK.fitsA, leavesA, leafA, nilD, aNilc, aCint, aCid, alive, alen, alenOk, Rle, lePs, len_flat, c26, h0, h1, h2, h3, h4, h5, h6, h7, h8, h9, h10]
        simp [wayFn, h0, h1, h2, h3, h4, h5, h6, h7, h8, h9, h10]
    · by_cases h10 : b.t.kind = 0
      · simp (maxSteps := 3000000) [-List.length_flatten, -List.map_drop, -List.map_take, Function.comp_def, argsT, Opd.ev, Tm.get, put, ares, mapMo, ares1, snilP, bldParts, bslParts, putAt, AV.cells, AV.one, astore, aload, loadCs, callArgs, abin, abinInt, aapp, elems, appMore, appNone, preLen, aFa, aFld, apart, aExt, aPick, aNot, aLens, aEqa, cellsK, fitsA, LK.fitsA, leavesA, leafA, nilD, aNilc, aCint, aCid, alive, alen, alenOk, Rle, lePs, len_flat, c26, h0, h1, h2, h3, h4, h5, h6, h7, h8, h9, h10]
        simp [wayFn, h0, h1, h2, h3, h4, h5, h6, h7, h8, h9, h10]
      · simp (maxSteps := 3000000) [-List.length_flatten, -List.map_drop, -List.map_take, Function.comp_def, argsT, Opd.ev, Tm.get, put, ares, mapMo, ares1, snilP, bldParts, bslParts, putAt, AV.cells, AV.one, astore, aload, loadCs, callArgs, abin, abinInt, aapp, elems, appMore, appNone, preLen, aFa, aFld, apart, aExt, aPick, aNot, aLens, aEqa, cellsK, fitsA, LK.fitsA, leavesA, leafA, nilD, aNilc, aCint, aCid, alive, alen, alenOk, Rle, lePs, len_flat, c26, h0, h1, h2, h3, h4, h5, h6, h7, h8, h9, h10]
        simp [wayFn, h0, h1, h2, h3, h4, h5, h6, h7, h8, h9, h10]
  · by_cases h9 : b.s.kind = 1
    · by_cases h10 : b.t.kind = 0
      · simp (maxSteps := 3000000) [-List.length_flatten, -List.map_drop, -List.map_take, Function.comp_def, argsT, Opd.ev, Tm.get, put, ares, mapMo, ares1, snilP, bldParts, bslParts, putAt, AV.cells, AV.one, astore, aload, loadCs, callArgs, abin, abinInt, aapp, elems, appMore, appNone, preLen, aFa, aFld, apart, aExt, aPick, aNot, aLens, aEqa, cellsK, fitsA, LK.fitsA, leavesA, leafA, nilD, aNilc, aCint, aCid, alive, alen, alenOk, Rle, lePs, len_flat, c26, h0, h1, h2, h3, h4, h5, h6, h7, h8, h9, h10]
        simp [wayFn, h0, h1, h2, h3, h4, h5, h6, h7, h8, h9, h10]
      · by_cases h11 : b.t.kind = 3
        · simp (maxSteps := 3000000) [-List.length_flatten, -List.map_drop, -List.map_take, Function.comp_def, argsT, Opd.ev, Tm.get, put, ares, mapMo, ares1, snilP, bldParts, bslParts, putAt, AV.cells, AV.one, astore, aload, loadCs, callArgs, abin, abinInt, aapp, elems, appMore, appNone, preLen, aFa, aFld, apart, aExt, aPick, aNot, aLens, aEqa, cellsK, fitsA, LK.fitsA, leavesA, leafA, nilD, aNilc, aCint, aCid, alive, alen, alenOk, Rle, lePs, len_flat, c26, h0, h1, h2, h3, h4, h5, h6, h7, h8, h9, h10, h11]
          simp [wayFn, h0, h1, h2, h3, h4, h5, h6, h7, h8, h9, h10, h11]
        · simp (maxSteps := 3000000) [-List.length_flatten, -List.map_drop, -List.map_take, Function.comp_def, argsT, Opd.ev, Tm.get, put, ares, mapMo, ares1, snilP, bldParts, bslParts, putAt, AV.cells, AV.one, astore, aload, loadCs, callArgs, abin, abinInt, aapp, elems, appMore, appNone, preLen, aFa, aFld, apart, aExt, aPick, aNot, aLens, aEqa, cellsK, fitsA, LK.fitsA, leavesA, leafA, nilD, aNilc, aCint, aCid, alive, alen, alenOk, Rle, lePs, len_flat, c26, h0, h1, h2, h3, h4, h5, h6, h7, h8, h9, h10, h11]
          simp [wayFn, h0, h1, h2, h3, h4, h5, h6, h7, h8, h9, h10, h11]
    · simp (maxSteps := 3000000) [-List.length_flatten, -List.map_drop, -List.map_take, Function.comp_def, argsT, Opd.ev, Tm.get, put, ares, mapMo, ares1, snilP, bldParts, bslParts, putAt, AV.cells, AV.one, astore, aload, loadCs, callArgs, abin, abinInt, aapp, elems, appMore, appNone, preLen, aFa, aFld, apart, aExt, aPick, aNot, aLens, aEqa, cellsK, fitsA, LK.fitsA, leavesA, leafA, nilD, aNilc, aCint, aCid, alive, alen, alenOk, Rle, lePs, len_flat, c26, h0, h1, h2, h3, h4, h5, h6, h7, h8, h9]
      simp [wayFn, h0, h1, h2, h3, h4, h5, h6, h7, h8, h9]
end Go.AM

namespace Go.AM
open Go.Proofs
set_option maxRecDepth 100000
set_option linter.unusedVariables false
set_option linter.unusedSimpArgs false
/-- What is known of a term of a right store. -/
structure TermFit (l : List Sg) (n : Int) (t : Tm0) : Prop where
  parts : ∀ i : Nat, i < t.args.length → 0 ≤ gi t.args i ∧ gi t.args i < n
  kind : 0 ≤ t.kind ∧ t.kind ≤ 6
  flat : t.kind ≤ 2 → t.args.length = 0
  con : t.kind = 3 → (0 ≤ t.sym ∧ t.sym < l.length) ∧ t.args.length = (gi l t.sym).args.size
  two : t.kind = 4 ∨ t.kind = 5 → t.args.length = 2
  proj : t.kind = 6 → (0 ≤ t.sym ∧ t.sym < l.length) ∧ (0 ≤ t.part ∧ t.part < (gi l t.sym).args.size) ∧ t.args.length = 1
theorem mayBe_fit {l : List Sg} {n : Int} {t : Tm0} (h : mayBe l n t = true) : TermFit l n t := by
  unfold mayBe at h
  simp only [Bool.and_eq_true, decide_eq_true_eq] at h
  obtain ⟨h1, h2⟩ := h
  split at h2
  · simp at h2
    refine ⟨h1, by omega, fun _ => by simp [h2], fun h => by omega, fun h => by omega, fun h => by omega⟩
  split at h2
  · simp at h2
    refine ⟨h1, by omega, fun _ => by simp [h2], fun h => by omega, fun h => by omega, fun h => by omega⟩
  split at h2
  · simp at h2
    refine ⟨h1, by omega, fun _ => by omega, fun h => ⟨h2.1, h2.2.2⟩, fun h => by omega, fun h => by omega⟩
  split at h2
  · simp at h2
    refine ⟨h1, by omega, fun _ => by omega, fun h => by omega, fun h => h2.2.2, fun h => by omega⟩
  split at h2
  · simp only [decide_eq_true_eq] at h2
    refine ⟨h1, by omega, fun _ => by omega, fun h => by omega, fun h => by omega, fun h => ⟨h2.1, ⟨h2.2.1, h2.2.2.1⟩, h2.2.2.2⟩⟩
  · cases h2
structure Fine (l : List Sg) (a : Kd) : Prop where
  many : a.keys.length ≤ 2000
  ok : ∀ i : Nat, i < a.keys.length → (termAt a i).2 = true ∧ TermFit l i (termAt a i).1
  short : ∀ i : Int, (gi l i).args.size ≤ 8
  two : 2 ≤ a.keys.length
  zero : (termAt a 0).1.kind = 0
  one : (termAt a 1).1.kind = 1
theorem termAt_range {a : Kd} {x : Int} (h : (termAt a x).2 = true) : 0 ≤ x ∧ x < a.keys.length := by
  unfold termAt at h
  split at h
  · cases h
  · omega
theorem Fine.fit {l : List Sg} {a : Kd} (hF : Fine l a) {x : Int} (h : 0 ≤ x ∧ x < a.keys.length) : (termAt a x).2 = true ∧ TermFit l x (termAt a x).1 := by
  have := hF.ok x.toNat (by omega)
  rw [Int.toNat_of_nonneg h.1] at this
  exact this
theorem Fine.is {l : List Sg} {a : Kd} (hF : Fine l a) {x : Int} : (termAt a x).2 = true ↔ (0 ≤ x ∧ x < a.keys.length) := ⟨termAt_range, fun h => (hF.fit h).1⟩
theorem TermFit.args {l : List Sg} {n : Int} {t : Tm0} (h : TermFit l n t) (hs : ∀ i : Int, (gi l i).args.size ≤ 8) : t.args.length ≤ 8 := by
  have hk := h.kind
  rcases (show t.kind ≤ 2 ∨ t.kind = 3 ∨ (t.kind = 4 ∨ t.kind = 5) ∨ t.kind = 6 by omega) with k | k | k | k
  · have := h.flat k; omega
  · have := h.con k; have := hs t.sym; omega
  · have := h.two k; omega
  · have := h.proj k; omega
theorem ofOk_fine {l : List Sg} {a : Kd} (h : ofOk l a = true) : Fine l a := by
  simp only [ofOk, Bool.and_eq_true, decide_eq_true_eq, sigRight, few, storeRight] at h
  obtain ⟨h1, ⟨h2, _⟩, h3, ⟨h4, h5⟩, h6⟩ := h
  have hp : ∀ (ks : List (List Int)) (n : Nat), n + ks.length ≤ psum n ks := by
    intro ks
    induction ks with
    | nil => intro n; simp [psum]
    | cons k ks ih =>
      intro n
      have := ih (n + 1 + k.length)
      have e : psum n (k :: ks) = psum (n + 1 + k.length) ks := rfl
      rw [e, List.length_cons]
      omega
  have := hp a.keys a.slots.length
  refine ⟨by omega, fun i hi => ⟨(h6 i hi).1, mayBe_fit (h6 i hi).2.1⟩, fun i => ?_, h5, (h6 0 (by omega)).2.2 (by omega), (h6 1 (by omega)).2.2 (by omega)⟩
  by_cases hi : i.toNat < l.length
  · have := (h2 i.toNat hi)
    have e : gi l (i.toNat : Int) = gi l i := rfl
    unfold sigOk argsOk at this
    rw [e] at this
    simp at this
    omega
  · have e : gi l i = default := by unfold gi; simp [List.getD, Nat.le_of_not_lt hi]
    rw [e]
    exact Nat.le_of_ble_eq_true rfl
def stepWay (b : Bo) : Int × List (Int × Int) :=
  if b.x = b.y ∨ b.s.kind = 0 ∨ b.t.kind = 1 then (0, [])
  else if b.s.kind = 4 then (1, [(gi b.s.args 0, b.y), (gi b.s.args 1, b.y)])
  else if b.t.kind = 5 then (1, [(b.x, gi b.t.args 0), (b.x, gi b.t.args 1)])
  else if b.s.kind = 2 ∨ b.t.kind = 2 then (2, [])
  else if b.t.kind = 6 then takesWay b
  else if b.s.kind = 3 ∧ b.t.kind = 3 ∧ b.s.sym = b.t.sym then (1, consL b b.s.args.length)
  else if (b.s.kind = 1 ∨ b.s.kind = 3) ∧ (b.t.kind = 0 ∨ b.t.kind = 3) then (3, [])
  else (0, [])
theorem way_run (b : Bo) {n m : Int} (hs : TermFit b.l n b.s) (ht : TermFit b.l m b.t) (h8 : ∀ i : Int, (gi b.l i).args.size ≤ 8) : PF Try.prog (wayFn b) [.agg b.cs] (way (stepWay b).1 (stepWay b).2) := by
  unfold wayFn stepWay
  split
  · exact f48_PF b
  split
  · rename_i h
    have := hs.two (.inl h)
    exact f49_PF b (by omega)
  split
  · rename_i h
    have := ht.two (.inr h)
    exact f50_PF b (by omega)
  split
  · exact f51_PF b
  split
  · rename_i h
    obtain ⟨q1, q2, q3⟩ := ht.proj h
    refine f52_PF b q1 q2 (by omega) (fun h1 h2 => ?_)
    have := (hs.con h1).2
    rw [h2] at this
    omega
  split
  · rename_i h
    obtain ⟨h1, h2, h3⟩ := h
    have q1 := hs.con h1
    have q2 := ht.con h2
    have := hs.args h8
    exact f53_PF b q1.1 (by rw [q1.2, q2.2, h3]; exact Nat.le_refl _) (by omega) (by omega)
  split
  · exact f54_PF b
  · exact f48_PF b
def stepOf (l : List Sg) (a : Kd) (x y : Int) : Int × List (Int × Int) :=
  if (termAt a x).2 = true ∧ (termAt a y).2 = true then stepWay ⟨l, x, y, (termAt a x).1, (termAt a y).1⟩ else (0, [])
theorem c11_ok : cFn Try.prog an0 Try.f11 = some c11 := by kernel_rfl
theorem step_PF {l : List Sg} {a : Kd} (hF : Fine l a) (x y : Int) : PF Try.prog 11 [sigs l, .agg a.cs, i64 x, i64 y] (way (stepOf l a x y).1 (stepOf l a x y).2) := by
  refine PFk 9 hm Try.func11 c11_ok (Nat.le_of_ble_eq_true rfl) (by simp) (way_RL _ _ _) ?_
  simp (maxSteps := 3000000) [-List.length_flatten, -List.map_drop, -List.map_take, Function.comp_def, argsT, Opd.ev, Tm.get, put, ares, mapMo, ares1, snilP, bldParts, bslParts, putAt, AV.cells, AV.one, astore, aload, loadCs, callArgs, abin, abinInt, aapp, elems, appMore, appNone, preLen, aFa, aFld, apart, aExt, aPick, aNot, aLens, aEqa, cellsK, fitsA, LK.fitsA, leavesA, leafA, nilD, aNilc, aCint, aCid, alive, alen, alenOk, Rle, lePs, len_flat, c11]
  refine PF.call (of_PF l a x y) 9 (by simp [lePs]) ?_
  by_cases h1 : (termAt a x).2 = true
  · by_cases h2 : (termAt a y).2 = true
    · simp (maxSteps := 3000000) [-List.length_flatten, -List.map_drop, -List.map_take, Function.comp_def, argsT, Opd.ev, Tm.get, put, ares, mapMo, ares1, snilP, bldParts, bslParts, putAt, AV.cells, AV.one, astore, aload, loadCs, callArgs, abin, abinInt, aapp, elems, appMore, appNone, preLen, aFa, aFld, apart, aExt, aPick, aNot, aLens, aEqa, cellsK, fitsA, LK.fitsA, leavesA, leafA, nilD, aNilc, aCint, aCid, alive, alen, alenOk, Rle, lePs, len_flat, Kc, h1, h2]
      refine PF.call (f26_PF ⟨l, x, y, (termAt a x).1, (termAt a y).1⟩) 9 (by simp [lePs]) ?_
      simp (maxSteps := 3000000) [-List.length_flatten, -List.map_drop, -List.map_take, Function.comp_def, argsT, Opd.ev, Tm.get, put, ares, mapMo, ares1, snilP, bldParts, bslParts, putAt, AV.cells, AV.one, astore, aload, loadCs, callArgs, abin, abinInt, aapp, elems, appMore, appNone, preLen, aFa, aFld, apart, aExt, aPick, aNot, aLens, aEqa, cellsK, fitsA, LK.fitsA, leavesA, leafA, nilD, aNilc, aCint, aCid, alive, alen, alenOk, Rle, lePs, len_flat, Kc]
      refine PF.call (way_run ⟨l, x, y, (termAt a x).1, (termAt a y).1⟩ (hF.fit (termAt_range h1)).2 (hF.fit (termAt_range h2)).2 hF.short) 9 (by simp [lePs]) ?_
      simp (maxSteps := 3000000) [-List.length_flatten, -List.map_drop, -List.map_take, Function.comp_def, argsT, Opd.ev, Tm.get, put, ares, mapMo, ares1, snilP, bldParts, bslParts, putAt, AV.cells, AV.one, astore, aload, loadCs, callArgs, abin, abinInt, aapp, elems, appMore, appNone, preLen, aFa, aFld, apart, aExt, aPick, aNot, aLens, aEqa, cellsK, fitsA, LK.fitsA, leavesA, leafA, nilD, aNilc, aCint, aCid, alive, alen, alenOk, Rle, lePs, len_flat, Kc]
      simp [stepOf, h1, h2]
    · simp (maxSteps := 3000000) [-List.length_flatten, -List.map_drop, -List.map_take, Function.comp_def, argsT, Opd.ev, Tm.get, put, ares, mapMo, ares1, snilP, bldParts, bslParts, putAt, AV.cells, AV.one, astore, aload, loadCs, callArgs, abin, abinInt, aapp, elems, appMore, appNone, preLen, aFa, aFld, apart, aExt, aPick, aNot, aLens, aEqa, cellsK, fitsA, LK.fitsA, leavesA, leafA, nilD, aNilc, aCint, aCid, alive, alen, alenOk, Rle, lePs, len_flat, Kc, h1, h2]
      simp [stepOf, h1, h2]
  · simp (maxSteps := 3000000) [-List.length_flatten, -List.map_drop, -List.map_take, Function.comp_def, argsT, Opd.ev, Tm.get, put, ares, mapMo, ares1, snilP, bldParts, bslParts, putAt, AV.cells, AV.one, astore, aload, loadCs, callArgs, abin, abinInt, aapp, elems, appMore, appNone, preLen, aFa, aFld, apart, aExt, aPick, aNot, aLens, aEqa, cellsK, fitsA, LK.fitsA, leavesA, leafA, nilD, aNilc, aCint, aCid, alive, alen, alenOk, Rle, lePs, len_flat, Kc, h1]
    simp [stepOf, h1]

def sideN (l : List Sg) (t : Tm0) (side : Int) (i : Int) : Int :=
  if t.kind = 6 then turned side (byte (gi l t.sym).args t.part) else if t.kind = 3 then turned side (byte (gi l t.sym).args i) else side
def sidesL (l : List Sg) (t : Tm0) (side : Int) (n : Nat) : List Int := (List.range n).map fun i : Nat => sideN l t side i
def sideMay (t : Tm0) (side : Int) : Bool := if t.kind = 4 then decide (side = 76) else if t.kind = 5 ∨ t.kind = 6 then decide (side = 82) else true
def bstr (l : List Int) : ByteArray := ⟨(l.map fun n => UInt8.ofNat n.toNat).toArray⟩
theorem bytesA_map (l : List Int) : bytesA (l.map fun n => [.int .u8 n]) = some (l.map fun n => UInt8.ofNat n.toNat) := by
  induction l with
  | nil => rfl
  | cons n l ih => simp [bytesA, ih]
theorem sidesL_succ (l : List Sg) (t : Tm0) (side : Int) (n : Nat) : sidesL l t side (n + 1) = sidesL l t side n ++ [sideN l t side n] := by simp [sidesL, List.range_succ]
theorem sidesL_len (l : List Sg) (t : Tm0) (side : Int) (n : Nat) : (sidesL l t side n).length = n := by simp [sidesL]
theorem c28_ok : cFn Try.prog an0 Try.f28 = some c28 := by kernel_rfl
theorem sides_PF {l : List Sg} {n : Int} {t : Tm0} (side : Int) (hF : TermFit l n t) (h8 : ∀ i : Int, (gi l i).args.size ≤ 8) :
    PF Try.prog 28 [sigs l, .agg t.cs, .int .u8 side] (.tuple [.str (bstr (sidesL l t side t.args.length)), .bool (sideMay t side)]) := by
  refine PFk 9 hm Try.func28 c28_ok (Nat.le_of_ble_eq_true rfl) (by simp) (by simp) ?_
  by_cases h4 : t.kind = 4
  · have e2 := hF.two (.inl h4)
    simp (maxSteps := 3000000) [-List.length_flatten, -List.map_drop, -List.map_take, Function.comp_def, argsT, Opd.ev, Tm.get, put, ares, mapMo, ares1, snilP, bldParts, bslParts, putAt, AV.cells, AV.one, astore, aload, loadCs, callArgs, abin, abinInt, aapp, elems, appMore, appNone, preLen, aFa, aFld, apart, aExt, aPick, aNot, aLens, aEqa, cellsK, fitsA, LK.fitsA, leavesA, leafA, nilD, aNilc, aCint, aCid, alive, alen, alenOk, Rle, lePs, len_flat, c28, h4, aB2s, bytesA]
    simp [sideMay, h4, e2, sidesL, bstr, sideN, List.range_succ]
  by_cases h5 : t.kind = 5
  · have e2 := hF.two (.inr h5)
    simp (maxSteps := 3000000) [-List.length_flatten, -List.map_drop, -List.map_take, Function.comp_def, argsT, Opd.ev, Tm.get, put, ares, mapMo, ares1, snilP, bldParts, bslParts, putAt, AV.cells, AV.one, astore, aload, loadCs, callArgs, abin, abinInt, aapp, elems, appMore, appNone, preLen, aFa, aFld, apart, aExt, aPick, aNot, aLens, aEqa, cellsK, fitsA, LK.fitsA, leavesA, leafA, nilD, aNilc, aCint, aCid, alive, alen, alenOk, Rle, lePs, len_flat, c28, h5, aB2s, bytesA]
    simp [sideMay, h5, e2, sidesL, bstr, sideN, List.range_succ]
  by_cases h6 : t.kind = 6
  · obtain ⟨q1, q2, q3⟩ := hF.proj h6
    simp (maxSteps := 3000000) [-List.length_flatten, -List.map_drop, -List.map_take, Function.comp_def, argsT, Opd.ev, Tm.get, put, ares, mapMo, ares1, snilP, bldParts, bslParts, putAt, AV.cells, AV.one, astore, aload, loadCs, callArgs, abin, abinInt, aapp, elems, appMore, appNone, preLen, aFa, aFld, apart, aExt, aPick, aNot, aLens, aEqa, cellsK, fitsA, LK.fitsA, leavesA, leafA, nilD, aNilc, aCint, aCid, alive, alen, alenOk, Rle, lePs, len_flat, c28, h6, q1, q2]
    refine ⟨_, turned_PF side (byte (gi l t.sym).args t.part), ?_⟩
    simp (maxSteps := 3000000) [-List.length_flatten, -List.map_drop, -List.map_take, Function.comp_def, argsT, Opd.ev, Tm.get, put, ares, mapMo, ares1, snilP, bldParts, bslParts, putAt, AV.cells, AV.one, astore, aload, loadCs, callArgs, abin, abinInt, aapp, elems, appMore, appNone, preLen, aFa, aFld, apart, aExt, aPick, aNot, aLens, aEqa, cellsK, fitsA, LK.fitsA, leavesA, leafA, nilD, aNilc, aCint, aCid, alive, alen, alenOk, Rle, lePs, len_flat, Kc, aB2s, bytesA]
    simp [sideMay, h6, q3, sidesL, bstr, sideN, List.range_succ]
  by_cases h3 : t.kind = 3
  · obtain ⟨q1, q2⟩ := hF.con h3
    have q8 := hF.args h8
    simp (maxSteps := 3000000) [-List.length_flatten, -List.map_drop, -List.map_take, Function.comp_def, argsT, Opd.ev, Tm.get, put, ares, mapMo, ares1, snilP, bldParts, bslParts, putAt, AV.cells, AV.one, astore, aload, loadCs, callArgs, abin, abinInt, aapp, elems, appMore, appNone, preLen, aFa, aFld, apart, aExt, aPick, aNot, aLens, aEqa, cellsK, fitsA, LK.fitsA, leavesA, leafA, nilD, aNilc, aCint, aCid, alive, alen, alenOk, Rle, lePs, len_flat, c28, h3]
    intro ha
    refine run_loop (fun m T H => ∃ i g : Nat, m = t.args.length - i ∧ i ≤ t.args.length ∧ T = [(50, i64 i), (49, i64 t.args.length), (8, .loc 1 g 0 i 1 false), (4, .ptr 0 0 0), (2, .int .u8 side), (0, sigs l)] ∧ H = [.cells 0 t.cs, .cells g ((sidesL l t side i).map fun n => .int .u8 n)])
      t.args.length [(50, i64 0), (49, i64 t.args.length), (8, .loc 1 0 0 0 1 false), (4, .ptr 0 0 0), (2, .int .u8 side), (0, sigs l)] [.cells 0 t.cs, .cells 0 []]
      ((Wk.nil 8 1 (by simp [Tm.get])).trans (Wk.tell 2 (by omega) (by simp [Tm.get]) (by simp) rfl (by simp [RLB]))) ⟨0, 0, by simp, by simp, by simp, by simp [sidesL]⟩ ?_
    rintro m T H ⟨i, g, rfl, hi, rfl, rfl⟩
    have hl := sidesL_len l t side i
    simp (maxSteps := 3000000) [-List.length_flatten, -List.map_drop, -List.map_take, Function.comp_def, argsT, Opd.ev, Tm.get, put, ares, mapMo, ares1, snilP, bldParts, bslParts, putAt, AV.cells, AV.one, astore, aload, loadCs, callArgs, abin, abinInt, aapp, elems, appMore, appNone, preLen, aFa, aFld, apart, aExt, aPick, aNot, aLens, aEqa, cellsK, fitsA, LK.fitsA, leavesA, leafA, nilD, aNilc, aCint, aCid, alive, alen, alenOk, Rle, lePs, len_flat]
    refine ⟨fun h => ⟨q1, by omega, ?_⟩, fun h => ?_⟩
    · refine PF.call (turned_PF side (byte (gi l t.sym).args i)) 9 (by simp [lePs]) ?_
      simp (maxSteps := 3000000) [-List.length_flatten, -List.map_drop, -List.map_take, Function.comp_def, argsT, Opd.ev, Tm.get, put, ares, mapMo, ares1, snilP, bldParts, bslParts, putAt, AV.cells, AV.one, astore, aload, loadCs, callArgs, abin, abinInt, aapp, elems, appMore, appNone, preLen, aFa, aFld, apart, aExt, aPick, aNot, aLens, aEqa, cellsK, fitsA, LK.fitsA, leavesA, leafA, nilD, aNilc, aCint, aCid, alive, alen, alenOk, Rle, lePs, len_flat, Kc, AV.one, List.take_of_length_le (show ((sidesL l t side i).map fun n => AV.int .u8 n).length ≤ i * 1 by simp [hl])]
      intro _ _
      refine ⟨⟨by omega, by unfold maxA; omega⟩, ?_⟩
      have e : sideN l t side i = turned side (byte (gi l t.sym).args i) := by simp [sideN, h3]
      exact Kl_next (t.args.length - (i + 1)) 2 (by omega) ⟨i + 1, rfl, h, g + 1, rfl, rfl⟩ (by simp [Tm.get, nxt h ha]) (by simp) (by simp [sidesL_succ, e, hl]; exact List.take_of_length_le (by simp [hl])) (by simp [RLB]) (by omega)
    · have e : i = t.args.length := by omega
      have hc := chunk_one (f := fun n : Int => AV.int .u8 n) (l := sidesL l t side i)
      rw [hl] at hc
      simp (maxSteps := 3000000) [-List.length_flatten, -List.map_drop, -List.map_take, Function.comp_def, argsT, Opd.ev, Tm.get, put, ares, mapMo, ares1, snilP, bldParts, bslParts, putAt, AV.cells, AV.one, astore, aload, loadCs, callArgs, abin, abinInt, aapp, elems, appMore, appNone, preLen, aFa, aFld, apart, aExt, aPick, aNot, aLens, aEqa, cellsK, fitsA, LK.fitsA, leavesA, leafA, nilD, aNilc, aCint, aCid, alive, alen, alenOk, Rle, lePs, len_flat, aB2s, hc, bytesA_map, hl]
      simp [sideMay, h4, h5, h6, bstr, e]
  · have e0 := hF.flat (by have := hF.kind; omega)
    simp (maxSteps := 3000000) [-List.length_flatten, -List.map_drop, -List.map_take, Function.comp_def, argsT, Opd.ev, Tm.get, put, ares, mapMo, ares1, snilP, bldParts, bslParts, putAt, AV.cells, AV.one, astore, aload, loadCs, callArgs, abin, abinInt, aapp, elems, appMore, appNone, preLen, aFa, aFld, apart, aExt, aPick, aNot, aLens, aEqa, cellsK, fitsA, LK.fitsA, leavesA, leafA, nilD, aNilc, aCint, aCid, alive, alen, alenOk, Rle, lePs, len_flat, c28, h3, h4, h5, h6]
    simp [sideMay, h4, h5, h6, e0, sidesL, bstr]
end Go.AM

namespace Go.AM
open Go.Proofs
set_option maxRecDepth 100000
set_option linter.unusedVariables false
set_option linter.unusedSimpArgs false
/-! ### Sided -/
def okN (l : List Sg) (a : Kd) : Nat → Int → Int → Bool
  | 0, _, _ => true
  | n + 1, id, s => sideMay (termAt a id).1 s && decide (∀ i : Nat, i < (termAt a id).1.args.length → okN l a n (gi (termAt a id).1.args i) (sideN l (termAt a id).1 s i) = true)
def okAt (l : List Sg) (a : Kd) (id s : Int) : Bool := okN l a (id.toNat + 1) id s
theorem okN_fuel {l : List Sg} {a : Kd} (hF : Fine l a) : ∀ (k : Nat) (id s : Int), 0 ≤ id → id < a.keys.length → id.toNat < k → okN l a k id s = okAt l a id s
  | 0, id, s, _, _, h => by omega
  | k + 1, id, s, h0, h1, h => by
    unfold okAt
    simp only [okN]
    have hfit := (hF.fit ⟨h0, h1⟩).2
    congr 1
    refine decide_eq_decide.2 (forall_congr' fun i => forall_congr' fun hi => ?_)
    have hp := hfit.parts i hi
    have e1 := okN_fuel hF k _ (sideN l (termAt a id).1 s i) hp.1 (by omega) (by omega)
    by_cases hk : id.toNat < k
    · have e2 := okN_fuel hF id.toNat _ (sideN l (termAt a id).1 s i) hp.1 (by omega) (by omega)
      rw [e1, e2]
    · have : k = id.toNat := by omega
      subst this
      rfl
theorem okAt_step {l : List Sg} {a : Kd} (hF : Fine l a) {id s : Int} (h : 0 ≤ id ∧ id < a.keys.length) :
    okAt l a id s = true ↔ sideMay (termAt a id).1 s = true ∧ ∀ i : Nat, i < (termAt a id).1.args.length → okAt l a (gi (termAt a id).1.args i) (sideN l (termAt a id).1 s i) = true := by
  have hfit := (hF.fit h).2
  conv => lhs; unfold okAt; simp only [okN, Bool.and_eq_true, decide_eq_true_eq]
  refine and_congr_right fun _ => forall_congr' fun i => forall_congr' fun hi => ?_
  have hp := hfit.parts i hi
  rw [okN_fuel hF id.toNat _ _ hp.1 (by omega) (by omega)]
def isSide (s : Int) : Prop := s = 76 ∨ s = 82 ∨ s = 66
theorem turned_side {s : Int} (h : isSide s) (v : Int) : isSide (turned s v) := by
  unfold turned isSide at *
  split
  · exact h
  · split
    · simp
    · split <;> simp
theorem sideN_side {l : List Sg} {t : Tm0} {s : Int} (h : isSide s) (i : Int) : isSide (sideN l t s i) := by
  unfold sideN
  split
  · exact turned_side h _
  · split
    · exact turned_side h _
    · exact h
/-- A want's parts. -/
def kids (l : List Sg) (a : Kd) (q : Int × Int) (n : Nat) : List (Int × Int) := (List.range n).map fun i : Nat => (gi (termAt a q.1).1.args i, sideN l (termAt a q.1).1 q.2 i)
theorem kids_len {l : List Sg} {a : Kd} {q : Int × Int} {n : Nat} : (kids l a q n).length = n := by simp [kids]
theorem kids_succ {l : List Sg} {a : Kd} {q : Int × Int} {n : Nat} : kids l a q (n + 1) = kids l a q n ++ [(gi (termAt a q.1).1.args n, sideN l (termAt a q.1).1 q.2 n)] := by simp [kids, List.range_succ]
def wants (n : Nat) : List (Int × Int) := (List.range n).flatMap fun i : Nat => [((i : Int), 76), ((i : Int), 82), ((i : Int), 66)]
theorem mem_wants {n : Nat} {q : Int × Int} (h : 0 ≤ q.1 ∧ q.1 < n) (hs : isSide q.2) : q ∈ wants n := by
  unfold wants
  refine List.mem_flatMap.2 ⟨q.1.toNat, List.mem_range.2 (by omega), ?_⟩
  obtain ⟨x, s⟩ := q
  simp at *
  rcases hs with rfl | rfl | rfl <;> simp <;> omega
def unseen (n : Nat) (S : List (Int × Int)) : Nat := (wants n).countP fun q => decide (q ∉ S)
theorem unseen_add {n : Nat} {S : List (Int × Int)} {q : Int × Int} (h : 0 ≤ q.1 ∧ q.1 < n) (hs : isSide q.2) (hq : q ∉ S) : unseen n (S ++ [q]) + 1 ≤ unseen n S := by
  refine count_less (fun x hx => ?_) (a := q) (by simpa using hq) (by simp) (mem_wants h hs)
  simp at hx ⊢
  exact hx.1
theorem wants_len (n : Nat) : (wants n).length = 3 * n := by
  unfold wants
  rw [List.length_flatMap]
  simp [List.map_const', Nat.mul_comm]
def measW (n : Nat) (S L : List (Int × Int)) : Nat := unseen n S * 9 + L.length
structure InvW (l : List Sg) (a : Kd) (q0 : Int × Int) (S L : List (Int × Int)) : Prop where
  good : ∀ q ∈ S ++ L, (0 ≤ q.1 ∧ q.1 < a.keys.length) ∧ isSide q.2
  ok : okAt l a q0.1 q0.2 = true → ∀ q ∈ S ++ L, okAt l a q.1 q.2 = true
  done : ∀ q ∈ S, sideMay (termAt a q.1).1 q.2 = true ∧ ∀ p ∈ kids l a q (termAt a q.1).1.args.length, p ∈ S ++ L
  start : q0 ∈ S ++ L
  few : measW a.keys.length S L ≤ 27 * a.keys.length + 1
theorem InvW.begin {l : List Sg} {a : Kd} {q : Int × Int} (h : 0 ≤ q.1 ∧ q.1 < a.keys.length) (hs : isSide q.2) : InvW l a q [] [q] := by
  refine ⟨?_, ?_, by simp, by simp, ?_⟩
  · intro p hp
    simp at hp
    subst hp
    exact ⟨h, hs⟩
  · intro hq p hp
    simp at hp
    subst hp
    exact hq
  · have : unseen a.keys.length [] ≤ (wants a.keys.length).length := List.countP_le_length
    rw [wants_len] at this
    simp only [measW, List.length_singleton]
    omega
theorem InvW.skip {l : List Sg} {a : Kd} {q0 q : Int × Int} {S L : List (Int × Int)} (h : InvW l a q0 S (q :: L)) (hq : q ∈ S) : InvW l a q0 S L ∧ measW a.keys.length S L < measW a.keys.length S (q :: L) := by
  have sub : ∀ p, p ∈ S ++ (q :: L) → p ∈ S ++ L := by
    intro p hp
    simp at hp ⊢
    rcases hp with hp | rfl | hp
    · exact .inl hp
    · exact .inl hq
    · exact .inr hp
  have sup : ∀ p, p ∈ S ++ L → p ∈ S ++ (q :: L) := by
    intro p hp
    simp at hp ⊢
    rcases hp with hp | hp
    · exact .inl hp
    · exact .inr (.inr hp)
  have hm : measW a.keys.length S L < measW a.keys.length S (q :: L) := by simp [measW]
  refine ⟨⟨fun p hp => h.good p (sup p hp), fun h0 p hp => h.ok h0 p (sup p hp), fun p hp => ⟨(h.done p hp).1, fun r hr => sub r ((h.done p hp).2 r hr)⟩, sub _ h.start, ?_⟩, hm⟩
  have := h.few
  omega
theorem InvW.next {l : List Sg} {a : Kd} (hF : Fine l a) {q0 q : Int × Int} {S L : List (Int × Int)} (h : InvW l a q0 S (q :: L)) (hq : q ∉ S) (hm : sideMay (termAt a q.1).1 q.2 = true) :
    InvW l a q0 (S ++ [q]) (L ++ kids l a q (termAt a q.1).1.args.length) ∧ measW a.keys.length (S ++ [q]) (L ++ kids l a q (termAt a q.1).1.args.length) < measW a.keys.length S (q :: L) := by
  have hg := h.good q (by simp)
  have hfit := (hF.fit hg.1).2
  have h8 := hfit.args hF.short
  have hu := unseen_add hg.1 hg.2 hq
  have hmm : measW a.keys.length (S ++ [q]) (L ++ kids l a q (termAt a q.1).1.args.length) < measW a.keys.length S (q :: L) := by
    simp only [measW, List.length_append, kids_len, List.length_cons]
    clear hg hm hfit h
    generalize (termAt a q.1).1.args.length = k at *
    generalize unseen a.keys.length (S ++ [q]) = u at *
    generalize unseen a.keys.length S = v at *
    omega
  have kid : ∀ p ∈ kids l a q (termAt a q.1).1.args.length, ∃ i : Nat, i < (termAt a q.1).1.args.length ∧ p = (gi (termAt a q.1).1.args i, sideN l (termAt a q.1).1 q.2 i) := by
    intro p hp
    simp only [kids, List.mem_map, List.mem_range] at hp
    obtain ⟨i, hi, rfl⟩ := hp
    exact ⟨i, hi, rfl⟩
  have memo : ∀ p, p ∈ (S ++ [q]) ++ (L ++ kids l a q (termAt a q.1).1.args.length) ↔ p ∈ S ++ (q :: L) ∨ p ∈ kids l a q (termAt a q.1).1.args.length := by
    intro p
    simp [or_assoc]
  refine ⟨⟨fun p hp => ?_, fun h0 p hp => ?_, fun p hp => ?_, (memo _).2 (.inl h.start), by have := h.few; omega⟩, hmm⟩
  · rcases (memo p).1 hp with hp | hp
    · exact h.good p hp
    · obtain ⟨i, hi, rfl⟩ := kid p hp
      have := hfit.parts i hi
      exact ⟨⟨this.1, by have := hg.1; simp only; omega⟩, sideN_side hg.2 _⟩
  · rcases (memo p).1 hp with hp | hp
    · exact h.ok h0 p hp
    · obtain ⟨i, hi, rfl⟩ := kid p hp
      exact ((okAt_step hF hg.1).1 (h.ok h0 q (by simp))).2 i hi
  · rcases List.mem_append.1 hp with hp | hp
    · exact ⟨(h.done p hp).1, fun r hr => (memo r).2 (.inl ((h.done p hp).2 r hr))⟩
    · simp at hp
      subst hp
      exact ⟨hm, fun r hr => (memo r).2 (.inr hr)⟩
theorem InvW.bad {l : List Sg} {a : Kd} (hF : Fine l a) {q0 q : Int × Int} {S L : List (Int × Int)} (h : InvW l a q0 S (q :: L)) (hm : sideMay (termAt a q.1).1 q.2 = false) : okAt l a q0.1 q0.2 = false := by
  cases h0 : okAt l a q0.1 q0.2 with
  | false => rfl
  | true =>
    have hg := h.good q (by simp)
    have := ((okAt_step hF hg.1).1 (h.ok h0 q (by simp))).1
    rw [hm] at this
    cases this
theorem InvW.fin {l : List Sg} {a : Kd} (hF : Fine l a) {q0 : Int × Int} {S : List (Int × Int)} (h : InvW l a q0 S []) : okAt l a q0.1 q0.2 = true := by
  have key : ∀ (n : Nat) (q : Int × Int), q ∈ S → q.1.toNat < n → okAt l a q.1 q.2 = true := by
    intro n
    induction n with
    | zero => intro q _ hn; omega
    | succ n ih =>
      intro q hq hn
      have hg := h.good q (by simp [hq])
      have hfit := (hF.fit hg.1).2
      refine (okAt_step hF hg.1).2 ⟨(h.done q hq).1, fun i hi => ?_⟩
      have hp := hfit.parts i hi
      have := (h.done q hq).2 (gi (termAt a q.1).1.args i, sideN l (termAt a q.1).1 q.2 i) (by simp only [kids, List.mem_map, List.mem_range]; exact ⟨i, hi, rfl⟩)
      rw [List.append_nil] at this
      refine ih (gi (termAt a q.1).1.args i, sideN l (termAt a q.1).1 q.2 i) this ?_
      show (gi (termAt a q.1).1.args i).toNat < n
      omega
  exact key (q0.1.toNat + 1) q0 (by simpa using h.start) (by omega)
def nside (s : Int) : Int := if s = 76 ∨ s = 82 then s else 66
theorem nside_side (s : Int) : isSide (nside s) := by unfold nside isSide; split <;> omega
def sided (l : List Sg) (a : Kd) (id s : Int) : Bool := (termAt a id).2 && okAt l a id (nside s)
end Go.AM

namespace Go.AM
open Go.Proofs
set_option maxRecDepth 100000
set_option linter.unusedVariables false
set_option linter.unusedSimpArgs false
def an12 : An := ⟨[38], []⟩
theorem bstr_size (l : List Int) : (bstr l).size = l.length := by
  unfold bstr ByteArray.size
  simp
theorem byte_bstr {l : List Int} {i : Nat} (hi : i < l.length) (h0 : 0 ≤ gi l i) (h1 : gi l i < 256) : byte (bstr l) i = gi l i := by
  have e : gi l i = l[i] := by simp [gi, List.getD, hi]
  rw [e] at h0 h1 ⊢
  simp [byte, bstr, Array.getD, hi]
  omega
theorem isSide_byte {s : Int} (h : isSide s) : 0 ≤ s ∧ s < 256 := by unfold isSide at h; omega
theorem gi_sidesL {l : List Sg} {t : Tm0} {s : Int} {n i : Nat} (hi : i < n) : gi (sidesL l t s n) i = sideN l t s i := by
  simp [gi, List.getD, sidesL, hi]
abbrev wcs (p : Int × Int) : List AV := [i64 p.1, .int .u8 p.2]
theorem wmap_RL (n : Nat) (S : List (Int × Int)) : RLB n (.map 0 (S.map fun p => (AV.agg (wcs p), AV.bool true))) := by
  simp only [RLB, List.mem_map]
  rintro y ⟨p, _, rfl⟩
  simp
theorem c12_ok : cFn Try.prog an12 Try.f12 = some c12 := by kernel_rfl
theorem sided_PF {l : List Sg} {a : Kd} (hF : Fine l a) (id s : Int) : PF Try.prog 12 [sigs l, .agg a.cs, i64 id, .int .u8 s] (.bool (sided l a id s)) := by
  refine PFk 9 hm Try.func12 c12_ok (Nat.le_of_ble_eq_true rfl) (by simp) (by simp) ?_
  by_cases his : (termAt a id).2 = true
  · have hr := termAt_range his
    have hsd : sided l a id s = okAt l a id (nside s) := by simp [sided, his]
    have hb := InvW.begin (l := l) (q := (id, nside s)) hr (nside_side s)
    have hn : (s = 76 ∧ nside s = 76) ∨ (s = 82 ∧ nside s = 82) ∨ (s ≠ 76 ∧ s ≠ 82 ∧ nside s = 66) := by
      unfold nside
      split <;> omega
    rw [hsd]
    generalize nside s = s' at *
    rcases hn with ⟨h1, rfl⟩ | ⟨h1, rfl⟩ | ⟨h1, h2, rfl⟩
    · simp (maxSteps := 3000000) [-List.length_flatten, -List.map_drop, -List.map_take, Function.comp_def, argsT, Opd.ev, Tm.get, put, ares, mapMo, ares1, snilP, bldParts, bslParts, putAt, AV.cells, AV.one, astore, aload, loadCs, callArgs, abin, abinInt, aapp, elems, appMore, appNone, preLen, aFa, aFld, apart, aExt, aPick, aNot, aLens, aEqa, cellsK, fitsA, LK.fitsA, leavesA, leafA, nilD, aNilc, aCint, aCid, alive, alen, alenOk, Rle, lePs, len_flat, c12, h1]
      refine PF.call (termAt_PF a id) 9 (by simp [lePs]) ?_
      simp (maxSteps := 3000000) [-List.length_flatten, -List.map_drop, -List.map_take, Function.comp_def, argsT, Opd.ev, Tm.get, put, ares, mapMo, ares1, snilP, bldParts, bslParts, putAt, AV.cells, AV.one, astore, aload, loadCs, callArgs, abin, abinInt, aapp, elems, appMore, appNone, preLen, aFa, aFld, apart, aExt, aPick, aNot, aLens, aEqa, cellsK, fitsA, LK.fitsA, leavesA, leafA, nilD, aNilc, aCint, aCid, alive, alen, alenOk, Rle, lePs, len_flat, Kc, his]
      refine run_loop (fun m T H => ∃ (S D L : List (Int × Int)) (g : Nat), m = measW a.keys.length S L ∧ InvW l a (id, 76) S L ∧ T = [(12, .loc 3 g (D.length * 2) L.length 2 false), (11, .mapr 2 0), (5, .ptr 0 0 0), (0, sigs l)] ∧
        H = [.cells 0 a.cs, .cells 0 (termAt a id).1.cs, .map 0 (S.map fun p => (AV.agg (wcs p), AV.bool true)), .cells g (fl wcs (D ++ L))])
        (measW a.keys.length [] [(id, 76)]) [(12, .loc 3 0 0 1 2 false), (11, .mapr 2 0), (5, .ptr 0 0 0), (0, sigs l)] [.cells 0 a.cs, .cells 0 (termAt a id).1.cs, .map 0 [], .cells 0 (wcs (id, 76))]
        (Wk.tell 4 (by omega) (by simp [Tm.get]) (by simp) rfl (by simp [RLB])) ⟨[], [], [(id, 76)], 0, rfl, hb, rfl, by simp [fl]⟩ ?_
      rintro m T H ⟨S, D, L, g, rfl, hI, rfl, rfl⟩
      cases L with
      | nil =>
        simp (maxSteps := 3000000) [-List.length_flatten, -List.map_drop, -List.map_take, Function.comp_def, argsT, Opd.ev, Tm.get, put, ares, mapMo, ares1, snilP, bldParts, bslParts, putAt, AV.cells, AV.one, astore, aload, loadCs, callArgs, abin, abinInt, aapp, elems, appMore, appNone, preLen, aFa, aFld, apart, aExt, aPick, aNot, aLens, aEqa, cellsK, fitsA, LK.fitsA, leavesA, leafA, nilD, aNilc, aCint, aCid, alive, alen, alenOk, Rle, lePs, len_flat]
        exact hI.fin hF
      | cons q L =>
        have hg := hI.good q (by simp)
        have hfw := hI.few
        have hfit := (hF.fit hg.1).2
        have h8 := hfit.args hF.short
        have hmany := hF.many
        have hl1 := load_fl (f := wcs) (sz := 2) (by simp) D L q
        have hC0 : fl wcs (D ++ q :: L) = fl wcs ((D ++ [q]) ++ L) := by simp
        by_cases hqS : q ∈ S
        · have hlk : lookA true [.int .i64, .int .u8] [.int .i64 q.1, .int .u8 q.2] (S.map fun p => (AV.agg [i64 p.1, .int .u8 p.2], AV.bool true)) = some (some (.bool true)) := lookA_in pairK pairC hqS
          obtain ⟨k1, k2⟩ := hI.skip hqS
          simp (maxSteps := 3000000) [-List.length_flatten, -List.map_drop, -List.map_take, Function.comp_def, argsT, Opd.ev, Tm.get, put, ares, mapMo, ares1, snilP, bldParts, bslParts, putAt, AV.cells, AV.one, astore, aload, loadCs, callArgs, abin, abinInt, aapp, elems, appMore, appNone, preLen, aFa, aFld, apart, aExt, aPick, aNot, aLens, aEqa, cellsK, fitsA, LK.fitsA, leavesA, leafA, nilD, aNilc, aCint, aCid, alive, alen, alenOk, Rle, lePs, len_flat, ↓hl1, alkp, amap, hlk, hqS]
          refine fun _ => ⟨by omega, ?_⟩
          exact Kl_next (measW a.keys.length S L) 4 (by omega) ⟨S, D ++ [q], L, rfl, k1, g, rfl, by rw [← hC0]⟩ (by simp [Tm.get]; omega) (by simp) (by simp) (by simp only [al_cons, al_nil, and_true]; exact ⟨by simp [RLB], by simp [RLB], wmap_RL 4 S, fl_RL (by simp) _⟩) k2
        · have hlk : lookA true [.int .i64, .int .u8] [.int .i64 q.1, .int .u8 q.2] (S.map fun p => (AV.agg [i64 p.1, .int .u8 p.2], AV.bool true)) = some none := lookA_out pairK pairC hqS
          have hup : updA true [.int .i64, .int .u8] [.int .i64 q.1, .int .u8 q.2] (.agg [.int .i64 q.1, .int .u8 q.2]) (.bool true) (S.map fun p => (AV.agg [i64 p.1, .int .u8 p.2], AV.bool true)) = some ((S ++ [q]).map fun p => (AV.agg [i64 p.1, .int .u8 p.2], AV.bool true)) := updA_set pairK pairC q S hqS
          simp (maxSteps := 3000000) [-List.length_flatten, -List.map_drop, -List.map_take, Function.comp_def, argsT, Opd.ev, Tm.get, put, ares, mapMo, ares1, snilP, bldParts, bslParts, putAt, AV.cells, AV.one, astore, aload, loadCs, callArgs, abin, abinInt, aapp, elems, appMore, appNone, preLen, aFa, aFld, apart, aExt, aPick, aNot, aLens, aEqa, cellsK, fitsA, LK.fitsA, leavesA, leafA, nilD, aNilc, aCint, aCid, alive, alen, alenOk, Rle, lePs, len_flat, ↓hl1, alkp, amap, hlk, aupd, hup, -List.map_append]
          refine fun _ => ⟨by omega, ?_⟩
          refine PF.call (termAt_PF a q.1) 9 (by simp [lePs]) ?_
          simp (maxSteps := 3000000) [-List.length_flatten, -List.map_drop, -List.map_take, Function.comp_def, argsT, Opd.ev, Tm.get, put, ares, mapMo, ares1, snilP, bldParts, bslParts, putAt, AV.cells, AV.one, astore, aload, loadCs, callArgs, abin, abinInt, aapp, elems, appMore, appNone, preLen, aFa, aFld, apart, aExt, aPick, aNot, aLens, aEqa, cellsK, fitsA, LK.fitsA, leavesA, leafA, nilD, aNilc, aCint, aCid, alive, alen, alenOk, Rle, lePs, len_flat, Kc, -List.map_append]
          refine PF.call (sides_PF q.2 hfit hF.short) 9 (by simp [lePs]) ?_
          by_cases hmay : sideMay (termAt a q.1).1 q.2 = true
          · simp (maxSteps := 3000000) [-List.length_flatten, -List.map_drop, -List.map_take, Function.comp_def, argsT, Opd.ev, Tm.get, put, ares, mapMo, ares1, snilP, bldParts, bslParts, putAt, AV.cells, AV.one, astore, aload, loadCs, callArgs, abin, abinInt, aapp, elems, appMore, appNone, preLen, aFa, aFld, apart, aExt, aPick, aNot, aLens, aEqa, cellsK, fitsA, LK.fitsA, leavesA, leafA, nilD, aNilc, aCint, aCid, alive, alen, alenOk, Rle, lePs, len_flat, Kc, -List.map_append, hmay]
            intro hla
            have hS := wmap_RL 4 (S ++ [q])
            have hst : ∀ i : Nat, i < (termAt a q.1).1.args.length → byte (bstr (sidesL l (termAt a q.1).1 q.2 (termAt a q.1).1.args.length)) i = sideN l (termAt a q.1).1 q.2 i := fun i hi => by
              have hb := isSide_byte (sideN_side (l := l) (t := (termAt a q.1).1) hg.2 i)
              have e := gi_sidesL (l := l) (t := (termAt a q.1).1) (s := q.2) hi
              rw [byte_bstr (by rw [sidesL_len]; exact hi) (by omega) (by omega), e]
            have hsz : (bstr (sidesL l (termAt a q.1).1 q.2 (termAt a q.1).1.args.length)).size = (termAt a q.1).1.args.length := by rw [bstr_size, sidesL_len]
            generalize hbs : bstr (sidesL l (termAt a q.1).1 q.2 (termAt a q.1).1.args.length) = bs at *
            refine run_loop (fun m T H => ∃ (i g' : Nat) (D' : List (Int × Int)), m = (termAt a q.1).1.args.length - i ∧ i ≤ (termAt a q.1).1.args.length ∧ T = [(72, i64 i), (71, i64 (termAt a q.1).1.args.length), (70, ints (termAt a q.1).1.args), (16, .str bs), (12, .loc 3 g' (D'.length * 2) (L ++ kids l a q i).length 2 false), (11, .mapr 2 0), (5, .ptr 0 0 0), (0, sigs l)] ∧
              H = [.cells 0 a.cs, .cells 0 (termAt a id).1.cs, .map 0 ((S ++ [q]).map fun p => (AV.agg (wcs p), AV.bool true)), .cells g' (fl wcs (D' ++ (L ++ kids l a q i)))])
              (termAt a q.1).1.args.length [(72, i64 0), (71, i64 (termAt a q.1).1.args.length), (70, ints (termAt a q.1).1.args), (16, .str bs), (12, .loc 3 g (D.length * 2 + 2) L.length 2 false), (11, .mapr 2 0), (5, .ptr 0 0 0), (0, sigs l)]
              [.cells 0 a.cs, .cells 0 (termAt a id).1.cs, .map 0 ((S ++ [q]).map fun p => (AV.agg (wcs p), AV.bool true)), .cells g (fl wcs (D ++ q :: L))]
              (Wk.tell 4 (by omega) (by simp [Tm.get]) (by simp) rfl (by simp only [al_cons, al_nil, and_true]; exact ⟨by simp [RLB], by simp [RLB], hS, fl_RL (by simp) _⟩)) ⟨0, g, D ++ [q], by simp, by simp, by simp [kids]; omega, by simp [kids]⟩ ?_
            rintro m T H ⟨i, g', D', rfl, hi, rfl, rfl⟩
            have hkl := kids_len (l := l) (a := a) (q := q) (n := i)
            have hmid := fl_mid (f := wcs) (sz := 2) (by simp) D' (L ++ kids l a q i)
            have hrl := fl_RL (n := 4) (f := wcs) (by simp) (D' ++ (L ++ kids l a q i))
            generalize hC : fl wcs (D' ++ (L ++ kids l a q i)) = C at *
            rw [List.length_append, hkl] at hmid
            have hLl : L.length ≤ 27 * 2000 + 1 := by simp [measW] at hfw; omega
            simp (maxSteps := 3000000) [-List.length_flatten, -List.map_drop, -List.map_take, Function.comp_def, argsT, Opd.ev, Tm.get, put, ares, mapMo, ares1, snilP, bldParts, bslParts, putAt, AV.cells, AV.one, astore, aload, loadCs, callArgs, abin, abinInt, aapp, elems, appMore, appNone, preLen, aFa, aFld, apart, aExt, aPick, aNot, aLens, aEqa, cellsK, fitsA, LK.fitsA, leavesA, leafA, nilD, aNilc, aCint, aCid, alive, alen, alenOk, Rle, lePs, len_flat, hkl, -List.map_append]
            refine ⟨fun h => ⟨h, by omega, ?_⟩, fun h => ?_⟩
            · have e := hst i h
              simp (maxSteps := 3000000) [-List.length_flatten, -List.map_drop, -List.map_take, Function.comp_def, argsT, Opd.ev, Tm.get, put, ares, mapMo, ares1, snilP, bldParts, bslParts, putAt, AV.cells, AV.one, astore, aload, loadCs, callArgs, abin, abinInt, aapp, elems, appMore, appNone, preLen, aFa, aFld, apart, aExt, aPick, aNot, aLens, aEqa, cellsK, fitsA, LK.fitsA, leavesA, leafA, nilD, aNilc, aCint, aCid, alive, alen, alenOk, Rle, lePs, len_flat, e, hmid.1, hmid.2, List.all_append]
              intro _ _
              refine ⟨by unfold maxA; omega, ?_⟩
              exact Kl_next ((termAt a q.1).1.args.length - (i + 1)) 4 (by omega) ⟨i + 1, rfl, h, g' + 1, [], rfl, rfl⟩ (by simp [Tm.get, nxt h hla, hkl, kids_len]; omega) (by simp) (by simp [kids_succ, fl_app, fl_cons, fl_nil]) (by simp only [al_cons, al_nil, and_true]; exact ⟨by simp [RLB], by simp [RLB], by rw [List.map_append] at hS; exact hS, fl_RL (by simp) _⟩) (by omega)
            · have e : i = (termAt a q.1).1.args.length := by omega
              subst e
              obtain ⟨k1, k2⟩ := hI.next hF hqS hmay
              exact Kl_next (measW a.keys.length (S ++ [q]) (L ++ kids l a q (termAt a q.1).1.args.length)) 4 (by omega) ⟨S ++ [q], D', L ++ kids l a q (termAt a q.1).1.args.length, rfl, k1, g', rfl, rfl⟩ (by simp [Tm.get, kids_len]) (by simp) (by simp [hC]) (by simp only [al_cons, al_nil, and_true]; exact ⟨by simp [RLB], by simp [RLB], hS, fl_RL (by simp) _⟩) k2
          · have hmay' : sideMay (termAt a q.1).1 q.2 = false := by simpa using hmay
            have := hI.bad hF hmay'
            simp (maxSteps := 3000000) [-List.length_flatten, -List.map_drop, -List.map_take, Function.comp_def, argsT, Opd.ev, Tm.get, put, ares, mapMo, ares1, snilP, bldParts, bslParts, putAt, AV.cells, AV.one, astore, aload, loadCs, callArgs, abin, abinInt, aapp, elems, appMore, appNone, preLen, aFa, aFld, apart, aExt, aPick, aNot, aLens, aEqa, cellsK, fitsA, LK.fitsA, leavesA, leafA, nilD, aNilc, aCint, aCid, alive, alen, alenOk, Rle, lePs, len_flat, Kc, -List.map_append, hmay', this]
    · simp (maxSteps := 3000000) [-List.length_flatten, -List.map_drop, -List.map_take, Function.comp_def, argsT, Opd.ev, Tm.get, put, ares, mapMo, ares1, snilP, bldParts, bslParts, putAt, AV.cells, AV.one, astore, aload, loadCs, callArgs, abin, abinInt, aapp, elems, appMore, appNone, preLen, aFa, aFld, apart, aExt, aPick, aNot, aLens, aEqa, cellsK, fitsA, LK.fitsA, leavesA, leafA, nilD, aNilc, aCint, aCid, alive, alen, alenOk, Rle, lePs, len_flat, c12, h1]
      refine PF.call (termAt_PF a id) 9 (by simp [lePs]) ?_
      simp (maxSteps := 3000000) [-List.length_flatten, -List.map_drop, -List.map_take, Function.comp_def, argsT, Opd.ev, Tm.get, put, ares, mapMo, ares1, snilP, bldParts, bslParts, putAt, AV.cells, AV.one, astore, aload, loadCs, callArgs, abin, abinInt, aapp, elems, appMore, appNone, preLen, aFa, aFld, apart, aExt, aPick, aNot, aLens, aEqa, cellsK, fitsA, LK.fitsA, leavesA, leafA, nilD, aNilc, aCint, aCid, alive, alen, alenOk, Rle, lePs, len_flat, Kc, his]
      refine run_loop (fun m T H => ∃ (S D L : List (Int × Int)) (g : Nat), m = measW a.keys.length S L ∧ InvW l a (id, 82) S L ∧ T = [(12, .loc 3 g (D.length * 2) L.length 2 false), (11, .mapr 2 0), (5, .ptr 0 0 0), (0, sigs l)] ∧
        H = [.cells 0 a.cs, .cells 0 (termAt a id).1.cs, .map 0 (S.map fun p => (AV.agg (wcs p), AV.bool true)), .cells g (fl wcs (D ++ L))])
        (measW a.keys.length [] [(id, 82)]) [(12, .loc 3 0 0 1 2 false), (11, .mapr 2 0), (5, .ptr 0 0 0), (0, sigs l)] [.cells 0 a.cs, .cells 0 (termAt a id).1.cs, .map 0 [], .cells 0 (wcs (id, 82))]
        (Wk.tell 4 (by omega) (by simp [Tm.get]) (by simp) rfl (by simp [RLB])) ⟨[], [], [(id, 82)], 0, rfl, hb, rfl, by simp [fl]⟩ ?_
      rintro m T H ⟨S, D, L, g, rfl, hI, rfl, rfl⟩
      cases L with
      | nil =>
        simp (maxSteps := 3000000) [-List.length_flatten, -List.map_drop, -List.map_take, Function.comp_def, argsT, Opd.ev, Tm.get, put, ares, mapMo, ares1, snilP, bldParts, bslParts, putAt, AV.cells, AV.one, astore, aload, loadCs, callArgs, abin, abinInt, aapp, elems, appMore, appNone, preLen, aFa, aFld, apart, aExt, aPick, aNot, aLens, aEqa, cellsK, fitsA, LK.fitsA, leavesA, leafA, nilD, aNilc, aCint, aCid, alive, alen, alenOk, Rle, lePs, len_flat]
        exact hI.fin hF
      | cons q L =>
        have hg := hI.good q (by simp)
        have hfw := hI.few
        have hfit := (hF.fit hg.1).2
        have h8 := hfit.args hF.short
        have hmany := hF.many
        have hl1 := load_fl (f := wcs) (sz := 2) (by simp) D L q
        have hC0 : fl wcs (D ++ q :: L) = fl wcs ((D ++ [q]) ++ L) := by simp
        by_cases hqS : q ∈ S
        · have hlk : lookA true [.int .i64, .int .u8] [.int .i64 q.1, .int .u8 q.2] (S.map fun p => (AV.agg [i64 p.1, .int .u8 p.2], AV.bool true)) = some (some (.bool true)) := lookA_in pairK pairC hqS
          obtain ⟨k1, k2⟩ := hI.skip hqS
          simp (maxSteps := 3000000) [-List.length_flatten, -List.map_drop, -List.map_take, Function.comp_def, argsT, Opd.ev, Tm.get, put, ares, mapMo, ares1, snilP, bldParts, bslParts, putAt, AV.cells, AV.one, astore, aload, loadCs, callArgs, abin, abinInt, aapp, elems, appMore, appNone, preLen, aFa, aFld, apart, aExt, aPick, aNot, aLens, aEqa, cellsK, fitsA, LK.fitsA, leavesA, leafA, nilD, aNilc, aCint, aCid, alive, alen, alenOk, Rle, lePs, len_flat, ↓hl1, alkp, amap, hlk, hqS]
          refine fun _ => ⟨by omega, ?_⟩
          exact Kl_next (measW a.keys.length S L) 4 (by omega) ⟨S, D ++ [q], L, rfl, k1, g, rfl, by rw [← hC0]⟩ (by simp [Tm.get]; omega) (by simp) (by simp) (by simp only [al_cons, al_nil, and_true]; exact ⟨by simp [RLB], by simp [RLB], wmap_RL 4 S, fl_RL (by simp) _⟩) k2
        · have hlk : lookA true [.int .i64, .int .u8] [.int .i64 q.1, .int .u8 q.2] (S.map fun p => (AV.agg [i64 p.1, .int .u8 p.2], AV.bool true)) = some none := lookA_out pairK pairC hqS
          have hup : updA true [.int .i64, .int .u8] [.int .i64 q.1, .int .u8 q.2] (.agg [.int .i64 q.1, .int .u8 q.2]) (.bool true) (S.map fun p => (AV.agg [i64 p.1, .int .u8 p.2], AV.bool true)) = some ((S ++ [q]).map fun p => (AV.agg [i64 p.1, .int .u8 p.2], AV.bool true)) := updA_set pairK pairC q S hqS
          simp (maxSteps := 3000000) [-List.length_flatten, -List.map_drop, -List.map_take, Function.comp_def, argsT, Opd.ev, Tm.get, put, ares, mapMo, ares1, snilP, bldParts, bslParts, putAt, AV.cells, AV.one, astore, aload, loadCs, callArgs, abin, abinInt, aapp, elems, appMore, appNone, preLen, aFa, aFld, apart, aExt, aPick, aNot, aLens, aEqa, cellsK, fitsA, LK.fitsA, leavesA, leafA, nilD, aNilc, aCint, aCid, alive, alen, alenOk, Rle, lePs, len_flat, ↓hl1, alkp, amap, hlk, aupd, hup, -List.map_append]
          refine fun _ => ⟨by omega, ?_⟩
          refine PF.call (termAt_PF a q.1) 9 (by simp [lePs]) ?_
          simp (maxSteps := 3000000) [-List.length_flatten, -List.map_drop, -List.map_take, Function.comp_def, argsT, Opd.ev, Tm.get, put, ares, mapMo, ares1, snilP, bldParts, bslParts, putAt, AV.cells, AV.one, astore, aload, loadCs, callArgs, abin, abinInt, aapp, elems, appMore, appNone, preLen, aFa, aFld, apart, aExt, aPick, aNot, aLens, aEqa, cellsK, fitsA, LK.fitsA, leavesA, leafA, nilD, aNilc, aCint, aCid, alive, alen, alenOk, Rle, lePs, len_flat, Kc, -List.map_append]
          refine PF.call (sides_PF q.2 hfit hF.short) 9 (by simp [lePs]) ?_
          by_cases hmay : sideMay (termAt a q.1).1 q.2 = true
          · simp (maxSteps := 3000000) [-List.length_flatten, -List.map_drop, -List.map_take, Function.comp_def, argsT, Opd.ev, Tm.get, put, ares, mapMo, ares1, snilP, bldParts, bslParts, putAt, AV.cells, AV.one, astore, aload, loadCs, callArgs, abin, abinInt, aapp, elems, appMore, appNone, preLen, aFa, aFld, apart, aExt, aPick, aNot, aLens, aEqa, cellsK, fitsA, LK.fitsA, leavesA, leafA, nilD, aNilc, aCint, aCid, alive, alen, alenOk, Rle, lePs, len_flat, Kc, -List.map_append, hmay]
            intro hla
            have hS := wmap_RL 4 (S ++ [q])
            have hst : ∀ i : Nat, i < (termAt a q.1).1.args.length → byte (bstr (sidesL l (termAt a q.1).1 q.2 (termAt a q.1).1.args.length)) i = sideN l (termAt a q.1).1 q.2 i := fun i hi => by
              have hb := isSide_byte (sideN_side (l := l) (t := (termAt a q.1).1) hg.2 i)
              have e := gi_sidesL (l := l) (t := (termAt a q.1).1) (s := q.2) hi
              rw [byte_bstr (by rw [sidesL_len]; exact hi) (by omega) (by omega), e]
            have hsz : (bstr (sidesL l (termAt a q.1).1 q.2 (termAt a q.1).1.args.length)).size = (termAt a q.1).1.args.length := by rw [bstr_size, sidesL_len]
            generalize hbs : bstr (sidesL l (termAt a q.1).1 q.2 (termAt a q.1).1.args.length) = bs at *
            refine run_loop (fun m T H => ∃ (i g' : Nat) (D' : List (Int × Int)), m = (termAt a q.1).1.args.length - i ∧ i ≤ (termAt a q.1).1.args.length ∧ T = [(72, i64 i), (71, i64 (termAt a q.1).1.args.length), (70, ints (termAt a q.1).1.args), (16, .str bs), (12, .loc 3 g' (D'.length * 2) (L ++ kids l a q i).length 2 false), (11, .mapr 2 0), (5, .ptr 0 0 0), (0, sigs l)] ∧
              H = [.cells 0 a.cs, .cells 0 (termAt a id).1.cs, .map 0 ((S ++ [q]).map fun p => (AV.agg (wcs p), AV.bool true)), .cells g' (fl wcs (D' ++ (L ++ kids l a q i)))])
              (termAt a q.1).1.args.length [(72, i64 0), (71, i64 (termAt a q.1).1.args.length), (70, ints (termAt a q.1).1.args), (16, .str bs), (12, .loc 3 g (D.length * 2 + 2) L.length 2 false), (11, .mapr 2 0), (5, .ptr 0 0 0), (0, sigs l)]
              [.cells 0 a.cs, .cells 0 (termAt a id).1.cs, .map 0 ((S ++ [q]).map fun p => (AV.agg (wcs p), AV.bool true)), .cells g (fl wcs (D ++ q :: L))]
              (Wk.tell 4 (by omega) (by simp [Tm.get]) (by simp) rfl (by simp only [al_cons, al_nil, and_true]; exact ⟨by simp [RLB], by simp [RLB], hS, fl_RL (by simp) _⟩)) ⟨0, g, D ++ [q], by simp, by simp, by simp [kids]; omega, by simp [kids]⟩ ?_
            rintro m T H ⟨i, g', D', rfl, hi, rfl, rfl⟩
            have hkl := kids_len (l := l) (a := a) (q := q) (n := i)
            have hmid := fl_mid (f := wcs) (sz := 2) (by simp) D' (L ++ kids l a q i)
            have hrl := fl_RL (n := 4) (f := wcs) (by simp) (D' ++ (L ++ kids l a q i))
            generalize hC : fl wcs (D' ++ (L ++ kids l a q i)) = C at *
            rw [List.length_append, hkl] at hmid
            have hLl : L.length ≤ 27 * 2000 + 1 := by simp [measW] at hfw; omega
            simp (maxSteps := 3000000) [-List.length_flatten, -List.map_drop, -List.map_take, Function.comp_def, argsT, Opd.ev, Tm.get, put, ares, mapMo, ares1, snilP, bldParts, bslParts, putAt, AV.cells, AV.one, astore, aload, loadCs, callArgs, abin, abinInt, aapp, elems, appMore, appNone, preLen, aFa, aFld, apart, aExt, aPick, aNot, aLens, aEqa, cellsK, fitsA, LK.fitsA, leavesA, leafA, nilD, aNilc, aCint, aCid, alive, alen, alenOk, Rle, lePs, len_flat, hkl, -List.map_append]
            refine ⟨fun h => ⟨h, by omega, ?_⟩, fun h => ?_⟩
            · have e := hst i h
              simp (maxSteps := 3000000) [-List.length_flatten, -List.map_drop, -List.map_take, Function.comp_def, argsT, Opd.ev, Tm.get, put, ares, mapMo, ares1, snilP, bldParts, bslParts, putAt, AV.cells, AV.one, astore, aload, loadCs, callArgs, abin, abinInt, aapp, elems, appMore, appNone, preLen, aFa, aFld, apart, aExt, aPick, aNot, aLens, aEqa, cellsK, fitsA, LK.fitsA, leavesA, leafA, nilD, aNilc, aCint, aCid, alive, alen, alenOk, Rle, lePs, len_flat, e, hmid.1, hmid.2, List.all_append]
              intro _ _
              refine ⟨by unfold maxA; omega, ?_⟩
              exact Kl_next ((termAt a q.1).1.args.length - (i + 1)) 4 (by omega) ⟨i + 1, rfl, h, g' + 1, [], rfl, rfl⟩ (by simp [Tm.get, nxt h hla, hkl, kids_len]; omega) (by simp) (by simp [kids_succ, fl_app, fl_cons, fl_nil]) (by simp only [al_cons, al_nil, and_true]; exact ⟨by simp [RLB], by simp [RLB], by rw [List.map_append] at hS; exact hS, fl_RL (by simp) _⟩) (by omega)
            · have e : i = (termAt a q.1).1.args.length := by omega
              subst e
              obtain ⟨k1, k2⟩ := hI.next hF hqS hmay
              exact Kl_next (measW a.keys.length (S ++ [q]) (L ++ kids l a q (termAt a q.1).1.args.length)) 4 (by omega) ⟨S ++ [q], D', L ++ kids l a q (termAt a q.1).1.args.length, rfl, k1, g', rfl, rfl⟩ (by simp [Tm.get, kids_len]) (by simp) (by simp [hC]) (by simp only [al_cons, al_nil, and_true]; exact ⟨by simp [RLB], by simp [RLB], hS, fl_RL (by simp) _⟩) k2
          · have hmay' : sideMay (termAt a q.1).1 q.2 = false := by simpa using hmay
            have := hI.bad hF hmay'
            simp (maxSteps := 3000000) [-List.length_flatten, -List.map_drop, -List.map_take, Function.comp_def, argsT, Opd.ev, Tm.get, put, ares, mapMo, ares1, snilP, bldParts, bslParts, putAt, AV.cells, AV.one, astore, aload, loadCs, callArgs, abin, abinInt, aapp, elems, appMore, appNone, preLen, aFa, aFld, apart, aExt, aPick, aNot, aLens, aEqa, cellsK, fitsA, LK.fitsA, leavesA, leafA, nilD, aNilc, aCint, aCid, alive, alen, alenOk, Rle, lePs, len_flat, Kc, -List.map_append, hmay', this]
    · simp (maxSteps := 3000000) [-List.length_flatten, -List.map_drop, -List.map_take, Function.comp_def, argsT, Opd.ev, Tm.get, put, ares, mapMo, ares1, snilP, bldParts, bslParts, putAt, AV.cells, AV.one, astore, aload, loadCs, callArgs, abin, abinInt, aapp, elems, appMore, appNone, preLen, aFa, aFld, apart, aExt, aPick, aNot, aLens, aEqa, cellsK, fitsA, LK.fitsA, leavesA, leafA, nilD, aNilc, aCint, aCid, alive, alen, alenOk, Rle, lePs, len_flat, c12, h1, h2]
      refine PF.call (termAt_PF a id) 9 (by simp [lePs]) ?_
      simp (maxSteps := 3000000) [-List.length_flatten, -List.map_drop, -List.map_take, Function.comp_def, argsT, Opd.ev, Tm.get, put, ares, mapMo, ares1, snilP, bldParts, bslParts, putAt, AV.cells, AV.one, astore, aload, loadCs, callArgs, abin, abinInt, aapp, elems, appMore, appNone, preLen, aFa, aFld, apart, aExt, aPick, aNot, aLens, aEqa, cellsK, fitsA, LK.fitsA, leavesA, leafA, nilD, aNilc, aCint, aCid, alive, alen, alenOk, Rle, lePs, len_flat, Kc, his]
      refine run_loop (fun m T H => ∃ (S D L : List (Int × Int)) (g : Nat), m = measW a.keys.length S L ∧ InvW l a (id, 66) S L ∧ T = [(12, .loc 3 g (D.length * 2) L.length 2 false), (11, .mapr 2 0), (5, .ptr 0 0 0), (0, sigs l)] ∧
        H = [.cells 0 a.cs, .cells 0 (termAt a id).1.cs, .map 0 (S.map fun p => (AV.agg (wcs p), AV.bool true)), .cells g (fl wcs (D ++ L))])
        (measW a.keys.length [] [(id, 66)]) [(12, .loc 3 0 0 1 2 false), (11, .mapr 2 0), (5, .ptr 0 0 0), (0, sigs l)] [.cells 0 a.cs, .cells 0 (termAt a id).1.cs, .map 0 [], .cells 0 (wcs (id, 66))]
        (Wk.tell 4 (by omega) (by simp [Tm.get]) (by simp) rfl (by simp [RLB])) ⟨[], [], [(id, 66)], 0, rfl, hb, rfl, by simp [fl]⟩ ?_
      rintro m T H ⟨S, D, L, g, rfl, hI, rfl, rfl⟩
      cases L with
      | nil =>
        simp (maxSteps := 3000000) [-List.length_flatten, -List.map_drop, -List.map_take, Function.comp_def, argsT, Opd.ev, Tm.get, put, ares, mapMo, ares1, snilP, bldParts, bslParts, putAt, AV.cells, AV.one, astore, aload, loadCs, callArgs, abin, abinInt, aapp, elems, appMore, appNone, preLen, aFa, aFld, apart, aExt, aPick, aNot, aLens, aEqa, cellsK, fitsA, LK.fitsA, leavesA, leafA, nilD, aNilc, aCint, aCid, alive, alen, alenOk, Rle, lePs, len_flat]
        exact hI.fin hF
      | cons q L =>
        have hg := hI.good q (by simp)
        have hfw := hI.few
        have hfit := (hF.fit hg.1).2
        have h8 := hfit.args hF.short
        have hmany := hF.many
        have hl1 := load_fl (f := wcs) (sz := 2) (by simp) D L q
        have hC0 : fl wcs (D ++ q :: L) = fl wcs ((D ++ [q]) ++ L) := by simp
        by_cases hqS : q ∈ S
        · have hlk : lookA true [.int .i64, .int .u8] [.int .i64 q.1, .int .u8 q.2] (S.map fun p => (AV.agg [i64 p.1, .int .u8 p.2], AV.bool true)) = some (some (.bool true)) := lookA_in pairK pairC hqS
          obtain ⟨k1, k2⟩ := hI.skip hqS
          simp (maxSteps := 3000000) [-List.length_flatten, -List.map_drop, -List.map_take, Function.comp_def, argsT, Opd.ev, Tm.get, put, ares, mapMo, ares1, snilP, bldParts, bslParts, putAt, AV.cells, AV.one, astore, aload, loadCs, callArgs, abin, abinInt, aapp, elems, appMore, appNone, preLen, aFa, aFld, apart, aExt, aPick, aNot, aLens, aEqa, cellsK, fitsA, LK.fitsA, leavesA, leafA, nilD, aNilc, aCint, aCid, alive, alen, alenOk, Rle, lePs, len_flat, ↓hl1, alkp, amap, hlk, hqS]
          refine fun _ => ⟨by omega, ?_⟩
          exact Kl_next (measW a.keys.length S L) 4 (by omega) ⟨S, D ++ [q], L, rfl, k1, g, rfl, by rw [← hC0]⟩ (by simp [Tm.get]; omega) (by simp) (by simp) (by simp only [al_cons, al_nil, and_true]; exact ⟨by simp [RLB], by simp [RLB], wmap_RL 4 S, fl_RL (by simp) _⟩) k2
        · have hlk : lookA true [.int .i64, .int .u8] [.int .i64 q.1, .int .u8 q.2] (S.map fun p => (AV.agg [i64 p.1, .int .u8 p.2], AV.bool true)) = some none := lookA_out pairK pairC hqS
          have hup : updA true [.int .i64, .int .u8] [.int .i64 q.1, .int .u8 q.2] (.agg [.int .i64 q.1, .int .u8 q.2]) (.bool true) (S.map fun p => (AV.agg [i64 p.1, .int .u8 p.2], AV.bool true)) = some ((S ++ [q]).map fun p => (AV.agg [i64 p.1, .int .u8 p.2], AV.bool true)) := updA_set pairK pairC q S hqS
          simp (maxSteps := 3000000) [-List.length_flatten, -List.map_drop, -List.map_take, Function.comp_def, argsT, Opd.ev, Tm.get, put, ares, mapMo, ares1, snilP, bldParts, bslParts, putAt, AV.cells, AV.one, astore, aload, loadCs, callArgs, abin, abinInt, aapp, elems, appMore, appNone, preLen, aFa, aFld, apart, aExt, aPick, aNot, aLens, aEqa, cellsK, fitsA, LK.fitsA, leavesA, leafA, nilD, aNilc, aCint, aCid, alive, alen, alenOk, Rle, lePs, len_flat, ↓hl1, alkp, amap, hlk, aupd, hup, -List.map_append]
          refine fun _ => ⟨by omega, ?_⟩
          refine PF.call (termAt_PF a q.1) 9 (by simp [lePs]) ?_
          simp (maxSteps := 3000000) [-List.length_flatten, -List.map_drop, -List.map_take, Function.comp_def, argsT, Opd.ev, Tm.get, put, ares, mapMo, ares1, snilP, bldParts, bslParts, putAt, AV.cells, AV.one, astore, aload, loadCs, callArgs, abin, abinInt, aapp, elems, appMore, appNone, preLen, aFa, aFld, apart, aExt, aPick, aNot, aLens, aEqa, cellsK, fitsA, LK.fitsA, leavesA, leafA, nilD, aNilc, aCint, aCid, alive, alen, alenOk, Rle, lePs, len_flat, Kc, -List.map_append]
          refine PF.call (sides_PF q.2 hfit hF.short) 9 (by simp [lePs]) ?_
          by_cases hmay : sideMay (termAt a q.1).1 q.2 = true
          · simp (maxSteps := 3000000) [-List.length_flatten, -List.map_drop, -List.map_take, Function.comp_def, argsT, Opd.ev, Tm.get, put, ares, mapMo, ares1, snilP, bldParts, bslParts, putAt, AV.cells, AV.one, astore, aload, loadCs, callArgs, abin, abinInt, aapp, elems, appMore, appNone, preLen, aFa, aFld, apart, aExt, aPick, aNot, aLens, aEqa, cellsK, fitsA, LK.fitsA, leavesA, leafA, nilD, aNilc, aCint, aCid, alive, alen, alenOk, Rle, lePs, len_flat, Kc, -List.map_append, hmay]
            intro hla
            have hS := wmap_RL 4 (S ++ [q])
            have hst : ∀ i : Nat, i < (termAt a q.1).1.args.length → byte (bstr (sidesL l (termAt a q.1).1 q.2 (termAt a q.1).1.args.length)) i = sideN l (termAt a q.1).1 q.2 i := fun i hi => by
              have hb := isSide_byte (sideN_side (l := l) (t := (termAt a q.1).1) hg.2 i)
              have e := gi_sidesL (l := l) (t := (termAt a q.1).1) (s := q.2) hi
              rw [byte_bstr (by rw [sidesL_len]; exact hi) (by omega) (by omega), e]
            have hsz : (bstr (sidesL l (termAt a q.1).1 q.2 (termAt a q.1).1.args.length)).size = (termAt a q.1).1.args.length := by rw [bstr_size, sidesL_len]
            generalize hbs : bstr (sidesL l (termAt a q.1).1 q.2 (termAt a q.1).1.args.length) = bs at *
            refine run_loop (fun m T H => ∃ (i g' : Nat) (D' : List (Int × Int)), m = (termAt a q.1).1.args.length - i ∧ i ≤ (termAt a q.1).1.args.length ∧ T = [(72, i64 i), (71, i64 (termAt a q.1).1.args.length), (70, ints (termAt a q.1).1.args), (16, .str bs), (12, .loc 3 g' (D'.length * 2) (L ++ kids l a q i).length 2 false), (11, .mapr 2 0), (5, .ptr 0 0 0), (0, sigs l)] ∧
              H = [.cells 0 a.cs, .cells 0 (termAt a id).1.cs, .map 0 ((S ++ [q]).map fun p => (AV.agg (wcs p), AV.bool true)), .cells g' (fl wcs (D' ++ (L ++ kids l a q i)))])
              (termAt a q.1).1.args.length [(72, i64 0), (71, i64 (termAt a q.1).1.args.length), (70, ints (termAt a q.1).1.args), (16, .str bs), (12, .loc 3 g (D.length * 2 + 2) L.length 2 false), (11, .mapr 2 0), (5, .ptr 0 0 0), (0, sigs l)]
              [.cells 0 a.cs, .cells 0 (termAt a id).1.cs, .map 0 ((S ++ [q]).map fun p => (AV.agg (wcs p), AV.bool true)), .cells g (fl wcs (D ++ q :: L))]
              (Wk.tell 4 (by omega) (by simp [Tm.get]) (by simp) rfl (by simp only [al_cons, al_nil, and_true]; exact ⟨by simp [RLB], by simp [RLB], hS, fl_RL (by simp) _⟩)) ⟨0, g, D ++ [q], by simp, by simp, by simp [kids]; omega, by simp [kids]⟩ ?_
            rintro m T H ⟨i, g', D', rfl, hi, rfl, rfl⟩
            have hkl := kids_len (l := l) (a := a) (q := q) (n := i)
            have hmid := fl_mid (f := wcs) (sz := 2) (by simp) D' (L ++ kids l a q i)
            have hrl := fl_RL (n := 4) (f := wcs) (by simp) (D' ++ (L ++ kids l a q i))
            generalize hC : fl wcs (D' ++ (L ++ kids l a q i)) = C at *
            rw [List.length_append, hkl] at hmid
            have hLl : L.length ≤ 27 * 2000 + 1 := by simp [measW] at hfw; omega
            simp (maxSteps := 3000000) [-List.length_flatten, -List.map_drop, -List.map_take, Function.comp_def, argsT, Opd.ev, Tm.get, put, ares, mapMo, ares1, snilP, bldParts, bslParts, putAt, AV.cells, AV.one, astore, aload, loadCs, callArgs, abin, abinInt, aapp, elems, appMore, appNone, preLen, aFa, aFld, apart, aExt, aPick, aNot, aLens, aEqa, cellsK, fitsA, LK.fitsA, leavesA, leafA, nilD, aNilc, aCint, aCid, alive, alen, alenOk, Rle, lePs, len_flat, hkl, -List.map_append]
            refine ⟨fun h => ⟨h, by omega, ?_⟩, fun h => ?_⟩
            · have e := hst i h
              simp (maxSteps := 3000000) [-List.length_flatten, -List.map_drop, -List.map_take, Function.comp_def, argsT, Opd.ev, Tm.get, put, ares, mapMo, ares1, snilP, bldParts, bslParts, putAt, AV.cells, AV.one, astore, aload, loadCs, callArgs, abin, abinInt, aapp, elems, appMore, appNone, preLen, aFa, aFld, apart, aExt, aPick, aNot, aLens, aEqa, cellsK, fitsA, LK.fitsA, leavesA, leafA, nilD, aNilc, aCint, aCid, alive, alen, alenOk, Rle, lePs, len_flat, e, hmid.1, hmid.2, List.all_append]
              intro _ _
              refine ⟨by unfold maxA; omega, ?_⟩
              exact Kl_next ((termAt a q.1).1.args.length - (i + 1)) 4 (by omega) ⟨i + 1, rfl, h, g' + 1, [], rfl, rfl⟩ (by simp [Tm.get, nxt h hla, hkl, kids_len]; omega) (by simp) (by simp [kids_succ, fl_app, fl_cons, fl_nil]) (by simp only [al_cons, al_nil, and_true]; exact ⟨by simp [RLB], by simp [RLB], by rw [List.map_append] at hS; exact hS, fl_RL (by simp) _⟩) (by omega)
            · have e : i = (termAt a q.1).1.args.length := by omega
              subst e
              obtain ⟨k1, k2⟩ := hI.next hF hqS hmay
              exact Kl_next (measW a.keys.length (S ++ [q]) (L ++ kids l a q (termAt a q.1).1.args.length)) 4 (by omega) ⟨S ++ [q], D', L ++ kids l a q (termAt a q.1).1.args.length, rfl, k1, g', rfl, rfl⟩ (by simp [Tm.get, kids_len]) (by simp) (by simp [hC]) (by simp only [al_cons, al_nil, and_true]; exact ⟨by simp [RLB], by simp [RLB], hS, fl_RL (by simp) _⟩) k2
          · have hmay' : sideMay (termAt a q.1).1 q.2 = false := by simpa using hmay
            have := hI.bad hF hmay'
            simp (maxSteps := 3000000) [-List.length_flatten, -List.map_drop, -List.map_take, Function.comp_def, argsT, Opd.ev, Tm.get, put, ares, mapMo, ares1, snilP, bldParts, bslParts, putAt, AV.cells, AV.one, astore, aload, loadCs, callArgs, abin, abinInt, aapp, elems, appMore, appNone, preLen, aFa, aFld, apart, aExt, aPick, aNot, aLens, aEqa, cellsK, fitsA, LK.fitsA, leavesA, leafA, nilD, aNilc, aCint, aCid, alive, alen, alenOk, Rle, lePs, len_flat, Kc, -List.map_append, hmay', this]
  · have e : sided l a id s = false := by simp [sided, his]
    rw [e]
    by_cases h1 : s = 76
    · simp (maxSteps := 3000000) [-List.length_flatten, -List.map_drop, -List.map_take, Function.comp_def, argsT, Opd.ev, Tm.get, put, ares, mapMo, ares1, snilP, bldParts, bslParts, putAt, AV.cells, AV.one, astore, aload, loadCs, callArgs, abin, abinInt, aapp, elems, appMore, appNone, preLen, aFa, aFld, apart, aExt, aPick, aNot, aLens, aEqa, cellsK, fitsA, LK.fitsA, leavesA, leafA, nilD, aNilc, aCint, aCid, alive, alen, alenOk, Rle, lePs, len_flat, c12, h1]
      refine PF.call (termAt_PF a id) 9 (by simp [lePs]) ?_
      simp (maxSteps := 3000000) [-List.length_flatten, -List.map_drop, -List.map_take, Function.comp_def, argsT, Opd.ev, Tm.get, put, ares, mapMo, ares1, snilP, bldParts, bslParts, putAt, AV.cells, AV.one, astore, aload, loadCs, callArgs, abin, abinInt, aapp, elems, appMore, appNone, preLen, aFa, aFld, apart, aExt, aPick, aNot, aLens, aEqa, cellsK, fitsA, LK.fitsA, leavesA, leafA, nilD, aNilc, aCint, aCid, alive, alen, alenOk, Rle, lePs, len_flat, Kc, his]
    · by_cases h2 : s = 82
      · simp (maxSteps := 3000000) [-List.length_flatten, -List.map_drop, -List.map_take, Function.comp_def, argsT, Opd.ev, Tm.get, put, ares, mapMo, ares1, snilP, bldParts, bslParts, putAt, AV.cells, AV.one, astore, aload, loadCs, callArgs, abin, abinInt, aapp, elems, appMore, appNone, preLen, aFa, aFld, apart, aExt, aPick, aNot, aLens, aEqa, cellsK, fitsA, LK.fitsA, leavesA, leafA, nilD, aNilc, aCint, aCid, alive, alen, alenOk, Rle, lePs, len_flat, c12, h2]
        refine PF.call (termAt_PF a id) 9 (by simp [lePs]) ?_
        simp (maxSteps := 3000000) [-List.length_flatten, -List.map_drop, -List.map_take, Function.comp_def, argsT, Opd.ev, Tm.get, put, ares, mapMo, ares1, snilP, bldParts, bslParts, putAt, AV.cells, AV.one, astore, aload, loadCs, callArgs, abin, abinInt, aapp, elems, appMore, appNone, preLen, aFa, aFld, apart, aExt, aPick, aNot, aLens, aEqa, cellsK, fitsA, LK.fitsA, leavesA, leafA, nilD, aNilc, aCint, aCid, alive, alen, alenOk, Rle, lePs, len_flat, Kc, his]
      · simp (maxSteps := 3000000) [-List.length_flatten, -List.map_drop, -List.map_take, Function.comp_def, argsT, Opd.ev, Tm.get, put, ares, mapMo, ares1, snilP, bldParts, bslParts, putAt, AV.cells, AV.one, astore, aload, loadCs, callArgs, abin, abinInt, aapp, elems, appMore, appNone, preLen, aFa, aFld, apart, aExt, aPick, aNot, aLens, aEqa, cellsK, fitsA, LK.fitsA, leavesA, leafA, nilD, aNilc, aCint, aCid, alive, alen, alenOk, Rle, lePs, len_flat, c12, h1, h2]
        refine PF.call (termAt_PF a id) 9 (by simp [lePs]) ?_
        simp (maxSteps := 3000000) [-List.length_flatten, -List.map_drop, -List.map_take, Function.comp_def, argsT, Opd.ev, Tm.get, put, ares, mapMo, ares1, snilP, bldParts, bslParts, putAt, AV.cells, AV.one, astore, aload, loadCs, callArgs, abin, abinInt, aapp, elems, appMore, appNone, preLen, aFa, aFld, apart, aExt, aPick, aNot, aLens, aEqa, cellsK, fitsA, LK.fitsA, leavesA, leafA, nilD, aNilc, aCint, aCid, alive, alen, alenOk, Rle, lePs, len_flat, Kc, his]
end Go.AM

namespace Go.AM
open Go.Proofs
set_option maxRecDepth 100000
set_option linter.unusedVariables false
set_option linter.unusedSimpArgs false
/-! ### The law of StepSides -/
theorem okAt_both {l : List Sg} {a : Kd} (hF : Fine l a) : ∀ (n : Nat) (id : Int), (0 ≤ id ∧ id < a.keys.length) → id.toNat < n → okAt l a id 66 = true → okAt l a id 76 = true ∧ okAt l a id 82 = true
  | 0, id, _, h, _ => by omega
  | n + 1, id, hr, hn, h => by
    obtain ⟨h1, h2⟩ := (okAt_step hF hr).1 h
    have hfit := (hF.fit hr).2
    have hk : ¬ (termAt a id).1.kind = 4 ∧ ¬ (termAt a id).1.kind = 5 ∧ ¬ (termAt a id).1.kind = 6 := by
      unfold sideMay at h1
      refine ⟨fun e => by simp [e] at h1, fun e => by simp [e] at h1, fun e => by simp [e] at h1⟩
    have m : ∀ s, sideMay (termAt a id).1 s = true := fun s => by simp [sideMay, hk]
    have kid : ∀ s, isSide s → ∀ i : Nat, i < (termAt a id).1.args.length → okAt l a (gi (termAt a id).1.args i) (sideN l (termAt a id).1 s i) = true := by
      intro s hs i hi
      have hp := hfit.parts i hi
      have h3 := h2 i hi
      have e66 : sideN l (termAt a id).1 66 i = 66 := by
        unfold sideN turned
        simp [hk]
      rw [e66] at h3
      obtain ⟨q1, q2⟩ := okAt_both hF n (gi (termAt a id).1.args i) ⟨hp.1, by omega⟩ (by omega) h3
      rcases sideN_side (l := l) (t := (termAt a id).1) hs i with e | e | e <;> rw [e] <;> assumption
    exact ⟨(okAt_step hF hr).2 ⟨m 76, kid 76 (.inl rfl)⟩, (okAt_step hF hr).2 ⟨m 82, kid 82 (.inr (.inl rfl))⟩⟩
theorem okAt_any {l : List Sg} {a : Kd} (hF : Fine l a) {id : Int} (hr : 0 ≤ id ∧ id < a.keys.length) (h : okAt l a id 66 = true) {s : Int} (hs : isSide s) : okAt l a id s = true := by
  obtain ⟨q1, q2⟩ := okAt_both hF _ id hr (Nat.lt_succ_self _) h
  rcases hs with rfl | rfl | rfl <;> assumption
theorem okAt_flat {l : List Sg} {a : Kd} (hF : Fine l a) {id : Int} (hr : 0 ≤ id ∧ id < a.keys.length) (hk : (termAt a id).1.kind ≤ 2) (s : Int) : okAt l a id s = true := by
  refine (okAt_step hF hr).2 ⟨?_, fun i hi => ?_⟩
  · unfold sideMay
    rw [if_neg (by omega), if_neg (by omega)]
  · have := (hF.fit hr).2.flat hk
    omega
/-- Both may stand where a pair puts them. -/
def okP (l : List Sg) (a : Kd) (r : Int × Int) : Prop := okAt l a r.1 76 = true ∧ okAt l a r.2 82 = true
def inP (a : Kd) (r : Int × Int) : Prop := (0 ≤ r.1 ∧ r.1 < a.keys.length) ∧ 0 ≤ r.2 ∧ r.2 < a.keys.length
theorem varied_in {a : Kd} {p q : Int} (hp : 0 ≤ p ∧ p < a.keys.length) (hq : 0 ≤ q ∧ q < a.keys.length) (v : Int) : ∀ r ∈ varied p q v, inP a r := by
  intro r hr
  unfold varied at hr
  unfold inP
  split at hr
  · simp at hr; subst hr; exact ⟨hp, hq⟩
  · split at hr
    · simp at hr; subst hr; exact ⟨hq, hp⟩
    · simp at hr; rcases hr with rfl | rfl
      · exact ⟨hp, hq⟩
      · exact ⟨hq, hp⟩
theorem varied_ok {l : List Sg} {a : Kd} (hF : Fine l a) {p q v : Int} (hp : 0 ≤ p ∧ p < a.keys.length) (hq : 0 ≤ q ∧ q < a.keys.length) (h1 : okAt l a p (turned 76 v) = true) (h2 : okAt l a q (turned 82 v) = true) : ∀ r ∈ varied p q v, okP l a r := by
  intro r hr
  unfold varied at hr
  unfold turned at h1 h2
  unfold okP
  split at hr
  · rename_i hv
    simp at hr; subst hr
    simp [hv] at h1 h2
    exact ⟨h1, h2⟩
  · rename_i hv
    split at hr
    · rename_i hv2
      simp at hr; subst hr
      simp [hv2] at h1 h2
      exact ⟨h2, h1⟩
    · rename_i hv2
      simp [hv, hv2] at h1 h2
      have a1 : ∀ s, isSide s → okAt l a p s = true := fun s hs => okAt_any hF hp h1 hs
      have a2 : ∀ s, isSide s → okAt l a q s = true := fun s hs => okAt_any hF hq h2 hs
      simp at hr; rcases hr with rfl | rfl
      · exact ⟨a1 _ (.inl rfl), a2 _ (.inr (.inl rfl))⟩
      · exact ⟨a2 _ (.inl rfl), a1 _ (.inr (.inl rfl))⟩
theorem consL_mem {b : Bo} : ∀ {n : Nat} {r : Int × Int}, r ∈ consL b n → ∃ i : Nat, i < n ∧ r ∈ varied (gi b.s.args i) (gi b.t.args i) (byte (gi b.l b.s.sym).args i)
  | n + 1, r, h => by
    simp only [consL, List.mem_append] at h
    rcases h with h | h
    · obtain ⟨i, hi, hr⟩ := consL_mem h
      exact ⟨i, by omega, hr⟩
    · exact ⟨n, by omega, h⟩
theorem stepOf_law {l : List Sg} {a : Kd} (hF : Fine l a) (x y : Int) :
    (∀ r ∈ (stepOf l a x y).2, inP a r ∧ (sided l a x 76 = true → sided l a y 82 = true → okP l a r)) ∧ (0 ≤ (stepOf l a x y).1 ∧ (stepOf l a x y).1 ≤ 3) ∧ ((stepOf l a x y).1 = 1 ∨ (stepOf l a x y).2 = []) := by
  unfold stepOf
  split
  · rename_i h
    obtain ⟨h1, h2⟩ := h
    have rx := termAt_range h1
    have ry := termAt_range h2
    have fx := (hF.fit rx).2
    have fy := (hF.fit ry).2
    have sx : sided l a x 76 = okAt l a x 76 := by simp [sided, h1, nside]
    have sy : sided l a y 82 = okAt l a y 82 := by simp [sided, h2, nside]
    rw [sx, sy]
    have px : ∀ i : Nat, i < (termAt a x).1.args.length → 0 ≤ gi (termAt a x).1.args i ∧ gi (termAt a x).1.args i < a.keys.length := fun i hi => by have := fx.parts i hi; omega
    have py : ∀ i : Nat, i < (termAt a y).1.args.length → 0 ≤ gi (termAt a y).1.args i ∧ gi (termAt a y).1.args i < a.keys.length := fun i hi => by have := fy.parts i hi; omega
    unfold stepWay
    simp only
    split
    · simp
    split
    · rename_i hk
      have hl := fx.two (.inl hk)
      refine ⟨?_, by simp, by simp⟩
      intro r hr
      have p0 := px 0 (by omega)
      have p1 := px 1 (by omega)
      have key : ∀ i : Nat, i < 2 → okAt l a x 76 = true → okAt l a (gi (termAt a x).1.args i) 76 = true := fun i hi h => by
        have := ((okAt_step hF rx).1 h).2 i (by omega)
        simpa [sideN, hk] using this
      simp at hr
      rcases hr with rfl | rfl
      · exact ⟨⟨p0, ry⟩, fun q1 q2 => ⟨key 0 (by omega) q1, q2⟩⟩
      · exact ⟨⟨p1, ry⟩, fun q1 q2 => ⟨key 1 (by omega) q1, q2⟩⟩
    split
    · rename_i hk
      have hl := fy.two (.inr hk)
      refine ⟨?_, by simp, by simp⟩
      intro r hr
      have p0 := py 0 (by omega)
      have p1 := py 1 (by omega)
      have key : ∀ i : Nat, i < 2 → okAt l a y 82 = true → okAt l a (gi (termAt a y).1.args i) 82 = true := fun i hi h => by
        have := ((okAt_step hF ry).1 h).2 i (by omega)
        simpa [sideN, hk] using this
      simp at hr
      rcases hr with rfl | rfl
      · exact ⟨⟨rx, p0⟩, fun q1 q2 => ⟨q1, key 0 (by omega) q2⟩⟩
      · exact ⟨⟨rx, p1⟩, fun q1 q2 => ⟨q1, key 1 (by omega) q2⟩⟩
    split
    · simp
    split
    · rename_i hk
      obtain ⟨q1, q2, q3⟩ := fy.proj hk
      have pe := py 0 (by omega)
      have ke : okAt l a y 82 = true → okAt l a (gi (termAt a y).1.args 0) (turned 82 (byte (gi l (termAt a y).1.sym).args (termAt a y).1.part)) = true := fun h => by
        have := ((okAt_step hF ry).1 h).2 0 (by omega)
        simpa [sideN, hk] using this
      unfold takesWay
      simp only
      split
      · rename_i hs
        have r1 : (0 : Int) ≤ 1 ∧ (1 : Int) < a.keys.length := by have := hF.two; omega
        have r0 : (0 : Int) ≤ 0 ∧ (0 : Int) < a.keys.length := by have := hF.two; omega
        have o1 : ∀ s, okAt l a 1 s = true := okAt_flat hF r1 (by rw [hF.one]; omega)
        have o0 : ∀ s, okAt l a 0 s = true := okAt_flat hF r0 (by rw [hF.zero]; omega)
        refine ⟨?_, by simp, by simp⟩
        intro r hr
        generalize byte (gi l (termAt a y).1.sym).args (termAt a y).1.part = v at *
        have pe : 0 ≤ gi (termAt a y).1.args 0 ∧ gi (termAt a y).1.args 0 < a.keys.length := pe
        split at hr
        · rename_i hv
          simp at hr; subst hr
          refine ⟨⟨r1, pe⟩, fun _ h => ⟨o1 _, ?_⟩⟩
          have := ke h
          simpa [turned, hv] using this
        · rename_i hv
          split at hr
          · rename_i hv2
            simp at hr; subst hr
            refine ⟨⟨pe, r0⟩, fun _ h => ⟨?_, o0 _⟩⟩
            have := ke h
            simpa [turned, hv2] using this
          · rename_i hv2
            have kk : okAt l a y 82 = true → okAt l a (gi (termAt a y).1.args 0) 66 = true := fun h => by
              have := ke h
              simpa [turned, hv, hv2] using this
            simp at hr
            rcases hr with rfl | rfl
            · exact ⟨⟨r1, pe⟩, fun _ h => ⟨o1 _, okAt_any hF pe (kk h) (.inr (.inl rfl))⟩⟩
            · exact ⟨⟨pe, r0⟩, fun _ h => ⟨okAt_any hF pe (kk h) (.inl rfl), o0 _⟩⟩
      split
      · rename_i hs
        obtain ⟨k3, ks⟩ := hs
        have hc := fx.con k3
        have hpl : (termAt a y).1.part.toNat < (termAt a x).1.args.length := by rw [hc.2, ks]; omega
        have ee : (((termAt a y).1.part.toNat : Nat) : Int) = (termAt a y).1.part := Int.toNat_of_nonneg q2.1
        have pp := px (termAt a y).1.part.toNat hpl
        rw [ee] at pp
        refine ⟨fun r hr => ⟨varied_in pp pe _ r hr, fun h1 h2 => varied_ok hF pp pe ?_ (ke h2) r hr⟩, by simp, by simp⟩
        have := ((okAt_step hF rx).1 h1).2 (termAt a y).1.part.toNat hpl
        rw [ee] at this
        simpa [sideN, k3, ks] using this
      · simp
    split
    · rename_i hk
      obtain ⟨k1, k2, k3⟩ := hk
      have c1 := fx.con k1
      have c2 := fy.con k2
      refine ⟨fun r hr => ?_, by simp, by simp⟩
      obtain ⟨i, hi, hr⟩ := consL_mem hr
      simp only at hi hr
      have hiy : i < (termAt a y).1.args.length := by rw [c2.2, ← k3, ← c1.2]; exact hi
      refine ⟨varied_in (px i hi) (py i hiy) _ r hr, fun h1 h2 => varied_ok hF (px i hi) (py i hiy) ?_ ?_ r hr⟩
      · have := ((okAt_step hF rx).1 h1).2 i hi
        simpa [sideN, k1] using this
      · have := ((okAt_step hF ry).1 h2).2 i hiy
        simpa [sideN, k2, k3] using this
    split
    · simp
    · simp
  · simp
end Go.AM

namespace Go.AM
open Go.Proofs
set_option maxRecDepth 100000
set_option linter.unusedVariables false
set_option linter.unusedSimpArgs false
/-! ### The document's example; the law of StepSides -/
def L0 : List Sg := [⟨⟨#[99]⟩, ⟨#[43]⟩⟩]
def K0 : List (List Int) := [[0, 0, 0], [1, 0, 0], [2, 0, 0], [3, 0, 0, 2], [3, 0, 0, 1]]
theorem fine0 (s : List Int) : Fine L0 ⟨K0, s⟩ := by
  refine ⟨Nat.le_of_ble_eq_true rfl, fun i hi => ?_, fun i => ?_, Nat.le_of_ble_eq_true rfl, rfl, rfl⟩
  · have : i < 5 := hi
    match i, this with
    | 0, _ => exact ⟨rfl, mayBe_fit (show mayBe L0 0 ⟨0, 0, 0, []⟩ = true by decide)⟩
    | 1, _ => exact ⟨rfl, mayBe_fit (show mayBe L0 1 ⟨1, 0, 0, []⟩ = true by decide)⟩
    | 2, _ => exact ⟨rfl, mayBe_fit (show mayBe L0 2 ⟨2, 0, 0, []⟩ = true by decide)⟩
    | 3, _ => exact ⟨rfl, mayBe_fit (show mayBe L0 3 ⟨3, 0, 0, [2]⟩ = true by decide)⟩
    | 4, _ => exact ⟨rfl, mayBe_fit (show mayBe L0 4 ⟨3, 0, 0, [1]⟩ = true by decide)⟩
  · unfold gi
    cases i.toNat with
    | zero => exact Nat.le_of_ble_eq_true rfl
    | succ n => exact Nat.le_of_ble_eq_true rfl
theorem c9_ok : cFn Try.prog an0 Try.f9 = some c9 := by kernel_rfl
theorem shown_PF : PF Try.prog 9 [] (.bool true) := by
  refine PFk 9 hm Try.func9 c9_ok (Nat.le_of_ble_eq_true rfl) (by simp) (by simp) ?_
  simp (maxSteps := 3000000) [-List.length_flatten, -List.map_drop, -List.map_take, Function.comp_def, argsT, Opd.ev, Tm.get, put, ares, mapMo, ares1, snilP, bldParts, bslParts, putAt, AV.cells, AV.one, astore, aload, loadCs, callArgs, abin, abinInt, aapp, elems, appMore, appNone, preLen, aFa, aFld, apart, aExt, aPick, aNot, aLens, aEqa, cellsK, fitsA, LK.fitsA, leavesA, leafA, nilD, aNilc, aCint, aCid, alive, alen, alenOk, Rle, lePs, len_flat, c9]
  refine FT.dcl 9 ?_
  refine PF.call (lay_PF K0 (Nat.le_of_ble_eq_true rfl)) 9 (by simp [lePs, dcl, K0]) ?_
  generalize lay K0 = s
  have e34 := step_PF (fine0 s) 3 4
  have e23 := step_PF (fine0 s) 2 3
  have e13 := step_PF (fine0 s) 1 3
  have e3 := sided_PF (fine0 s) 3 76
  rw [show stepOf L0 ⟨K0, s⟩ 3 4 = (1, [(2, 1)]) from rfl] at e34
  rw [show stepOf L0 ⟨K0, s⟩ 2 3 = (2, []) from rfl] at e23
  rw [show stepOf L0 ⟨K0, s⟩ 1 3 = (3, []) from rfl] at e13
  rw [show sided L0 ⟨K0, s⟩ 3 76 = true from rfl] at e3
  simp (maxSteps := 3000000) [-List.length_flatten, -List.map_drop, -List.map_take, Function.comp_def, argsT, Opd.ev, Tm.get, put, ares, mapMo, ares1, snilP, bldParts, bslParts, putAt, AV.cells, AV.one, astore, aload, loadCs, callArgs, abin, abinInt, aapp, elems, appMore, appNone, preLen, aFa, aFld, apart, aExt, aPick, aNot, aLens, aEqa, cellsK, fitsA, LK.fitsA, leavesA, leafA, nilD, aNilc, aCint, aCid, alive, alen, alenOk, Rle, lePs, len_flat, Kc]
  refine FT.dcl 9 ?_
  refine PF.call e34 9 (by simp [lePs, dcl, K0, L0]) ?_
  have hg : gi [((2 : Int), (1 : Int))] 0 = (2, 1) := rfl
  simp (maxSteps := 3000000) [-List.length_flatten, -List.map_drop, -List.map_take, Function.comp_def, argsT, Opd.ev, Tm.get, put, ares, mapMo, ares1, snilP, bldParts, bslParts, putAt, AV.cells, AV.one, astore, aload, loadCs, callArgs, abin, abinInt, aapp, elems, appMore, appNone, preLen, aFa, aFld, apart, aExt, aPick, aNot, aLens, aEqa, cellsK, fitsA, LK.fitsA, leavesA, leafA, nilD, aNilc, aCint, aCid, alive, alen, alenOk, Rle, lePs, len_flat, Kc, hg]
  intro _
  refine FT.dcl 9 ?_
  refine PF.call e23 9 (by simp [lePs, dcl, K0, L0]) ?_
  simp (maxSteps := 3000000) [-List.length_flatten, -List.map_drop, -List.map_take, Function.comp_def, argsT, Opd.ev, Tm.get, put, ares, mapMo, ares1, snilP, bldParts, bslParts, putAt, AV.cells, AV.one, astore, aload, loadCs, callArgs, abin, abinInt, aapp, elems, appMore, appNone, preLen, aFa, aFld, apart, aExt, aPick, aNot, aLens, aEqa, cellsK, fitsA, LK.fitsA, leavesA, leafA, nilD, aNilc, aCint, aCid, alive, alen, alenOk, Rle, lePs, len_flat, Kc]
  refine FT.dcl 9 ?_
  refine PF.call e13 9 (by simp [lePs, dcl, K0, L0]) ?_
  simp (maxSteps := 3000000) [-List.length_flatten, -List.map_drop, -List.map_take, Function.comp_def, argsT, Opd.ev, Tm.get, put, ares, mapMo, ares1, snilP, bldParts, bslParts, putAt, AV.cells, AV.one, astore, aload, loadCs, callArgs, abin, abinInt, aapp, elems, appMore, appNone, preLen, aFa, aFld, apart, aExt, aPick, aNot, aLens, aEqa, cellsK, fitsA, LK.fitsA, leavesA, leafA, nilD, aNilc, aCint, aCid, alive, alen, alenOk, Rle, lePs, len_flat, Kc]
  refine FT.dcl 9 ?_
  refine PF.call e3 9 (by simp [lePs, dcl, K0, L0]) ?_
  simp (maxSteps := 3000000) [-List.length_flatten, -List.map_drop, -List.map_take, Function.comp_def, argsT, Opd.ev, Tm.get, put, ares, mapMo, ares1, snilP, bldParts, bslParts, putAt, AV.cells, AV.one, astore, aload, loadCs, callArgs, abin, abinInt, aapp, elems, appMore, appNone, preLen, aFa, aFld, apart, aExt, aPick, aNot, aLens, aEqa, cellsK, fitsA, LK.fitsA, leavesA, leafA, nilD, aNilc, aCint, aCid, alive, alen, alenOk, Rle, lePs, len_flat, Kc]
theorem c3_ok : cFn Try.prog an0 Try.f3 = some c3 := by kernel_rfl
theorem law3_PF (l : List Sg) (a : Kd) (x y : Int) (hs : ∀ i : Nat, i < l.length → (gi l i).args.size ≤ maxA) (hk : a.keys.length ≤ 1048576) (hks : ∀ i : Nat, i < a.keys.length → (gi a.keys i).length ≤ maxA) :
    PF Try.prog 3 [.agg ([sigs l] ++ a.cs ++ [i64 x, i64 y])] (.bool true) := by
  refine PFk 9 hm Try.func3 c3_ok (Nat.le_of_ble_eq_true rfl) (by simp) (by simp) ?_
  simp (maxSteps := 3000000) [-List.length_flatten, -List.map_drop, -List.map_take, Function.comp_def, argsT, Opd.ev, Tm.get, put, ares, mapMo, ares1, snilP, bldParts, bslParts, putAt, AV.cells, AV.one, astore, aload, loadCs, callArgs, abin, abinInt, aapp, elems, appMore, appNone, preLen, aFa, aFld, apart, aExt, aPick, aNot, aLens, aEqa, cellsK, fitsA, LK.fitsA, leavesA, leafA, nilD, aNilc, aCint, aCid, alive, alen, alenOk, Rle, lePs, len_flat, c3]
  refine PF.call shown_PF 9 (by simp [lePs]) ?_
  simp (maxSteps := 3000000) [-List.length_flatten, -List.map_drop, -List.map_take, Function.comp_def, argsT, Opd.ev, Tm.get, put, ares, mapMo, ares1, snilP, bldParts, bslParts, putAt, AV.cells, AV.one, astore, aload, loadCs, callArgs, abin, abinInt, aapp, elems, appMore, appNone, preLen, aFa, aFld, apart, aExt, aPick, aNot, aLens, aEqa, cellsK, fitsA, LK.fitsA, leavesA, leafA, nilD, aNilc, aCint, aCid, alive, alen, alenOk, Rle, lePs, len_flat, Kc]
  refine PF.call (of10_PF l a hs hk hks) 9 (by simp [lePs]) ?_
  by_cases ho : ofOk l a = true
  · have hF := ofOk_fine ho
    obtain ⟨w1, w2, w3⟩ := stepOf_law hF x y
    have hst := step_PF hF x y
    generalize stepOf l a x y = w at *
    obtain ⟨wk, wp⟩ := w
    simp (maxSteps := 3000000) [-List.length_flatten, -List.map_drop, -List.map_take, Function.comp_def, argsT, Opd.ev, Tm.get, put, ares, mapMo, ares1, snilP, bldParts, bslParts, putAt, AV.cells, AV.one, astore, aload, loadCs, callArgs, abin, abinInt, aapp, elems, appMore, appNone, preLen, aFa, aFld, apart, aExt, aPick, aNot, aLens, aEqa, cellsK, fitsA, LK.fitsA, leavesA, leafA, nilD, aNilc, aCint, aCid, alive, alen, alenOk, Rle, lePs, len_flat, Kc, ho]
    refine PF.call hst 9 (by simp [lePs]) ?_
    simp (maxSteps := 3000000) [-List.length_flatten, -List.map_drop, -List.map_take, Function.comp_def, argsT, Opd.ev, Tm.get, put, ares, mapMo, ares1, snilP, bldParts, bslParts, putAt, AV.cells, AV.one, astore, aload, loadCs, callArgs, abin, abinInt, aapp, elems, appMore, appNone, preLen, aFa, aFld, apart, aExt, aPick, aNot, aLens, aEqa, cellsK, fitsA, LK.fitsA, leavesA, leafA, nilD, aNilc, aCint, aCid, alive, alen, alenOk, Rle, lePs, len_flat, Kc]
    refine PF.call (sided_PF hF x 76) 9 (by simp [lePs]) ?_
    by_cases hx : sided l a x 76 = true
    · simp (maxSteps := 3000000) [-List.length_flatten, -List.map_drop, -List.map_take, Function.comp_def, argsT, Opd.ev, Tm.get, put, ares, mapMo, ares1, snilP, bldParts, bslParts, putAt, AV.cells, AV.one, astore, aload, loadCs, callArgs, abin, abinInt, aapp, elems, appMore, appNone, preLen, aFa, aFld, apart, aExt, aPick, aNot, aLens, aEqa, cellsK, fitsA, LK.fitsA, leavesA, leafA, nilD, aNilc, aCint, aCid, alive, alen, alenOk, Rle, lePs, len_flat, Kc, hx]
      refine PF.call (sided_PF hF y 82) 9 (by simp [lePs]) ?_
      simp (maxSteps := 3000000) [-List.length_flatten, -List.map_drop, -List.map_take, Function.comp_def, argsT, Opd.ev, Tm.get, put, ares, mapMo, ares1, snilP, bldParts, bslParts, putAt, AV.cells, AV.one, astore, aload, loadCs, callArgs, abin, abinInt, aapp, elems, appMore, appNone, preLen, aFa, aFld, apart, aExt, aPick, aNot, aLens, aEqa, cellsK, fitsA, LK.fitsA, leavesA, leafA, nilD, aNilc, aCint, aCid, alive, alen, alenOk, Rle, lePs, len_flat, Kc]
      have w1' : ∀ i : Nat, i < wp.length → inP a (gi wp i) ∧ (sided l a y 82 = true → okP l a (gi wp i)) := fun i hi => by
        have := w1 (gi wp i) (by simp [gi, List.getD, hi])
        exact ⟨this.1, fun h => this.2 hx h⟩
      refine run_count wp.length 10 [(9, .bool (sided l a y 82)), (8, .ptr 2 0 0), (7, .bool true), (4, .ptr 1 0 0), (3, sigs l)] [.cells 0 ([sigs l] ++ a.cs ++ [i64 x, i64 y]), .cells 0 a.cs, .cells 0 [i64 wk, prs wp]] (fun i => True)
        (Wk.tell 3 (by omega) (by simp [Tm.get]) (by simp) rfl (by simp only [al_cons, al_nil, and_true]; exact ⟨by simp [RLB], by simp [RLB], by simp only [RLB, List.mem_cons, List.not_mem_nil, or_false, forall_eq_or_imp, forall_eq]; exact ⟨by simp, prs_RL _ _⟩⟩)) trivial ?_
      intro i hi _
      simp (maxSteps := 3000000) [-List.length_flatten, -List.map_drop, -List.map_take, Function.comp_def, argsT, Opd.ev, Tm.get, put, ares, mapMo, ares1, snilP, bldParts, bslParts, putAt, AV.cells, AV.one, astore, aload, loadCs, callArgs, abin, abinInt, aapp, elems, appMore, appNone, preLen, aFa, aFld, apart, aExt, aPick, aNot, aLens, aEqa, cellsK, fitsA, LK.fitsA, leavesA, leafA, nilD, aNilc, aCint, aCid, alive, alen, alenOk, Rle, lePs, len_flat]
      intro hNA
      refine ⟨fun h => ?_, fun h => ?_⟩
      · obtain ⟨⟨⟨p1, p2⟩, q1, q2⟩, hok⟩ := w1' i h
        have n1 : ¬ (gi wp i).1 < 0 := by omega
        have n2 : ¬ (a.keys.length : Int) ≤ (gi wp i).1 := by omega
        have n3 : ¬ (gi wp i).2 < 0 := by omega
        have n4 : ¬ (a.keys.length : Int) ≤ (gi wp i).2 := by omega
        by_cases hy : sided l a y 82 = true
        · obtain ⟨o1, o2⟩ := hok hy
          have s1 : sided l a (gi wp i).1 76 = true := by simp [sided, nside, (hF.fit ⟨p1, p2⟩).1, o1]
          have s2 : sided l a (gi wp i).2 82 = true := by simp [sided, nside, (hF.fit ⟨q1, q2⟩).1, o2]
          simp (maxSteps := 3000000) [-List.length_flatten, -List.map_drop, -List.map_take, Function.comp_def, argsT, Opd.ev, Tm.get, put, ares, mapMo, ares1, snilP, bldParts, bslParts, putAt, AV.cells, AV.one, astore, aload, loadCs, callArgs, abin, abinInt, aapp, elems, appMore, appNone, preLen, aFa, aFld, apart, aExt, aPick, aNot, aLens, aEqa, cellsK, fitsA, LK.fitsA, leavesA, leafA, nilD, aNilc, aCint, aCid, alive, alen, alenOk, Rle, lePs, len_flat, aIarr, n1, n2, n3, n4, hy, h]
          intro _
          refine PF.call (sided_PF hF (gi wp i).1 76) 9 (by simp [lePs]) ?_
          simp (maxSteps := 3000000) [-List.length_flatten, -List.map_drop, -List.map_take, Function.comp_def, argsT, Opd.ev, Tm.get, put, ares, mapMo, ares1, snilP, bldParts, bslParts, putAt, AV.cells, AV.one, astore, aload, loadCs, callArgs, abin, abinInt, aapp, elems, appMore, appNone, preLen, aFa, aFld, apart, aExt, aPick, aNot, aLens, aEqa, cellsK, fitsA, LK.fitsA, leavesA, leafA, nilD, aNilc, aCint, aCid, alive, alen, alenOk, Rle, lePs, len_flat, Kc, s1]
          refine PF.call (sided_PF hF (gi wp i).2 82) 9 (by simp [lePs]) ?_
          simp (maxSteps := 3000000) [-List.length_flatten, -List.map_drop, -List.map_take, Function.comp_def, argsT, Opd.ev, Tm.get, put, ares, mapMo, ares1, snilP, bldParts, bslParts, putAt, AV.cells, AV.one, astore, aload, loadCs, callArgs, abin, abinInt, aapp, elems, appMore, appNone, preLen, aFa, aFld, apart, aExt, aPick, aNot, aLens, aEqa, cellsK, fitsA, LK.fitsA, leavesA, leafA, nilD, aNilc, aCint, aCid, alive, alen, alenOk, Rle, lePs, len_flat, Kc, s2]
          exact Kn_next 3 (by omega) (by omega) trivial (by simp [Tm.get, nxt h hNA]) (by simp) rfl (by simp only [al_cons, al_nil, and_true]; exact ⟨by simp [RLB], by simp [RLB], by simp only [RLB, List.mem_cons, List.not_mem_nil, or_false, forall_eq_or_imp, forall_eq]; exact ⟨by simp, prs_RL _ _⟩⟩)
        · simp (maxSteps := 3000000) [-List.length_flatten, -List.map_drop, -List.map_take, Function.comp_def, argsT, Opd.ev, Tm.get, put, ares, mapMo, ares1, snilP, bldParts, bslParts, putAt, AV.cells, AV.one, astore, aload, loadCs, callArgs, abin, abinInt, aapp, elems, appMore, appNone, preLen, aFa, aFld, apart, aExt, aPick, aNot, aLens, aEqa, cellsK, fitsA, LK.fitsA, leavesA, leafA, nilD, aNilc, aCint, aCid, alive, alen, alenOk, Rle, lePs, len_flat, aIarr, n1, n2, n3, n4, hy, h]
          intro _
          exact Kn_next 3 (by omega) (by omega) trivial (by simp [Tm.get, nxt h hNA]) (by simp) rfl (by simp only [al_cons, al_nil, and_true]; exact ⟨by simp [RLB], by simp [RLB], by simp only [RLB, List.mem_cons, List.not_mem_nil, or_false, forall_eq_or_imp, forall_eq]; exact ⟨by simp, prs_RL _ _⟩⟩)
      · skip
        have e1 : wk = 1 ∨ wp = [] := w3
        have e2 : 0 ≤ wk ∧ wk ≤ 3 := w2
        refine ⟨fun _ => ⟨fun _ h1 _ => e1.resolve_left h1, e2.2⟩, e2.1⟩
    · have hx' : sided l a x 76 = false := by simpa using hx
      simp (maxSteps := 3000000) [-List.length_flatten, -List.map_drop, -List.map_take, Function.comp_def, argsT, Opd.ev, Tm.get, put, ares, mapMo, ares1, snilP, bldParts, bslParts, putAt, AV.cells, AV.one, astore, aload, loadCs, callArgs, abin, abinInt, aapp, elems, appMore, appNone, preLen, aFa, aFld, apart, aExt, aPick, aNot, aLens, aEqa, cellsK, fitsA, LK.fitsA, leavesA, leafA, nilD, aNilc, aCint, aCid, alive, alen, alenOk, Rle, lePs, len_flat, Kc, hx']
      have w1' : ∀ i : Nat, i < wp.length → inP a (gi wp i) ∧ (false = true → okP l a (gi wp i)) := fun i hi => by
        have := w1 (gi wp i) (by simp [gi, List.getD, hi])
        exact ⟨this.1, fun h => this.2 (by cases h) (by cases h)⟩
      refine run_count wp.length 10 [(9, .bool false), (8, .ptr 2 0 0), (7, .bool true), (4, .ptr 1 0 0), (3, sigs l)] [.cells 0 ([sigs l] ++ a.cs ++ [i64 x, i64 y]), .cells 0 a.cs, .cells 0 [i64 wk, prs wp]] (fun i => True)
        (Wk.tell 3 (by omega) (by simp [Tm.get]) (by simp) rfl (by simp only [al_cons, al_nil, and_true]; exact ⟨by simp [RLB], by simp [RLB], by simp only [RLB, List.mem_cons, List.not_mem_nil, or_false, forall_eq_or_imp, forall_eq]; exact ⟨by simp, prs_RL _ _⟩⟩)) trivial ?_
      intro i hi _
      simp (maxSteps := 3000000) [-List.length_flatten, -List.map_drop, -List.map_take, Function.comp_def, argsT, Opd.ev, Tm.get, put, ares, mapMo, ares1, snilP, bldParts, bslParts, putAt, AV.cells, AV.one, astore, aload, loadCs, callArgs, abin, abinInt, aapp, elems, appMore, appNone, preLen, aFa, aFld, apart, aExt, aPick, aNot, aLens, aEqa, cellsK, fitsA, LK.fitsA, leavesA, leafA, nilD, aNilc, aCint, aCid, alive, alen, alenOk, Rle, lePs, len_flat]
      intro hNA
      refine ⟨fun h => ?_, fun h => ?_⟩
      · obtain ⟨⟨⟨p1, p2⟩, q1, q2⟩, hok⟩ := w1' i h
        have n1 : ¬ (gi wp i).1 < 0 := by omega
        have n2 : ¬ (a.keys.length : Int) ≤ (gi wp i).1 := by omega
        have n3 : ¬ (gi wp i).2 < 0 := by omega
        have n4 : ¬ (a.keys.length : Int) ≤ (gi wp i).2 := by omega
        simp (maxSteps := 3000000) [-List.length_flatten, -List.map_drop, -List.map_take, Function.comp_def, argsT, Opd.ev, Tm.get, put, ares, mapMo, ares1, snilP, bldParts, bslParts, putAt, AV.cells, AV.one, astore, aload, loadCs, callArgs, abin, abinInt, aapp, elems, appMore, appNone, preLen, aFa, aFld, apart, aExt, aPick, aNot, aLens, aEqa, cellsK, fitsA, LK.fitsA, leavesA, leafA, nilD, aNilc, aCint, aCid, alive, alen, alenOk, Rle, lePs, len_flat, aIarr, n1, n2, n3, n4, h]
        intro _
        exact Kn_next 3 (by omega) (by omega) trivial (by simp [Tm.get, nxt h hNA]) (by simp) rfl (by simp only [al_cons, al_nil, and_true]; exact ⟨by simp [RLB], by simp [RLB], by simp only [RLB, List.mem_cons, List.not_mem_nil, or_false, forall_eq_or_imp, forall_eq]; exact ⟨by simp, prs_RL _ _⟩⟩)
      · skip
        have e1 : wk = 1 ∨ wp = [] := w3
        have e2 : 0 ≤ wk ∧ wk ≤ 3 := w2
        refine ⟨fun _ => ⟨fun _ h1 _ => e1.resolve_left h1, e2.2⟩, e2.1⟩
  · simp (maxSteps := 3000000) [-List.length_flatten, -List.map_drop, -List.map_take, Function.comp_def, argsT, Opd.ev, Tm.get, put, ares, mapMo, ares1, snilP, bldParts, bslParts, putAt, AV.cells, AV.one, astore, aload, loadCs, callArgs, abin, abinInt, aapp, elems, appMore, appNone, preLen, aFa, aFld, apart, aExt, aPick, aNot, aLens, aEqa, cellsK, fitsA, LK.fitsA, leavesA, leafA, nilD, aNilc, aCint, aCid, alive, alen, alenOk, Rle, lePs, len_flat, Kc, ho]
end Go.AM
