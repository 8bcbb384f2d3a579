/- Contracts of the program's functions. -/
import Derived.Test.YteobadljolkdcaaGreatDoorG1
import Derived.KernelRfl
namespace Go.AM
open Go.Proofs
set_option maxRecDepth 100000
set_option linter.unusedVariables false
set_option linter.unusedSimpArgs false
attribute [local go_sem] Function.comp_def argsT Opd.ev Tm.get put ares mapMo ares1 snilP bldParts bslParts putAt AV.cells AV.one astore aload loadCs callArgs abin abinInt aapp elems appMore appNone preLen aFa aFld apart aExt aPick aNot aLens aEqa cellsK fitsA LK.fitsA leavesA leafA nilD aNilc aCint aCid alive alen alenOk Rle lePs len_flat
def c94b : AFn := ⟨99, .seq (.reg false [⟨some 4, .box (.tmp 1), none⟩, ⟨some 5, .box (.tmp 2), none⟩, ⟨some 6, .mov (.lit (.bool false)), none⟩]) (.seq (.reg false [⟨some 13, .mkmap, none⟩, ⟨none, .upd false [.int .i64] (.tmp 13) (.lit (.int .i64 0)) (.lit (.int .i64 0)), none⟩, ⟨none, .upd false [.int .i64] (.tmp 13) (.lit (.int .i64 1)) (.lit (.int .i64 0)), none⟩, ⟨none, .upd false [.int .i64] (.tmp 13) (.lit (.int .i64 2)) (.lit (.int .i64 0)), none⟩, ⟨none, .upd false [.int .i64] (.tmp 13) (.lit (.int .i64 4)) (.lit (.int .i64 2)), none⟩, ⟨none, .upd false [.int .i64] (.tmp 13) (.lit (.int .i64 5)) (.lit (.int .i64 2)), none⟩, ⟨none, .upd false [.int .i64] (.tmp 13) (.lit (.int .i64 6)) (.lit (.int .i64 1)), none⟩, ⟨some 14, .mov (.tmp 13), none⟩, ⟨some 7, .mov (.tmp 14), none⟩]) (.seq (.reg false [⟨some 16, .mov (.tmp 7), none⟩, ⟨some 17, .fa 0 (.tmp 5), none⟩, ⟨some 18, .load 1 false (.tmp 17), none⟩, ⟨some 19, .lkp false [.int .i64] (.int .i64 0) (.tmp 16) (.tmp 18) true, none⟩, ⟨some 15, .mov (.tmp 19), none⟩, ⟨some 20, .ext (.tmp 15) 0, none⟩, ⟨some 21, .ext (.tmp 15) 1, none⟩, ⟨some 8, .mov (.tmp 20), none⟩, ⟨some 9, .mov (.tmp 21), none⟩]) (.seq (.seq .mark (.reg false [⟨some 10, .mov (.lit (.int .i64 (-1))), none⟩])) (.seq (.seq (.reg false [⟨some 22, .fa 1 (.tmp 5), none⟩, ⟨some 23, .load 1 false (.tmp 22), none⟩, ⟨some 24, .bin .geq (.tmp 23) (.lit (.int .i64 0)), none⟩, ⟨some 25, .mov (.tmp 24), none⟩, ⟨some 26, .fa 1 (.tmp 5), some ((25, true))⟩, ⟨some 27, .load 1 false (.tmp 26), some ((25, true))⟩, ⟨some 28, .mov (.tmp 0), some ((25, true))⟩, ⟨some 29, .len (.tmp 28), some ((25, true))⟩, ⟨some 30, .bin .lss (.tmp 27) (.tmp 29), some ((25, true))⟩, ⟨some 31, .pick (.tmp 25) (.tmp 30) (.lit (.bool false)), none⟩]) (.cond (.tmp 31) (.reg false [⟨some 32, .mov (.tmp 0), none⟩, ⟨some 33, .fa 1 (.tmp 5), none⟩, ⟨some 34, .load 1 false (.tmp 33), none⟩, ⟨some 35, .ia 2 (.tmp 32) (.tmp 34), none⟩, ⟨some 36, .fa 1 (.tmp 35), none⟩, ⟨some 37, .load 1 false (.tmp 36), none⟩, ⟨some 38, .lens (.tmp 37), none⟩, ⟨some 10, .mov (.tmp 38), none⟩]) .skip)) (.seq (.seq .mark (.reg false [⟨some 39, .fa 1 (.tmp 5), none⟩, ⟨some 40, .load 1 false (.tmp 39), none⟩, ⟨some 41, .bin .eql (.tmp 40) (.lit (.int .i64 0)), none⟩, ⟨some 42, .mov (.tmp 41), none⟩, ⟨some 43, .fa 2 (.tmp 5), some ((42, true))⟩, ⟨some 44, .load 1 false (.tmp 43), some ((42, true))⟩, ⟨some 45, .bin .eql (.tmp 44) (.lit (.int .i64 0)), some ((42, true))⟩, ⟨some 46, .pick (.tmp 42) (.tmp 45) (.lit (.bool false)), none⟩, ⟨some 11, .mov (.tmp 46), none⟩])) (.seq (.seq (.reg false [⟨some 47, .fa 0 (.tmp 5), none⟩, ⟨some 48, .load 1 false (.tmp 47), none⟩]) (.block 0 (.seq (.reg false [⟨some 50, .bin .eql (.tmp 48) (.lit (.int .i64 2)), none⟩, ⟨some 49, .mov (.tmp 50), none⟩]) (.cond (.tmp 49) (.reg false [⟨some 51, .fa 1 (.tmp 5), none⟩, ⟨some 52, .load 1 false (.tmp 51), none⟩, ⟨some 53, .bin .geq (.tmp 52) (.lit (.int .i64 0)), none⟩, ⟨some 54, .mov (.tmp 53), none⟩, ⟨some 55, .fa 2 (.tmp 5), some ((54, true))⟩, ⟨some 56, .load 1 false (.tmp 55), some ((54, true))⟩, ⟨some 57, .bin .eql (.tmp 56) (.lit (.int .i64 0)), some ((54, true))⟩, ⟨some 58, .pick (.tmp 54) (.tmp 57) (.lit (.bool false)), none⟩, ⟨some 11, .mov (.tmp 58), none⟩]) (.seq (.reg false [⟨some 60, .bin .eql (.tmp 48) (.lit (.int .i64 3)), none⟩, ⟨some 59, .mov (.tmp 60), none⟩]) (.cond (.tmp 59) (.reg true [⟨some 61, .mov (.tmp 10), none⟩, ⟨some 62, .mov (.tmp 10), none⟩, ⟨some 63, .bin .geq (.tmp 62) (.lit (.int .i64 0)), none⟩, ⟨some 64, .mov (.tmp 63), none⟩, ⟨some 65, .fa 2 (.tmp 5), some ((64, true))⟩, ⟨some 66, .load 1 false (.tmp 65), some ((64, true))⟩, ⟨some 67, .bin .eql (.tmp 66) (.lit (.int .i64 0)), some ((64, true))⟩, ⟨some 68, .pick (.tmp 64) (.tmp 67) (.lit (.bool false)), none⟩, ⟨some 8, .mov (.tmp 61), none⟩, ⟨some 9, .mov (.lit (.bool true)), none⟩, ⟨some 11, .mov (.tmp 68), none⟩]) (.seq (.reg false [⟨some 70, .bin .eql (.tmp 48) (.lit (.int .i64 6)), none⟩, ⟨some 69, .mov (.tmp 70), none⟩]) (.cond (.tmp 69) (.reg false [⟨some 71, .fa 2 (.tmp 5), none⟩, ⟨some 72, .load 1 false (.tmp 71), none⟩, ⟨some 73, .bin .geq (.tmp 72) (.lit (.int .i64 0)), none⟩, ⟨some 74, .mov (.tmp 73), none⟩, ⟨some 75, .fa 2 (.tmp 5), some ((74, true))⟩, ⟨some 76, .load 1 false (.tmp 75), some ((74, true))⟩, ⟨some 77, .mov (.tmp 10), some ((74, true))⟩, ⟨some 78, .bin .lss (.tmp 76) (.tmp 77), some ((74, true))⟩, ⟨some 79, .pick (.tmp 74) (.tmp 78) (.lit (.bool false)), none⟩, ⟨some 11, .mov (.tmp 79), none⟩]) .skip)))))))) (.seq (.seq .mark (.reg false [⟨some 80, .mkfn (.func 107) [] [.tmp 4], none⟩, ⟨some 12, .mov (.tmp 80), none⟩])) (.seq (.reg false [⟨some 81, .mov (.tmp 9), none⟩, ⟨some 82, .mov (.tmp 81), none⟩, ⟨some 83, .mov (.tmp 11), some ((82, true))⟩, ⟨some 84, .pick (.tmp 82) (.tmp 83) (.lit (.bool false)), none⟩, ⟨some 85, .mov (.tmp 84), none⟩, ⟨some 86, .fa 3 (.tmp 5), some ((85, true))⟩, ⟨some 87, .load 1 false (.tmp 86), some ((85, true))⟩, ⟨some 88, .len (.tmp 87), some ((85, true))⟩, ⟨some 89, .mov (.tmp 8), some ((85, true))⟩, ⟨some 90, .bin .eql (.tmp 88) (.tmp 89), some ((85, true))⟩, ⟨some 91, .pick (.tmp 85) (.tmp 90) (.lit (.bool false)), none⟩, ⟨some 92, .mov (.tmp 91), none⟩, ⟨some 93, .fa 3 (.tmp 5), some ((92, true))⟩, ⟨some 94, .load 1 false (.tmp 93), some ((92, true))⟩, ⟨some 95, .mov (.tmp 12), some ((92, true))⟩, ⟨some 96, .call (.lit (.fn (.func 108) [] [])) [.tmp 94, .tmp 95], some ((92, true))⟩, ⟨some 97, .not (.tmp 96), some ((92, true))⟩, ⟨some 98, .pick (.tmp 92) (.tmp 97) (.lit (.bool false)), none⟩, ⟨some 6, .mov (.tmp 98), none⟩]) .ret)))))))), [.tmp 6]⟩

def oddB (many x : Int) : Bool := decide (x < 0) || decide (many ≤ x)
/-- A call that only reads the heap, behind more blocks. -/
theorem FT.more {P : Program} {f : FuncId} {vs : List AV} {H : AHeap} {r : AV} (h : FT P f vs H (fun rv H' => rv = r ∧ H' = H)) (has : al (RL H.length) vs) (hH : ∀ b ∈ H, RLB H.length b) (X : AHeap) : FT P f vs (H ++ X) (fun rv H' => rv = r ∧ H' = H ++ X) :=
 (h.tail (fun rv H' h => by rw [h.2]) (al_mem has) hH).mono (by rintro rv H' ⟨H1, ⟨rfl, rfl⟩, rfl⟩; exact ⟨rfl, rfl⟩)
def an94 : An := ⟨[], [3, 6, 14]⟩
theorem c107_ok : cFn Tryz.prog an0 Tryz.f107 = some c107 := by kernel_rfl
theorem odd_FT (x many : Int) (j g : Nat) (H : AHeap) (hH : H[j]? = some (.cells g [i64 many])) (hR : ∀ b ∈ H, RLB H.length b) : FT Tryz.prog 107 [i64 x, .ptr j g 0] H (fun rv H' => rv = .bool (oddB many x) ∧ H' = H) := by
 refine FTt hm Tryz.func107 c107_ok (Nat.le_of_ble_eq_true rfl) ?_
 by_cases h : x < 0
 ·simp (maxSteps := 3000000) [go_sem,-List.length_flatten,-List.map_drop,-List.map_take, c107, hH, h]
  exact ⟨hR, by simp [oddB, h]⟩
 ·simp (maxSteps := 3000000) [go_sem,-List.length_flatten,-List.map_drop,-List.map_take, c107, hH, h]
  exact ⟨hR, by simp [oddB, h]⟩
theorem c116_ok : cFn Tryz.prog an0 Tryz.f116 = some c116 := by kernel_rfl
theorem index116_FT (l : List Int) (many : Int) (j g : Nat) (H : AHeap) (hH : H[j]? = some (.cells g [i64 many])) (hR : ∀ b ∈ H, RLB H.length b) :
  FT Tryz.prog 116 [ints l, .fn (.func 107) [] [.ptr j g 0]] H (fun rv H' => rv = i64 (fstAt (oddB many) l) ∧ H' = H) := by
 refine FTk hm Tryz.func116 c116_ok (Nat.le_of_ble_eq_true rfl) ?_
 have hj := lt_of_get hH
 simp (maxSteps := 3000000) [go_sem,-List.length_flatten,-List.map_drop,-List.map_take, c116]
 intro ha
 refine run_countK l.length 8 [(7, i64 l.length), (0, ints l), (1, .fn (.func 107) [] [.ptr j g 0])] H (fun i => ∀ k : Nat, k < i → oddB many (gi l k) = false)
  (Wk.to H.length (by omega) (by simp [Tm.get]) (by simp [hj]) (by simp) hR) (fun j hj => by omega) ?_
 intro i hi hjj KK kx kr kn
 by_cases h : i < l.length
 ·simp (maxSteps := 3000000) [go_sem,-List.length_flatten,-List.map_drop,-List.map_take, h]
  refine FT.mono (odd_FT (gi l i) many j g H hH hR) ?_
  rintro rv H' ⟨rfl, rfl⟩
  by_cases hin : oddB many (gi l i) = true
  ·simp (maxSteps := 3000000) [go_sem,-List.length_flatten,-List.map_drop,-List.map_take, Kc, hin, kr]
   exact (fstAt_some h hin (fun k hl => hjj k hl)).symm
  ·simp (maxSteps := 3000000) [go_sem,-List.length_flatten,-List.map_drop,-List.map_take, Kc, hin]
   refine kn _ _ ⟨by omega, fun k hl => ?_, Wk.to (List.length H') (by omega) (by simp [Tm.get, nxt h ha]) (by simp [hj]) (by simp) hR⟩
   rcases Nat.lt_or_ge k i with h3 | h3
   ·exact hjj k h3
   ·have : k = i := by omega
    subst this
    simpa using hin
 ·simp (maxSteps := 3000000) [go_sem,-List.length_flatten,-List.map_drop,-List.map_take, h, kx]
  exact (fstAt_none (fun k hl => hjj k (by omega))).symm
theorem c108_ok : cFn Tryz.prog an0 Tryz.f108 = some c108 := by kernel_rfl
theorem contains108_FT (l : List Int) (many : Int) (j g : Nat) (H : AHeap) (hH : H[j]? = some (.cells g [i64 many])) (hR : ∀ b ∈ H, RLB H.length b) :
  FT Tryz.prog 108 [ints l, .fn (.func 107) [] [.ptr j g 0]] H (fun rv H' => rv = .bool (decide (0 ≤ fstAt (oddB many) l)) ∧ H' = H) := by
 refine FTt hm Tryz.func108 c108_ok (Nat.le_of_ble_eq_true rfl) ?_
 simp (maxSteps := 3000000) [go_sem,-List.length_flatten,-List.map_drop,-List.map_take, c108]
 refine FT.mono (index116_FT l many j g H hH hR) ?_
 rintro rv H' ⟨rfl, rfl⟩
 simp (maxSteps := 3000000) [go_sem,-List.length_flatten,-List.map_drop,-List.map_take, Kc]
 exact hR
theorem odd_all {l : List Int} {many : Int} : decide (0 ≤ fstAt (oddB many) l) = !decide (∀ i : Nat, i < l.length → 0 ≤ gi l i ∧ gi l i < many) := by
 rw [← decide_not]
 refine decide_eq_decide.2 ?_
 rw [fstAt_neg]
 constructor
 ·rintro ⟨j, h1, h2⟩ h
  have := h j h1
  simp only [oddB, Bool.or_eq_true, decide_eq_true_eq] at h2
  omega
 ·intro h
  apply Classical.byContradiction
  intro hn
  refine h fun i hi => ?_
  apply Classical.byContradiction
  intro hb
  refine hn ⟨i, hi, ?_⟩
  simp only [oddB, Bool.or_eq_true, decide_eq_true_eq]
  omega
def arT (l : List Sg) (t : Tm0) : Int := if 0 ≤ t.sym ∧ t.sym < l.length then (gi l t.sym).args.size else -1
def mN0 (k : Int) : Int := if k = 4 ∨ k = 5 then 2 else if k = 6 then 1 else 0
def mIs0 (k : Int) : Bool := decide (k = 0 ∨ k = 1 ∨ k = 2 ∨ k = 4 ∨ k = 5 ∨ k = 6)
def mHd0 (t : Tm0) : Bool := decide (t.sym = 0) && decide (t.part = 0)
def mN (l : List Sg) (t : Tm0) : Int := if t.kind = 3 then arT l t else mN0 t.kind
def mIs (t : Tm0) : Bool := if t.kind = 3 then true else mIs0 t.kind
def mHd (l : List Sg) (t : Tm0) : Bool := if t.kind = 2 then decide (0 ≤ t.sym) && decide (t.part = 0) else if t.kind = 3 then decide (0 ≤ arT l t) && decide (t.part = 0) else if t.kind = 6 then decide (0 ≤ t.part) && decide (t.part < arT l t) else mHd0 t
theorem mayBe_m (l : List Sg) (many : Int) (t : Tm0) : mayBe l many t = (mIs t && (mHd l t && (decide ((t.args.length : Int) = mN l t) && !decide (0 ≤ fstAt (oddB many) t.args)))) := by
 rw [odd_all, Bool.not_not]
 unfold mayBe
 cases decide (∀ i : Nat, i < t.args.length → 0 ≤ gi t.args i ∧ gi t.args i < many) with
 | false => simp
 | true =>
  simp only [Bool.true_and, Bool.and_true]
  rw [Bool.eq_iff_iff]
  unfold mIs mHd mN mIs0 mN0 mHd0 arT
  by_cases hs : 0 ≤ t.sym ∧ t.sym < l.length
  ·simp only [if_pos hs]
   repeat' split
   all_goals simp only [Bool.and_eq_true, decide_eq_true_eq, Bool.false_eq_true, true_and, false_iff]
   all_goals omega
  ·simp only [if_neg hs]
   repeat' split
   all_goals simp only [Bool.and_eq_true, decide_eq_true_eq, Bool.false_eq_true, true_and, false_iff]
   all_goals omega
theorem c94_ok : cFn Tryz.prog an94 Tryz.f94 = some c94b := by kernel_rfl
theorem tmay_PF (l : List Sg) (many : Int) (t : Tm0) (hl : t.args.length ≤ maxA) : PF Tryz.prog 94 [sigs l, i64 many, .agg t.cs] (.bool (mayBe l many t)) := by
  refine PFk 9 hm Tryz.func94 c94_ok (Nat.le_of_ble_eq_true rfl) (by simp) (by simp) ?_
  rw [mayBe_m]
  generalize hQ : Rle 9 (.bool (mIs t && (mHd l t && (decide ((t.args.length : Int) = mN l t) && !decide (0 ≤ fstAt (oddB many) t.args))))) = Q
  refine by_way (A := ?G) (fun key => ?main) ?sub
  case main =>
    have hk : t.kind = 0 ∨ t.kind = 1 ∨ t.kind = 2 ∨ t.kind = 4 ∨ t.kind = 5 ∨ t.kind = 6 ∨ (t.kind ≠ 0 ∧ t.kind ≠ 1 ∧ t.kind ≠ 2 ∧ t.kind ≠ 4 ∧ t.kind ≠ 5 ∧ t.kind ≠ 6) := by omega
    rcases hk with k | k | k | k | k | k | k
    all_goals
      simp (maxSteps := 3000000) [go_sem,-List.length_flatten,-List.map_drop,-List.map_take, c94b, k, aupd, updA, alkp, lookA, amap, leavesA, leafA]
      refine run_markT [(8, i64 (mN0 t.kind)), (9, .bool (mIs0 t.kind)), (0, sigs l), (4, .ptr 0 0 0), (5, .ptr 1 0 0)] [.cells 0 [i64 many], .cells 0 t.cs] (Wk.tell 2 (by omega) (by simp [Tm.get, mN0, mIs0, k]) (by simp) (by simp) (by simp [RLB])) ?_
      exact key ()
  case sub =>
    refine by_way (A := ?G2) (fun key => ?main2) ?sub2
    case main2 =>
      have hk : (0 ≤ t.sym ∧ t.sym < l.length) ∨ ¬ 0 ≤ t.sym ∨ (0 ≤ t.sym ∧ ¬ t.sym < l.length) := by omega
      rcases hk with k | k | k
      all_goals
        simp (maxSteps := 3000000) [go_sem,-List.length_flatten,-List.map_drop,-List.map_take, k]
        try intros
        refine run_markT [(10, i64 (arT l t)), (8, i64 (mN0 t.kind)), (9, .bool (mIs0 t.kind)), (0, sigs l), (4, .ptr 0 0 0), (5, .ptr 1 0 0)] [.cells 0 [i64 many], .cells 0 t.cs] (Wk.tell 2 (by omega) (by simp [Tm.get, arT, k]) (by simp) (by simp) (by simp [RLB])) ?_
        exact key ()
    case sub2 =>
      refine by_way (A := ?G3) (fun key => ?main3) ?sub3
      case main3 =>
        have hk : t.kind = 2 ∨ t.kind = 3 ∨ t.kind = 6 ∨ (t.kind ≠ 2 ∧ t.kind ≠ 3 ∧ t.kind ≠ 6) := by omega
        rcases hk with k | k | k | k
        · by_cases h : 0 ≤ t.sym
          all_goals
            by_cases h2 : t.sym = 0
            all_goals
              first
                | (exfalso; omega)
                | (simp (maxSteps := 3000000) [go_sem,-List.length_flatten,-List.map_drop,-List.map_take, k, h, h2]
                   refine run_markT [(8, i64 (mN l t)), (9, .bool (mIs t)), (11, .bool (mHd l t)), (0, sigs l), (4, .ptr 0 0 0), (5, .ptr 1 0 0)] [.cells 0 [i64 many], .cells 0 t.cs] (Wk.tell 2 (by omega) (by simp [Tm.get, mN, mIs, mHd, k, h]) (by simp) (by simp) (by simp [RLB])) ?_
                   exact key ())
        · by_cases h : 0 ≤ arT l t
          all_goals
            by_cases h2 : t.sym = 0
            all_goals
              simp (maxSteps := 3000000) [go_sem,-List.length_flatten,-List.map_drop,-List.map_take, k, h, h2]
              refine run_markT [(8, i64 (mN l t)), (9, .bool (mIs t)), (11, .bool (mHd l t)), (0, sigs l), (4, .ptr 0 0 0), (5, .ptr 1 0 0)] [.cells 0 [i64 many], .cells 0 t.cs] (Wk.tell 2 (by omega) (by simp [Tm.get, mN, mIs, mHd, k, h]) (by simp) (by simp) (by simp [RLB])) ?_
              exact key ()
        · by_cases h : 0 ≤ t.part
          all_goals
            by_cases h2 : t.sym = 0
            all_goals
              simp (maxSteps := 3000000) [go_sem,-List.length_flatten,-List.map_drop,-List.map_take, k, h, h2]
              refine run_markT [(8, i64 (mN l t)), (9, .bool (mIs t)), (11, .bool (mHd l t)), (0, sigs l), (4, .ptr 0 0 0), (5, .ptr 1 0 0)] [.cells 0 [i64 many], .cells 0 t.cs] (Wk.tell 2 (by omega) (by simp [Tm.get, mN, mIs, mHd, k, h]) (by simp) (by simp) (by simp [RLB])) ?_
              exact key ()
        · by_cases h2 : t.sym = 0
          all_goals
            simp (maxSteps := 3000000) [go_sem,-List.length_flatten,-List.map_drop,-List.map_take, k, h2]
            refine run_markT [(8, i64 (mN l t)), (9, .bool (mIs t)), (11, .bool (mHd l t)), (0, sigs l), (4, .ptr 0 0 0), (5, .ptr 1 0 0)] [.cells 0 [i64 many], .cells 0 t.cs] (Wk.tell 2 (by omega) (by simp [Tm.get, mN, mIs, mHd, k, mHd0, h2]) (by simp) (by simp) (by simp [RLB])) ?_
            exact key ()
      case sub3 =>
        generalize mN l t = n at *
        cases h1 : mIs t with
        | false =>
          rw [h1] at hQ
          simp (maxSteps := 3000000) [go_sem,-List.length_flatten,-List.map_drop,-List.map_take]
          rw [← hQ]
          simp (maxSteps := 3000000) [go_sem,-List.length_flatten,-List.map_drop,-List.map_take]
        | true =>
        cases h2 : mHd l t with
        | false =>
          rw [h1, h2] at hQ
          simp (maxSteps := 3000000) [go_sem,-List.length_flatten,-List.map_drop,-List.map_take]
          rw [← hQ]
          simp (maxSteps := 3000000) [go_sem,-List.length_flatten,-List.map_drop,-List.map_take]
        | true =>
          rw [h1, h2] at hQ
          by_cases hn : (t.args.length : Int) = n
          · simp (maxSteps := 3000000) [go_sem,-List.length_flatten,-List.map_drop,-List.map_take, hn]
            intro _
            refine FT.mono (contains108_FT t.args many 0 0 _ rfl (by simp [RLB])) ?_
            rintro rv H' ⟨rfl, rfl⟩
            simp (maxSteps := 3000000) [go_sem,-List.length_flatten,-List.map_drop,-List.map_take, Kc]
            rw [← hQ]
            simp (maxSteps := 3000000) [go_sem,-List.length_flatten,-List.map_drop,-List.map_take, hn]
          · simp (maxSteps := 3000000) [go_sem,-List.length_flatten,-List.map_drop,-List.map_take, hn]
            intro _
            rw [← hQ]
            simp (maxSteps := 3000000) [go_sem,-List.length_flatten,-List.map_drop,-List.map_take, hn]
theorem c76_ok : cFn Tryz.prog an0 Tryz.f76 = some c76 := by kernel_rfl
theorem tMay_PF (l : List Sg) (a : Kd) (t : Tm0) (hl : t.args.length ≤ maxA) : PF Tryz.prog 76 [sigs l, .agg a.cs, .agg t.cs] (.bool (mayBe l a.keys.length t)) := by
 refine PFk 9 hm Tryz.func76 c76_ok (Nat.le_of_ble_eq_true rfl) (by simp) (by simp) ?_
 simp (maxSteps := 3000000) [go_sem,-List.length_flatten,-List.map_drop,-List.map_take, c76]
 intro _
 refine PF.call (tmay_PF l a.keys.length t hl) 9 (by simp [lePs]) ?_
 simp (maxSteps := 3000000) [go_sem,-List.length_flatten,-List.map_drop,-List.map_take, Kc]
end Go.AM

namespace Go.AM
open Go.Proofs
set_option maxRecDepth 100000
set_option linter.unusedVariables false
set_option linter.unusedSimpArgs false
attribute [local go_sem] Function.comp_def argsT Opd.ev Tm.get put ares mapMo ares1 snilP bldParts bslParts putAt AV.cells AV.one astore aload loadCs callArgs abin abinInt aapp elems appMore appNone preLen aFa aFld apart aExt aPick aNot aLens aEqa cellsK fitsA LK.fitsA leavesA leafA nilD aNilc aCint aCid alive alen alenOk Rle lePs len_flat
def putT (l : List Sg) (a : Kd) (t : Tm0) (limit : Int) : Kd × Int × Int :=
 if mayBe l a.keys.length t = false then (a, 0, 1)
 else if (putK a (keyT t)).2.2 = true ∧ limit ≤ a.keys.length then (a, 0, 7)
 else ((putK a (keyT t)).1, (putK a (keyT t)).2.1, 0)
theorem c51_ok : cFn Tryz.prog an0 Tryz.f51 = some c51 := by kernel_rfl
theorem putT_PF (l : List Sg) {a : Kd} (hr : hashRight a = true) (hk : a.keys.length < 1048576) (t : Tm0) (hl : t.args.length ≤ 1048576) (limit : Int) :
  PF Tryz.prog 51 [sigs l, .agg a.cs, .agg t.cs, i64 limit] (.tuple [.agg (putT l a t limit).1.cs, i64 (putT l a t limit).2.1, i64 (putT l a t limit).2.2]) := by
 refine PFk 9 hm Tryz.func51 c51_ok (Nat.le_of_ble_eq_true rfl) (by simp) (by simp) ?_
 generalize hQ : Rle 9 (.tuple [.agg (putT l a t limit).1.cs, i64 (putT l a t limit).2.1, i64 (putT l a t limit).2.2]) = Q
 simp (maxSteps := 3000000) [go_sem,-List.length_flatten,-List.map_drop,-List.map_take, c51]
 refine PF.call (tMay_PF l a t (by unfold maxA; omega)) 9 (by simp [lePs]) ?_
 cases hm1 : mayBe l a.keys.length t with
 | false =>
  simp (maxSteps := 3000000) [go_sem,-List.length_flatten,-List.map_drop,-List.map_take, Kc]
  rw [← hQ]
  simp only [putT, hm1, if_true]
  simp (maxSteps := 3000000) [go_sem,-List.length_flatten,-List.map_drop,-List.map_take]
 | true =>
  simp (maxSteps := 3000000) [go_sem,-List.length_flatten,-List.map_drop,-List.map_take, Kc]
  refine ⟨_, key_PF t hl, ?_⟩
  have hp := put_PF hr hk (keyT t)
  have hu : putT l a t limit = if (putK a (keyT t)).2.2 = true ∧ limit ≤ a.keys.length then (a, 0, 7) else ((putK a (keyT t)).1, (putK a (keyT t)).2.1, 0) := by
   simp [putT, hm1]
  rw [hu] at hQ
  generalize putK a (keyT t) = p at *
  refine ⟨_, hp, ?_⟩
  cases h1 : p.2.2 with
  | false =>
   simp (maxSteps := 3000000) [go_sem,-List.length_flatten,-List.map_drop,-List.map_take, Kc, h1]
   rw [← hQ]
   simp only [h1, Bool.false_eq_true, false_and, if_false]
   simp (maxSteps := 3000000) [go_sem,-List.length_flatten,-List.map_drop,-List.map_take]
  | true =>
   by_cases h2 : limit ≤ a.keys.length
   ·simp (maxSteps := 3000000) [go_sem,-List.length_flatten,-List.map_drop,-List.map_take, Kc, h1, h2]
    intros
    rw [← hQ]
    simp only [h1, h2, true_and, if_true]
    simp (maxSteps := 3000000) [go_sem,-List.length_flatten,-List.map_drop,-List.map_take]
   ·simp (maxSteps := 3000000) [go_sem,-List.length_flatten,-List.map_drop,-List.map_take, Kc, h1, h2]
    intros
    rw [← hQ]
    simp only [h2, and_false, if_false]
    simp (maxSteps := 3000000) [go_sem,-List.length_flatten,-List.map_drop,-List.map_take]
end Go.AM

namespace Go.AM
open Go.Proofs
set_option maxRecDepth 100000
set_option linter.unusedVariables false
set_option linter.unusedSimpArgs false
attribute [local go_sem] Function.comp_def argsT Opd.ev Tm.get put ares mapMo ares1 snilP bldParts bslParts putAt AV.cells AV.one astore aload loadCs callArgs abin abinInt aapp elems appMore appNone preLen aFa aFld apart aExt aPick aNot aLens aEqa cellsK fitsA LK.fitsA leavesA leafA nilD aNilc aCint aCid alive alen alenOk Rle lePs len_flat
/-! ### Turning a row round -/
theorem gi_set {α : Type} [Inhabited α] {o : List α} {p q : Nat} {v : α} (hp : p < o.length) : gi (o.set p v) (q : Int) = if p = q then v else gi o (q : Int) := by
 simp only [gi, List.getD, Int.toNat_natCast]
 rw [List.getElem?_set]
 split
 ·rename_i h; subst h; simp [hp]
 ·rfl
def RevAt {α : Type} [Inhabited α] (l s : List α) (i : Nat) : Prop := s.length = l.length ∧ ∀ p : Nat, p < l.length → gi s p = if p < i ∨ l.length ≤ p + i then gi l (l.length - 1 - p : Nat) else gi l p
theorem set_same {H : AHeap} {k : Nat} {b : ABlk} (h : H[k]? = some b) : H.set k b = H := by
 have hk := lt_of_get h
 rw [List.getElem?_eq_getElem hk] at h
 injection h with h
 rw [← h]
 exact List.set_getElem_self hk
theorem RevAt.zero {α : Type} [Inhabited α] (l : List α) : RevAt l l 0 := ⟨rfl, fun p hp => by rw [if_neg (by omega)]⟩
theorem RevAt.next {α : Type} [Inhabited α] {l s : List α} {i j : Nat} (h : RevAt l s i) (hj : j + 1 + i = l.length) (hij : i < j) : RevAt l ((s.set i (gi s j)).set j (gi s i)) (i + 1) := by
 refine ⟨by simp [h.1], fun p hp => ?_⟩
 have h1 := h.1
 rw [gi_set (by simp; omega), gi_set (by omega)]
 by_cases hpj : j = p
 ·subst hpj
  rw [if_pos rfl, if_pos (by omega), h.2 i (by omega), if_neg (by omega)]
  congr 1
  omega
 ·rw [if_neg hpj]
  by_cases hpi : i = p
  ·subst hpi
   rw [if_pos rfl, if_pos (by omega), h.2 j (by omega), if_neg (by omega)]
   congr 1
   omega
  ·rw [if_neg hpi, h.2 p hp]
   by_cases hc : p < i ∨ l.length ≤ p + i
   ·rw [if_pos hc, if_pos (by omega)]
   ·rw [if_neg hc, if_neg (by omega)]
theorem RevAt.done {α : Type} [Inhabited α] {l s : List α} {i : Nat} (h : RevAt l s i) (hi : l.length ≤ 2 * i + 1) : s = l.reverse := by
 refine eq_gi (by simp [h.1]) fun p hp => ?_
 have h1 := h.1
 rw [h.2 p (by omega)]
 have e : gi l.reverse (p : Int) = gi l (l.length - 1 - p : Nat) := by
  simp only [gi, List.getD, Int.toNat_natCast]
  rw [List.getElem?_reverse (by omega)]
 rw [e]
 by_cases hc : p < i ∨ l.length ≤ p + i
 ·rw [if_pos hc]
 ·rw [if_neg hc]
  congr 1
  omega
theorem c69_ok : cFn Tryz.prog an0 Tryz.f69 = some c69 := by kernel_rfl
theorem rev_FT (l : List Int) (hl : l.length ≤ maxA) (c : Bool) (j g : Nat) (H : AHeap) (hH : H[j]? = some (.cells g (i64s l))) (hR : ∀ b ∈ H, RLB H.length b) :
  FT Tryz.prog 69 [.loc j g 0 l.length 1 c] H (fun rv H' => rv = .tuple [] ∧ H' = H.set j (.cells g (i64s l.reverse))) := by
 refine FTk hm Tryz.func69 c69_ok (Nat.le_of_ble_eq_true rfl) ?_
 have hj := lt_of_get hH
 have hw : IntKind.i64.wrap ((l.length : Int) - 1) = (l.length : Int) - 1 := by unfold maxA at hl; exact w64 (by omega) (by omega)
 generalize hQ : (fun (rv : AV) (H' : AHeap) => rv = AV.tuple [] ∧ H' = H.set j (.cells g (i64s l.reverse))) = Q
 simp (maxSteps := 3000000) [go_sem,-List.length_flatten,-List.map_drop,-List.map_take, c69, hH, hw]
 intro _
 refine run_loopK (fun m T H' => ∃ (i : Nat) (s : List Int), m = l.length - i ∧ 2 * i ≤ l.length + 1 ∧ RevAt l s i ∧ T = [(2, i64 i), (3, i64 ((l.length : Int) - 1 - i)), (0, .loc j g 0 l.length 1 c)] ∧ H' = H.set j (.cells g (i64s s))) l.length [(2, i64 0), (3, i64 ((l.length : Int) - 1 - (0 : Nat))), (0, .loc j g 0 l.length 1 c)] H
  (Wk.to H.length (by omega) (by simp [Tm.get]) (by simp [hj]) (by simp) hR) ⟨0, l, by simp, by omega, RevAt.zero l, rfl, ?_⟩ ?_
 ·rw [set_same hH]
 rintro m T H' ⟨i, s, rfl, hi, hs, rfl, rfl⟩ KK kx kr kn
 have hH2 : (H.set j (.cells g (i64s s)))[j]? = some (.cells g (i64s s)) := by rw [List.getElem?_set_self hj]
 by_cases h : (i : Int) < (l.length : Int) - 1 - i
 ·obtain ⟨q, hq⟩ : ∃ q : Nat, (l.length : Int) - 1 - i = q := ⟨l.length - 1 - i, by omega⟩
  rw [hq] at h
  rw [hq]
  have h1 := hs.1
  have hq1 : q < l.length := by omega
  have hi1 : i < l.length := by omega
  have e1 : s[q]? = some (gi s q) := by simp [gi, List.getD, show q < s.length by omega]
  have e2 : s[i]? = some (gi s i) := by simp [gi, List.getD, show i < s.length by omega]
  have g1 : 1 ≤ s.length - q := by omega
  have g2 : 1 ≤ s.length - i := by omega
  have g3 : i + 1 ≤ s.length := by omega
  have g4 : q + 1 ≤ s.length := by omega
  have w1 : IntKind.i64.wrap ((i : Int) + 1) = ((i + 1 : Nat) : Int) := nxt (n := l.length) hi1 hl
  have w2 : IntKind.i64.wrap ((q : Int) - 1) = (l.length : Int) - 1 - ((i + 1 : Nat) : Int) := by unfold maxA at hl; rw [w64 (by omega) (by omega)]; omega
  simp (maxSteps := 3000000) [go_sem,-List.length_flatten,-List.map_drop,-List.map_take, h, hH2, hq1, hi1, e1, e2, g1, g2, g3, g4, hj]
  refine kn _ _ (Kl_sub (l.length - (i + 1)) ⟨i + 1, (s.set i (gi s q)).set q (gi s i), rfl, by omega, hs.next (by omega) (by omega), rfl, ?_⟩ (by simp [Tm.get, w1, w2]) (by omega))
  simp [i64s, List.map_set]
 ·simp (maxSteps := 3000000) [go_sem,-List.length_flatten,-List.map_drop,-List.map_take, h, kx]
  rw [← hQ, hs.done (by omega)]
  exact ⟨rfl, rfl⟩
/-! ### Nodes of expressions -/
structure Nd where
 kind : Int
 name : ByteArray
 n : Int
 deriving DecidableEq
instance : Inhabited Nd := ⟨⟨0, ⟨#[]⟩, 0⟩⟩
@[simp] def Nd.cs (x : Nd) : List AV := [i64 x.kind, .str x.name, i64 x.n]
abbrev nds (l : List Nd) : AV := .rows false 3 (l.map Nd.cs)
theorem nd3 : ∀ x : Nd, (Nd.cs x).length = 3 := fun _ => rfl
theorem nd_load {s : List Nd} {q : Nat} (h : q < s.length) : loadCs 3 true ((fl Nd.cs s).drop (q * 3)) = some (.agg [i64 (gi s q).kind, .str (gi s q).name, i64 (gi s q).n]) := by
 have e : s = s.take q ++ gi s q :: s.drop (q + 1) := by
  have : gi s q = s[q] := by simp [gi, List.getD, h]
  rw [this, ← List.drop_eq_getElem_cons h, List.take_append_drop]
 have hl : (s.take q).length = q := by simp; omega
 have := load_fl nd3 (s.take q) (s.drop (q + 1)) (gi s q)
 rw [hl, ← e] at this
 exact this
theorem putAt_mid : ∀ (vs pre old rest : List AV), old.length = vs.length → putAt (pre ++ (old ++ rest)) pre.length vs = pre ++ (vs ++ rest)
 | [], pre, old, rest, h => by
  have : old = [] := List.eq_nil_of_length_eq_zero (by simpa using h)
  subst this
  rfl
 | v :: vs, pre, [], rest, h => by simp at h
 | v :: vs, pre, r :: old, rest, h => by
  simp only [putAt]
  have e : (pre ++ (r :: old ++ rest)).set pre.length v = (pre ++ [v]) ++ (old ++ rest) := by simp [List.set_append]
  rw [e, show pre.length + 1 = (pre ++ [v]).length by simp, putAt_mid vs (pre ++ [v]) old rest (by simpa using h)]
  simp
theorem putAt_fl {α : Type} {sz : Nat} {f : α → List AV} (h : ∀ x, (f x).length = sz) {l : List α} {k : Nat} (hk : k < l.length) (v : α) : putAt (fl f l) (k * sz) (f v) = fl f (l.set k v) := by
 have e1 : l = l.take k ++ l[k] :: l.drop (k + 1) := by
  conv => lhs; rw [← List.take_append_drop k l, List.drop_eq_getElem_cons hk]
 have e2 : l.set k v = l.take k ++ v :: l.drop (k + 1) := by rw [List.set_eq_take_append_cons_drop, if_pos hk]
 have e3 : fl f l = fl f (l.take k) ++ (f l[k] ++ fl f (l.drop (k + 1))) := by
  conv => lhs; rw [e1]
  rw [fl_app, fl_cons]
 have e4 : (fl f (l.take k)).length = k * sz := by rw [fl_len h, List.length_take, Nat.min_eq_left (by omega)]
 rw [e3, e2, fl_app, fl_cons, ← e4]
 exact putAt_mid _ _ _ _ (by rw [h, h])
theorem nd_put {s : List Nd} {q : Nat} (h : q < s.length) (v : Nd) : putAt (fl Nd.cs s) (q * 3) [i64 v.kind, .str v.name, i64 v.n] = fl Nd.cs (s.set q v) := putAt_fl nd3 h v
theorem c38_ok : cFn Tryz.prog an0 Tryz.f38 = some c38 := by kernel_rfl
theorem rev38_FT (l : List Nd) (hl : l.length ≤ maxA) (c : Bool) (j g : Nat) (H : AHeap) (hH : H[j]? = some (.cells g (fl Nd.cs l))) (hR : ∀ b ∈ H, RLB H.length b) :
  FT Tryz.prog 38 [.loc j g 0 l.length 3 c] H (fun rv H' => rv = .tuple [] ∧ H' = H.set j (.cells g (fl Nd.cs l.reverse))) := by
 refine FTk hm Tryz.func38 c38_ok (Nat.le_of_ble_eq_true rfl) ?_
 have hj := lt_of_get hH
 have hw : IntKind.i64.wrap ((l.length : Int) - 1) = (l.length : Int) - 1 := by unfold maxA at hl; exact w64 (by omega) (by omega)
 generalize hQ : (fun (rv : AV) (H' : AHeap) => rv = AV.tuple [] ∧ H' = H.set j (.cells g (fl Nd.cs l.reverse))) = Q
 simp (maxSteps := 3000000) [go_sem,-List.length_flatten,-List.map_drop,-List.map_take, c38, hH, hw]
 intro _
 refine run_loopK (fun m T H' => ∃ (i : Nat) (s : List Nd), m = l.length - i ∧ 2 * i ≤ l.length + 1 ∧ RevAt l s i ∧ T = [(2, i64 i), (3, i64 ((l.length : Int) - 1 - i)), (0, .loc j g 0 l.length 3 c)] ∧ H' = H.set j (.cells g (fl Nd.cs s))) l.length [(2, i64 0), (3, i64 ((l.length : Int) - 1 - (0 : Nat))), (0, .loc j g 0 l.length 3 c)] H
  (Wk.to H.length (by omega) (by simp [Tm.get]) (by simp [hj]) (by simp) hR) ⟨0, l, by simp, by omega, RevAt.zero l, rfl, ?_⟩ ?_
 ·rw [set_same hH]
 rintro m T H' ⟨i, s, rfl, hi, hs, rfl, rfl⟩ KK kx kr kn
 have hH2 : (H.set j (.cells g (fl Nd.cs s)))[j]? = some (.cells g (fl Nd.cs s)) := by rw [List.getElem?_set_self hj]
 have hfl := fl_len nd3 s
 by_cases h : (i : Int) < (l.length : Int) - 1 - i
 ·obtain ⟨q, hq⟩ : ∃ q : Nat, (l.length : Int) - 1 - i = q := ⟨l.length - 1 - i, by omega⟩
  rw [hq] at h
  rw [hq]
  have h1 := hs.1
  have hq1 : q < l.length := by omega
  have hi1 : i < l.length := by omega
  have e1 := nd_load (s := s) (q := q) (by omega)
  have e2 := nd_load (s := s) (q := i) (by omega)
  have p1 := nd_put (s := s) (q := i) (by omega) (gi s q)
  have hfl2 := fl_len nd3 (s.set i (gi s q))
  have p2 := nd_put (s := s.set i (gi s q)) (q := q) (by simp; omega) (gi s i)
  have g3 : i * 3 + 3 ≤ s.length * 3 := by omega
  have g4 : q * 3 + 3 ≤ s.length * 3 := by omega
  have w1 : IntKind.i64.wrap ((i : Int) + 1) = ((i + 1 : Nat) : Int) := nxt (n := l.length) hi1 hl
  have w2 : IntKind.i64.wrap ((q : Int) - 1) = (l.length : Int) - 1 - ((i + 1 : Nat) : Int) := by unfold maxA at hl; rw [w64 (by omega) (by omega)]; omega
  simp (maxSteps := 3000000) [go_sem,-List.length_flatten,-List.map_drop,-List.map_take, h, hH2, hq1, hi1, ↓e1, ↓e2, ↓p1, ↓p2, hfl, hfl2, g3, g4, hj]
  refine kn _ _ (Kl_sub (l.length - (i + 1)) ⟨i + 1, (s.set i (gi s q)).set q (gi s i), rfl, by omega, hs.next (by omega) (by omega), rfl, ?_⟩ (by simp [Tm.get, w1, w2]) (by omega))
  rfl
 ·simp (maxSteps := 3000000) [go_sem,-List.length_flatten,-List.map_drop,-List.map_take, h, kx]
  rw [← hQ, hs.done (by omega)]
  exact ⟨rfl, rfl⟩
end Go.AM

namespace Go.AM
open Go.Proofs
set_option maxRecDepth 100000
set_option linter.unusedVariables false
set_option linter.unusedSimpArgs false
attribute [local go_sem] Function.comp_def argsT Opd.ev Tm.get put ares mapMo ares1 snilP bldParts bslParts putAt AV.cells AV.one astore aload loadCs callArgs abin abinInt aapp elems appMore appNone preLen aFa aFld apart aExt aPick aNot aLens aEqa cellsK fitsA LK.fitsA leavesA leafA nilD aNilc aCint aCid alive alen alenOk Rle lePs len_flat
/-! ### What a term is made of -/
abbrev bools (l : List Bool) : List AV := l.map AV.bool
def markL (b : List Bool) (xs : List Int) : List Bool := xs.foldl (fun b x => b.set x.toNat true) b
def belowS (a : Kd) (id : Nat) : Nat → List Bool × List Int
 | 0 => ((List.replicate (id + 1) false).set id true, [])
 | k + 1 => if gi (belowS a id k).1 (id - k : Nat) = false then belowS a id k else (markL (belowS a id k).1 (termAt a (id - k : Nat)).1.args, (belowS a id k).2 ++ [((id - k : Nat) : Int)])
def belowP (a : Kd) (id : Int) : List Int := if id < 0 ∨ a.keys.length ≤ id then [] else (belowS a id.toNat (id.toNat + 1)).2.reverse
def argsIn (a : Kd) : Prop := ∀ i : Nat, i < a.keys.length → ∀ x ∈ (termAt a i).1.args, 0 ≤ x ∧ x < i
theorem markL_len (b : List Bool) : ∀ xs, (markL b xs).length = b.length := by
 intro xs
 induction xs generalizing b with
 | nil => rfl
 | cons x xs ih => simp only [markL, List.foldl_cons] at ih ⊢; rw [ih]; simp
theorem belowS_len (a : Kd) (id : Nat) : ∀ k, (belowS a id k).1.length = id + 1
 | 0 => by simp [belowS]
 | k + 1 => by
  rw [belowS]
  split
  ·exact belowS_len a id k
  ·simp only [markL_len]; exact belowS_len a id k
theorem belowS_out (a : Kd) (id : Nat) : ∀ k, (belowS a id k).2.length ≤ k
 | 0 => by simp [belowS]
 | k + 1 => by
  have := belowS_out a id k
  rw [belowS]
  split
  ·omega
  ·simp; omega
theorem bool_load {r : List Bool} {k : Nat} (hk : k < r.length) : loadCs 1 false ((bools r).drop k) = some (.bool (gi r k)) := loadCs_drop hk
theorem markL_take (b : List Bool) (xs : List Int) (j : Nat) (h : j < xs.length) : markL b (xs.take (j + 1)) = (markL b (xs.take j)).set (gi xs j).toNat true := foldl_take _ _ _ _ h
theorem rlb_bools {n g : Nat} {l : List Bool} : RLB n (.cells g (bools l)) := by
 intro y hy
 obtain ⟨b, _, rfl⟩ := List.mem_map.1 hy
 exact .bool b
theorem rlb_i64s {n g : Nat} {l : List Int} : RLB n (.cells g (i64s l)) := by
 intro y hy
 obtain ⟨b, _, rfl⟩ := List.mem_map.1 hy
 exact .int _ b
theorem rlb_kd {n g : Nat} {a : Kd} : RLB n (.cells g a.cs) := by simp [RLB]
theorem i64s_app (l : List Int) (x : Int) : List.take l.length (i64s l) ++ [AV.int IntKind.i64 x] = i64s (l ++ [x]) := by
 rw [List.take_of_length_le (by simp)]
 simp
theorem c37_ok : cFn Tryz.prog an0 Tryz.f37 = some c37 := by kernel_rfl
theorem below_PF (a : Kd) (ha : argsIn a) (hk : a.keys.length ≤ 1048576) (id : Int) : PF Tryz.prog 37 [.agg a.cs, i64 id] (ints (belowP a id)) := by
 refine PFk 9 hm Tryz.func37 c37_ok (Nat.le_of_ble_eq_true rfl) (by simp) (by simp) ?_
 generalize hQ : Rle 9 (ints (belowP a id)) = Q
 by_cases h0 : id < 0
 ·simp (maxSteps := 3000000) [go_sem,-List.length_flatten,-List.map_drop,-List.map_take, c37, h0]
  rw [← hQ]
  simp [belowP, h0, Rle]
 by_cases h1 : (a.keys.length : Int) ≤ id
 ·simp (maxSteps := 3000000) [go_sem,-List.length_flatten,-List.map_drop,-List.map_take, c37, h0, h1]
  intro _
  rw [← hQ]
  simp [belowP, h1, Rle]
 obtain ⟨n, rfl⟩ : ∃ n : Nat, id = n := ⟨id.toNat, by omega⟩
 have hn : n < a.keys.length := by omega
 have hw : IntKind.i64.wrap ((n : Int) + 1) = ((n + 1 : Nat) : Int) := nxt (n := n + 1) (by omega) (by unfold maxA; omega)
 have hm1 : (n + 1) * 1 ≤ limB ∧ n + 1 ≤ maxA := by unfold limB maxA; omega
 simp (maxSteps := 3000000) [go_sem,-List.length_flatten,-List.map_drop,-List.map_take, c37, h0, h1, hw, aMksl, hm1]
 intro _
 refine ⟨by unfold limB maxA; omega, by omega, ?_⟩
 have hlim : limB = 140737488355328 := rfl
 refine run_loopK (fun m T H => ∃ (k g : Nat), m = n + 1 - k ∧ k ≤ n + 1 ∧ T = [(30, i64 k), (29, i64 (n + 1)), (6, .loc 2 g 0 (belowS a n k).2.length 1 false), (5, .loc 1 0 0 (n + 1) 1 false), (2, .ptr 0 0 0), (1, i64 n)] ∧ H = [.cells 0 a.cs, .cells 0 (bools (belowS a n k).1), .cells g (i64s (belowS a n k).2)]) (n + 1)
  [(30, i64 (0 : Nat)), (29, i64 (n + 1)), (6, .loc 2 0 0 0 1 false), (5, .loc 1 0 0 (n + 1) 1 false), (2, .ptr 0 0 0), (1, i64 n)] [.cells 0 a.cs, .cells 0 (bools (belowS a n 0).1), .cells 0 []]
  ((Wk.nil 6 1 (by simp [Tm.get])).trans (Wk.tell 3 (by omega) (by simp [Tm.get]) (by simp) (by simp [belowS, List.map_set]) ⟨rlb_kd, rlb_bools, by simp [RLB], trivial⟩)) ⟨0, 0, rfl, by omega, rfl, rfl⟩ ?_
 rintro m T H ⟨k, g, rfl, hk1, rfl, rfl⟩ KK kx kr kn
 have hbl := belowS_len a n k
 have hob := belowS_out a n k
 by_cases hlt : k < n + 1
 ·have hlt' : (k : Int) < (n : Int) + 1 := by omega
  have hsub : IntKind.i64.wrap ((n : Int) - k) = ((n - k : Nat) : Int) := by rw [w64 (by omega) (by omega)]; omega
  have hin : n - k < n + 1 := by omega
  have hld := bool_load (r := (belowS a n k).1) (k := n - k) (by omega)
  have hwk : IntKind.i64.wrap ((k : Int) + 1) = ((k + 1 : Nat) : Int) := nxt (n := n + 1) hlt (by unfold maxA; omega)
  have hbl1 : 1 ≤ (belowS a n k).1.length - (n - k) := by omega
  cases hb : gi (belowS a n k).1 (n - k : Nat) with
  | false =>
   have e : belowS a n (k + 1) = belowS a n k := by rw [belowS, if_pos hb]
   simp (maxSteps := 3000000) [go_sem,-List.length_flatten,-List.map_drop,-List.map_take, hlt', hsub, hin, ↓hld, hb]
   refine ⟨by omega, kn _ _ (Kl_next (n + 1 - (k + 1)) 3 (by omega) ⟨k + 1, g, rfl, by omega, rfl, rfl⟩ (by simp [Tm.get, hwk, e]) (by simp) (by simp [e]) ⟨rlb_kd, rlb_bools, rlb_i64s, trivial⟩ (by omega))⟩
  | true =>
   have e : belowS a n (k + 1) = (markL (belowS a n k).1 (termAt a (n - k : Nat)).1.args, (belowS a n k).2 ++ [((n - k : Nat) : Int)]) := by rw [belowS, if_neg (by rw [hb]; simp)]
   have hap := i64s_app (belowS a n k).2 ((n - k : Nat) : Int)
   simp (maxSteps := 3000000) [go_sem,-List.length_flatten,-List.map_drop,-List.map_take, hlt', hsub, hin, ↓hld, hb, hap]
   refine ⟨by omega, fun _ _ => ⟨by unfold maxA; omega, ?_⟩⟩
   refine PF.call (termAt_PF a (n - k : Nat)) 9 (by simp [lePs]) ?_
   have hargs : ∀ j : Nat, j < (termAt a (n - k : Nat)).1.args.length → 0 ≤ gi (termAt a (n - k : Nat)).1.args j ∧ gi (termAt a (n - k : Nat)).1.args j < n + 1 := fun j hj => by
    have := ha (n - k) (by omega) (gi (termAt a (n - k : Nat)).1.args j) (by simp [gi, List.getD, hj])
    omega
   generalize htm : (termAt a (n - k : Nat)).1 = t at *
   simp (maxSteps := 3000000) [go_sem,-List.length_flatten,-List.map_drop,-List.map_take, Kc]
   intro hta
   generalize belowS a n k = p at *
   refine run_loopK (fun m T H => ∃ (j : Nat), m = t.args.length - j ∧ j ≤ t.args.length ∧ T = [(54, i64 j), (53, i64 t.args.length), (52, ints t.args), (30, i64 k), (29, i64 (n + 1)), (6, .loc 2 (g + 1) 0 (p.2.length + 1) 1 false), (5, .loc 1 0 0 (n + 1) 1 false), (2, .ptr 0 0 0), (1, i64 n)] ∧ H = [.cells 0 a.cs, .cells 0 (bools (markL p.1 (t.args.take j))), .cells (g + 1) (i64s (p.2 ++ [((n - k : Nat) : Int)]))]) t.args.length
    [(54, i64 (0 : Nat)), (53, i64 t.args.length), (52, ints t.args), (30, i64 k), (29, i64 (n + 1)), (6, .loc 2 (g + 1) 0 (p.2.length + 1) 1 false), (5, .loc 1 0 0 (n + 1) 1 false), (2, .ptr 0 0 0), (1, i64 n)] [.cells 0 a.cs, .cells 0 (bools p.1), .cells (g + 1) (i64s (p.2 ++ [((n - k : Nat) : Int)]))]
    (Wk.tell 3 (by omega) (by simp [Tm.get]) (by simp) (by simp) ⟨rlb_kd, rlb_bools, rlb_i64s, trivial⟩) ⟨0, rfl, by omega, rfl, by simp [markL]⟩ ?_
   rintro m T H ⟨j, rfl, hj1, rfl, rfl⟩ KK2 kx2 kr2 kn2
   by_cases hj : j < t.args.length
   ·obtain ⟨x1, x2⟩ := hargs j hj
    obtain ⟨q, hq⟩ : ∃ q : Nat, gi t.args j = q := ⟨(gi t.args j).toNat, by omega⟩
    have hq1 : q < n + 1 := by omega
    have hml := markL_len p.1 (t.args.take j)
    have hq2 : q + 1 ≤ p.1.length := by omega
    have hmt := markL_take p.1 t.args j hj
    simp (maxSteps := 3000000) [go_sem,-List.length_flatten,-List.map_drop,-List.map_take, hj, hq, hq1, hml, hq2]
    refine ⟨by omega, kn2 _ _ (Kl_next (t.args.length - (j + 1)) 3 (by omega) ⟨j + 1, rfl, by omega, rfl, rfl⟩ (by simp [Tm.get, nxt hj hta]) (by simp) ?_ ⟨rlb_kd, rlb_bools, rlb_i64s, trivial⟩ (by omega))⟩
    rw [hmt, hq]
    simp [List.map_set]
   ·have : j = t.args.length := by omega
    subst this
    simp (maxSteps := 3000000) [go_sem,-List.length_flatten,-List.map_drop,-List.map_take, kx2]
    refine kn _ _ (Kl_next (n + 1 - (k + 1)) 3 (by omega) ⟨k + 1, g + 1, rfl, by omega, rfl, rfl⟩ (by simp [Tm.get, hwk, e]) (by simp) (by simp [e]) ⟨rlb_kd, rlb_bools, rlb_i64s, trivial⟩ (by omega))
 ·have : k = n + 1 := by omega
  subst this
  simp (maxSteps := 3000000) [go_sem,-List.length_flatten,-List.map_drop,-List.map_take, kx]
  refine FT.mono (rev_FT (belowS a n (n + 1)).2 (by unfold maxA; omega) false 2 g _ rfl (al_mem (p := RLB 3) ⟨rlb_kd, rlb_bools, rlb_i64s, trivial⟩)) ?_
  rintro rv H' ⟨rfl, rfl⟩
  simp (maxSteps := 3000000) [go_sem,-List.length_flatten,-List.map_drop,-List.map_take, Kc]
  have hb : belowP a (n : Int) = (belowS a n (n + 1)).2.reverse := by
   have : ¬ ((n : Int) < 0 ∨ (a.keys.length : Int) ≤ n) := by omega
   simp only [belowP, if_neg this]
   rfl
  rw [← hQ, hb]
  generalize (belowS a n (n + 1)).2 = s at *
  have hr : (List.map (fun n => AV.int IntKind.i64 n) s).reverse = i64s s.reverse := by simp
  have hl : s.length = s.reverse.length := by simp
  rw [hr, hl]
  generalize s.reverse = s2
  simp (maxSteps := 3000000) [go_sem,-List.length_flatten,-List.map_drop,-List.map_take]
  rw [chunk_one]
  simp [Function.comp_def]
end Go.AM

namespace Go.AM
open Go.Proofs
set_option maxRecDepth 100000
set_option linter.unusedVariables false
set_option linter.unusedSimpArgs false
attribute [local go_sem] Function.comp_def argsT Opd.ev Tm.get put ares mapMo ares1 snilP bldParts bslParts putAt AV.cells AV.one astore aload loadCs callArgs abin abinInt aapp elems appMore appNone preLen aFa aFld apart aExt aPick aNot aLens aEqa cellsK fitsA LK.fitsA leavesA leafA nilD aNilc aCint aCid alive alen alenOk Rle lePs len_flat
/-! ### What a term is made of: the document's answer -/
inductive Rch (a : Kd) (id : Nat) : Int → Prop where
 | self : Rch a id id
 | arg {n x : Int} : Rch a id n → x ∈ (termAt a n).1.args → Rch a id x
noncomputable def upTo (a : Kd) (id : Nat) (n : Nat) : List Int := by
 classical exact ((List.range n).map fun (j : Nat) => (j : Int)).filter fun x => decide (Rch a id x)
theorem rch_le {a : Kd} {id : Nat} (ha : argsIn a) (hid : id < a.keys.length) {x : Int} (h : Rch a id x) : 0 ≤ x ∧ x ≤ id := by
 induction h with
 | self => omega
 | arg hn hx ih =>
  rename_i n x
  obtain ⟨m, rfl⟩ : ∃ m : Nat, n = m := ⟨n.toNat, by omega⟩
  have := ha m (by omega) x hx
  omega
theorem gi_setB {b : List Bool} {p m : Nat} (hm : m < b.length) : gi (b.set p true) (m : Int) = true ↔ gi b (m : Int) = true ∨ m = p := by
 simp only [gi, List.getD, Int.toNat_natCast]
 rw [List.getElem?_set]
 by_cases h : p = m
 ·subst h; simp [hm]
 ·rw [if_neg h]
  constructor
  ·exact .inl
  ·rintro (h' | h')
   ·exact h'
   ·exact absurd h'.symm h
theorem gi_markL {m : Nat} : ∀ {xs : List Int} {b : List Bool}, m < b.length → (∀ x ∈ xs, 0 ≤ x) → (gi (markL b xs) (m : Int) = true ↔ gi b (m : Int) = true ∨ (m : Int) ∈ xs)
 | [], b, hm, h0 => by simp [markL]
 | x :: xs, b, hm, h0 => by
  have ih := gi_markL (xs := xs) (b := b.set x.toNat true) (by simpa using hm) (fun y hy => h0 y (by simp [hy]))
  have hx := h0 x (by simp)
  have e : markL b (x :: xs) = markL (b.set x.toNat true) xs := rfl
  rw [e, ih, gi_setB hm]
  simp only [List.mem_cons]
  constructor
  ·rintro ((h | h) | h)
   ·exact .inl h
   ·exact .inr (.inl (by omega))
   ·exact .inr (.inr h)
  ·rintro (h | h | h)
   ·exact .inl (.inl h)
   ·exact .inl (.inr (by omega))
   ·exact .inr h
structure BInv (a : Kd) (id k : Nat) (b : List Bool) : Prop where
 top : gi b (id : Int) = true
 rch : ∀ m : Nat, m ≤ id → gi b (m : Int) = true → Rch a id m
 args : ∀ p : Nat, p ≤ id → id < p + k → gi b (p : Int) = true → ∀ x ∈ (termAt a p).1.args, gi b x = true
theorem BInv.all {a : Kd} {id k : Nat} {b : List Bool} (h : BInv a id k b) (ha : argsIn a) (hid : id < a.keys.length) {x : Int} (hx : Rch a id x) : (id : Int) ≤ x + k → gi b x = true := by
 induction hx with
 | self => exact fun _ => h.top
 | arg hn hx ih =>
  rename_i n x
  intro hk
  have := rch_le ha hid hn
  obtain ⟨m, rfl⟩ : ∃ m : Nat, n = m := ⟨n.toNat, by omega⟩
  have h1 := ha m (by omega) x hx
  exact h.args m (by omega) (by omega) (ih (by omega)) x hx
theorem belowS_inv {a : Kd} {id : Nat} (ha : argsIn a) (hid : id < a.keys.length) : ∀ k, k ≤ id + 1 → BInv a id k (belowS a id k).1
 | 0, _ => by
  have hl : (List.replicate (id + 1) false).length = id + 1 := by simp
  refine ⟨?_, fun m hm h => ?_, fun p hp h => by omega⟩
  ·rw [belowS, gi_setB (by simp)]; simp
  ·rw [belowS, gi_setB (by simp; omega)] at h
   rcases h with h | h
   ·have hm' : m < id + 1 := by omega
    simp [gi, List.getD, hm'] at h
   ·subst h; exact .self
 | k + 1, hk => by
  have ih := belowS_inv ha hid k (by omega)
  have hl := belowS_len a id k
  rw [belowS]
  split
  ·rename_i hb
   refine ⟨ih.top, ih.rch, fun p hp hpk hg => ?_⟩
   by_cases he : p = id - k
   ·subst he; rw [hb] at hg; cases hg
   ·exact ih.args p hp (by omega) hg
  ·rename_i hb
   have hb' : gi (belowS a id k).1 ((id - k : Nat) : Int) = true := by simpa using hb
   have h0 : ∀ x ∈ (termAt a ((id - k : Nat) : Int)).1.args, 0 ≤ x ∧ x < ((id - k : Nat) : Int) := ha (id - k) (by omega)
   have hg : ∀ m : Nat, m ≤ id → (gi (markL (belowS a id k).1 (termAt a ((id - k : Nat) : Int)).1.args) (m : Int) = true ↔ gi (belowS a id k).1 (m : Int) = true ∨ (m : Int) ∈ (termAt a ((id - k : Nat) : Int)).1.args) := fun m hm => gi_markL (by omega) (fun x hx => (h0 x hx).1)
   refine ⟨(hg id (Nat.le_refl _)).2 (.inl ih.top), fun m hm h => ?_, fun p hp hpk h x hx => ?_⟩
   ·rcases (hg m hm).1 h with h | h
    ·exact ih.rch m hm h
    ·exact .arg (ih.rch (id - k) (by omega) hb') h
   ·have hax := ha p (by omega) x hx
    obtain ⟨q, rfl⟩ : ∃ q : Nat, x = q := ⟨x.toNat, by omega⟩
    refine (hg q (by omega)).2 ?_
    by_cases he : p = id - k
    ·subst he; exact .inr hx
    ·rcases (hg p hp).1 h with h | h
     ·exact .inl (ih.args p hp (by omega) h q hx)
     ·have := h0 _ h
      omega
theorem belowS_down {a : Kd} {id : Nat} (ha : argsIn a) (hid : id < a.keys.length) [DecidablePred (Rch a id)] : ∀ k, k ≤ id + 1 → (belowS a id k).2 = ((List.range k).map fun (j : Nat) => ((id - j : Nat) : Int)).filter fun x => decide (Rch a id x)
 | 0, _ => rfl
 | k + 1, hk => by
  have ih := belowS_down ha hid k (by omega)
  have hi := belowS_inv ha hid k (by omega)
  rw [List.range_succ, List.map_append, List.filter_append, ← ih, belowS]
  have key : gi (belowS a id k).1 ((id - k : Nat) : Int) = true ↔ Rch a id ((id - k : Nat) : Int) := ⟨hi.rch _ (by omega), fun h => hi.all ha hid h (by omega)⟩
  split
  ·rename_i hb
   have : ¬ Rch a id ((id - k : Nat) : Int) := fun h => by rw [key.2 h] at hb; cases hb
   simp [this]
  ·rename_i hb
   have : Rch a id ((id - k : Nat) : Int) := key.1 (by simpa using hb)
   simp [this]
theorem belowP_up {a : Kd} {id : Nat} (ha : argsIn a) (hid : id < a.keys.length) : belowP a id = upTo a id (id + 1) := by
 classical
 have h1 : ¬ ((id : Int) < 0 ∨ (a.keys.length : Int) ≤ id) := by omega
 unfold belowP upTo
 rw [if_neg h1, Int.toNat_natCast, belowS_down ha hid (id + 1) (Nat.le_refl _), ← List.filter_reverse]
 congr 1
 apply List.ext_getElem (by simp)
 intro i h2 h3
 simp at h2
 simp [List.getElem_reverse]
 omega
theorem mem_upTo {a : Kd} {id n : Nat} {x : Int} : x ∈ upTo a id n ↔ (0 ≤ x ∧ x < n) ∧ Rch a id x := by
 classical
 unfold upTo
 simp only [List.mem_filter, List.mem_map, List.mem_range, decide_eq_true_eq]
 constructor
 ·rintro ⟨⟨j, h1, rfl⟩, h2⟩
  exact ⟨by omega, h2⟩
 ·rintro ⟨h1, h2⟩
  exact ⟨⟨x.toNat, by omega, by omega⟩, h2⟩
end Go.AM

namespace Go.AM
open Go.Proofs
set_option maxRecDepth 100000
set_option linter.unusedVariables false
set_option linter.unusedSimpArgs false
attribute [local go_sem] Function.comp_def argsT Opd.ev Tm.get put ares mapMo ares1 snilP bldParts bslParts putAt AV.cells AV.one astore aload loadCs callArgs abin abinInt aapp elems appMore appNone preLen aFa aFld apart aExt aPick aNot aLens aEqa cellsK fitsA LK.fitsA leavesA leafA nilD aNilc aCint aCid alive alen alenOk Rle lePs len_flat
theorem pigeon : ∀ (N : Nat) (l : List Nat), l.Nodup → (∀ a ∈ l, a < N) → l.length ≤ N
 | 0, l, h, ha => by
  cases l with
  | nil => simp
  | cons a l => have := ha a (by simp); omega
 | N + 1, l, h, ha => by
  by_cases hm : N ∈ l
  ·have h1 := pigeon N (l.erase N) (h.erase N) (fun a hq => by
    have h2 := (h.mem_erase_iff (a := a) (b := N)).1 hq
    have := ha a h2.2
    have := h2.1
    omega)
   rw [List.length_erase_of_mem hm] at h1
   omega
  ·have := pigeon N l h (fun a hq => by
    have := ha a hq
    have : a ≠ N := fun e => hm (e ▸ hq)
    omega)
   omega
theorem nodup_map {α β : Type} {f : α → β} : ∀ {l : List α}, l.Nodup → (∀ x ∈ l, ∀ y ∈ l, f x = f y → x = y) → (l.map f).Nodup
 | [], _, _ => by simp
 | a :: l, h, hf => by
  rw [List.nodup_cons] at h
  rw [List.map_cons, List.nodup_cons]
  refine ⟨fun hm => ?_, nodup_map h.2 fun x hx y hy => hf x (by simp [hx]) y (by simp [hy])⟩
  obtain ⟨b, hb, he⟩ := List.mem_map.1 hm
  exact h.1 (hf b (by simp [hb]) a (by simp) he ▸ hb)
/-- A row that holds what is reached so far; the first ones' parts are all in it. -/
structure RInv (a : Kd) (id i : Nat) (all : List Int) : Prop where
 nd : all.Nodup
 top : (id : Int) ∈ all
 rch : ∀ x ∈ all, Rch a id x
 args : ∀ j : Nat, j < i → ∀ x ∈ (termAt a (gi all j)).1.args, x ∈ all
theorem RInv.len {a : Kd} {id i : Nat} {all : List Int} (h : RInv a id i all) (ha : argsIn a) (hid : id < a.keys.length) : all.length ≤ id + 1 := by
 have := pigeon (id + 1) (all.map Int.toNat) (nodup_map h.nd fun x hx y hy e => by
  have := rch_le ha hid (h.rch x hx)
  have := rch_le ha hid (h.rch y hy)
  omega) (fun m hm => by
  obtain ⟨x, hx, rfl⟩ := List.mem_map.1 hm
  have := rch_le ha hid (h.rch x hx)
  omega)
 simpa using this
theorem RInv.add {a : Kd} {id i : Nat} {all : List Int} (h : RInv a id i all) (hi : i ≤ all.length) {x : Int} (hx : Rch a id x) (hn : x ∉ all) : RInv a id i (all ++ [x]) := by
 refine ⟨?_, by simp [h.top], fun y hy => ?_, fun j hj y hy => ?_⟩
 ·rw [List.nodup_append]
  exact ⟨h.nd, by simp, fun y hy z hz => by simp at hz; subst hz; exact fun e => hn (e ▸ hy)⟩
 ·rcases List.mem_append.1 hy with hy | hy
  ·exact h.rch y hy
  ·simp at hy; subst hy; exact hx
 ·rw [giApp (by omega)] at hy
  exact List.mem_append_left _ (h.args j hj y hy)
theorem RInv.next {a : Kd} {id i : Nat} {all : List Int} (h : RInv a id i all) (hx : ∀ x ∈ (termAt a (gi all i)).1.args, x ∈ all) : RInv a id (i + 1) all := by
 refine ⟨h.nd, h.top, h.rch, fun j hj => ?_⟩
 rcases Nat.lt_or_ge j i with h3 | h3
 ·exact h.args j h3
 ·have : j = i := by omega
  subst this
  exact hx
end Go.AM

namespace Go.AM
open Go.Proofs
set_option maxRecDepth 100000
set_option linter.unusedVariables false
set_option linter.unusedSimpArgs false
attribute [local go_sem] Function.comp_def argsT Opd.ev Tm.get put ares mapMo ares1 snilP bldParts bslParts putAt AV.cells AV.one astore aload loadCs callArgs abin abinInt aapp elems appMore appNone preLen aFa aFld apart aExt aPick aNot aLens aEqa cellsK fitsA LK.fitsA leavesA leafA nilD aNilc aCint aCid alive alen alenOk Rle lePs len_flat
def c27b : AFn := ⟨9, .seq (.reg false [⟨some 0, .alloc [.nilS, .nilS], none⟩]) (.seq (.reg false [⟨some 2, .bslice 1 3 [.int .i64 0] [(0, .lit (.int .i64 0)), (1, .lit (.int .i64 0)), (2, .lit (.int .i64 0))], none⟩, ⟨some 3, .bslice 1 3 [.int .i64 0] [(0, .lit (.int .i64 1)), (1, .lit (.int .i64 0)), (2, .lit (.int .i64 0))], none⟩, ⟨some 4, .bslice 1 2 [.nilS] [(0, .tmp 2), (1, .tmp 3)], none⟩, ⟨some 1, .mov (.tmp 4), none⟩]) (.seq (.seq .mark (.reg false [⟨some 5, .mov (.tmp 1), none⟩, ⟨some 6, .mov (.tmp 1), none⟩, ⟨some 7, .call (.lit (.fn (.func 62) [] [])) [.tmp 6], none⟩, ⟨some 8, .build [.nilS, .nilS] [(0, 1, .tmp 5), (1, 1, .tmp 7)], none⟩, ⟨none, .store 2 (.tmp 0) (.tmp 8), none⟩])) .ret)), [.cell 0 2 true]⟩

/-! ### Rows of names -/
theorem all_next {P : Nat → Prop} {i : Nat} (h : ∀ j : Nat, j < i → P j) (hi : P i) : ∀ j : Nat, j < i + 1 → P j := fun j hl => by
 rcases Nat.lt_or_ge j i with h3 | h3
 ·exact h j h3
 ·have : j = i := by omega
  subst this
  exact hi
abbrev strs (l : List ByteArray) : AV := .rows false 1 (l.map fun s => [.str s])
def newK : Kd := ⟨[[0, 0, 0], [1, 0, 0]], lay [[0, 0, 0], [1, 0, 0]]⟩
/-- A row's clips are forgotten. -/
theorem Wk.dclT {lo : Nat} {T : Tm} {H : AHeap} (n t : Nat) : Wk lo T H ((t, dcl n (T.get t)) :: T) H := by
 rintro X E0 w0 m a w hlo ⟨E, h1, h2, h3, h4⟩
 refine ⟨E, h1, h2, ⟨fun k => ?_⟩, h4⟩
 simp only [Tm.get]
 split
 ·rename_i e
  subst e
  exact (h3.rel t).dcl n
 ·exact h3.rel k
def an27 : An := ⟨[], [2]⟩
theorem c27_ok : cFn Tryz.prog an27 Tryz.f27 = some c27b := by kernel_rfl
theorem rnew_PF : PF Tryz.prog 27 [] (.agg newK.cs) := by
 refine PFk 9 hm Tryz.func27 c27_ok (Nat.le_of_ble_eq_true rfl) (by simp) (by simp) ?_
 simp (maxSteps := 3000000) [go_sem,-List.length_flatten,-List.map_drop,-List.map_take, c27b]
 refine run_markT [(1, intss [[0, 0, 0], [1, 0, 0]]), (0, .ptr 0 0 0)] [.cells 0 [.nilS, .nilS]] ((Wk.dclT 9 1).trans (Wk.tell 1 (by omega) (by simp [Tm.get, dcl]) (by simp) (by simp) (by simp [RLB]))) ?_
 simp (maxSteps := 3000000) [go_sem,-List.length_flatten,-List.map_drop,-List.map_take]
 refine PF.call (lay_PF [[0, 0, 0], [1, 0, 0]] (Nat.le_of_ble_eq_true rfl)) 9 (by simp [lePs]) ?_
 simp (maxSteps := 3000000) [go_sem,-List.length_flatten,-List.map_drop,-List.map_take, Kc]
 simp [newK]
theorem c31_ok : cFn Tryz.prog an0 Tryz.f31 = some c31 := by kernel_rfl
theorem index_PF (l : List ByteArray) (s : ByteArray) : PF Tryz.prog 31 [strs l, .str s] (i64 (fstAt (fun x => decide (x = s)) l)) := by
 refine PFk 9 hm Tryz.func31 c31_ok (Nat.le_of_ble_eq_true rfl) (by simp) (by simp) ?_
 simp (maxSteps := 3000000) [go_sem,-List.length_flatten,-List.map_drop,-List.map_take, c31]
 intro ha
 refine run_countK l.length 8 [(7, i64 l.length), (0, strs l), (1, .str s)] [] (fun i => ∀ j : Nat, j < i → gi l j ≠ s)
  (Wk.tell 0 (by omega) (by simp [Tm.get]) (by simp) rfl (by simp)) (fun j hj => by omega) ?_
 intro i hi hj KK kx kr kn
 by_cases h : i < l.length
 ·by_cases he : gi l i = s
  ·have e : s = gi l i := he.symm
   have := fstAt_some (p := fun x => decide (x = s)) h (by simpa using he) (fun k hk => by simpa using hj k hk)
   simp (maxSteps := 3000000) [go_sem,-List.length_flatten,-List.map_drop,-List.map_take, h, he, kr]
   exact this.symm
  ·have e : ¬ s = gi l i := fun e => he e.symm
   simp (maxSteps := 3000000) [go_sem,-List.length_flatten,-List.map_drop,-List.map_take, h, he, e]
   exact kn _ _ (Kn_next 0 (by omega) (by omega) (all_next hj he) (by simp [Tm.get, nxt h ha]) (by simp) rfl (by simp))
 ·have := fstAt_none (p := fun x => decide (x = s)) (l := l) (fun k hk => by simpa using hj k (by omega))
  simp (maxSteps := 3000000) [go_sem,-List.length_flatten,-List.map_drop,-List.map_take, h, kx]
  exact this.symm
theorem c29_ok : cFn Tryz.prog an0 Tryz.f29 = some c29 := by kernel_rfl
theorem rat_PF (l : List ByteArray) (s : ByteArray) : PF Tryz.prog 29 [strs l, .str s] (i64 (fstAt (fun x => decide (x = s)) l)) := by
 refine PFk 9 hm Tryz.func29 c29_ok (Nat.le_of_ble_eq_true rfl) (by simp) (by simp) ?_
 simp (maxSteps := 3000000) [go_sem,-List.length_flatten,-List.map_drop,-List.map_take, c29]
 refine run_countK l.length 5 [(0, strs l), (1, .str s)] [] (fun i => ∀ j : Nat, j < i → gi l j ≠ s)
  (Wk.tell 0 (by omega) (by simp [Tm.get]) (by simp) rfl (by simp)) (fun j hj => by omega) ?_
 intro i hi hj KK kx kr kn
 by_cases h : i < l.length
 ·by_cases he : gi l i = s
  ·have := fstAt_some (p := fun x => decide (x = s)) h (by simpa using he) (fun k hk => by simpa using hj k hk)
   simp (maxSteps := 3000000) [go_sem,-List.length_flatten,-List.map_drop,-List.map_take, h, he, kr]
   intros
   exact this.symm
  ·simp (maxSteps := 3000000) [go_sem,-List.length_flatten,-List.map_drop,-List.map_take, h, he]
   intro ha
   exact kn _ _ (Kn_next 0 (by omega) (by omega) (all_next hj he) (by simp [Tm.get, nxt h ha]) (by simp) rfl (by simp))
 ·have := fstAt_none (p := fun x => decide (x = s)) (l := l) (fun k hk => by simpa using hj k (by omega))
  simp (maxSteps := 3000000) [go_sem,-List.length_flatten,-List.map_drop,-List.map_take, h, kx]
  intros
  exact this.symm
theorem c22_ok : cFn Tryz.prog an0 Tryz.f22 = some c22 := by kernel_rfl
theorem texts_PF (a b : List ByteArray) : PF Tryz.prog 22 [strs a, strs b] (.bool (decide (a = b))) := by
 refine PFk 9 hm Tryz.func22 c22_ok (Nat.le_of_ble_eq_true rfl) (by simp) (by simp) ?_
 by_cases h : a.length = b.length
 ·simp (maxSteps := 3000000) [go_sem,-List.length_flatten,-List.map_drop,-List.map_take, c22, h]
  intro hb
  refine run_countK a.length 5 [(0, strs a), (1, strs b)] [] (fun i => ∀ j : Nat, j < i → gi a j = gi b j)
   (Wk.tell 0 (by omega) (by simp [Tm.get]) (by simp) rfl (by simp)) (fun j hj => by omega) ?_
  intro i hi hj KK kx kr kn
  by_cases h1 : i < b.length
  ·have h2 : i < a.length := by omega
   by_cases he : gi a i = gi b i
   ·simp (maxSteps := 3000000) [go_sem,-List.length_flatten,-List.map_drop,-List.map_take, h, h1, h2, he]
    intros
    exact kn _ _ (Kn_next 0 (by omega) (by omega) (all_next hj he) (by simp [Tm.get, nxt h1 hb]) (by simp) rfl (by simp))
   ·have : ¬ a = b := fun e => he (by rw [e])
    simp (maxSteps := 3000000) [go_sem,-List.length_flatten,-List.map_drop,-List.map_take, h, h1, h2, he, kr, this]
  ·have : a = b := eq_gi (by omega) (fun j hl => hj j (by omega))
   simp (maxSteps := 3000000) [go_sem,-List.length_flatten,-List.map_drop,-List.map_take, h, h1, kx, this]
 ·have : ¬ a = b := fun e => h (by rw [e])
  simp (maxSteps := 3000000) [go_sem,-List.length_flatten,-List.map_drop,-List.map_take, c22, h, this]
  intros
  omega
def varOk (s : ByteArray) : Bool := nameOk s && decide (65 ≤ byte s 0) && decide (byte s 0 ≤ 90)
theorem varOk_named (s : ByteArray) : namedOk s 65 90 = varOk s := by
 rw [Bool.eq_iff_iff]
 simp only [namedOk, varOk, nameOk, Bool.and_eq_true, decide_eq_true_eq, innerOk]
 constructor
 ·rintro ⟨h1, h2, ⟨h3, h4⟩, h5⟩
  refine ⟨⟨⟨⟨h1, h2⟩, fun i hi => ?_⟩, h3⟩, h4⟩
  rcases h5 i hi with h | h
  ·exact .inl h
  ·by_cases h0 : i = 0
   ·subst h0
    exact .inl (.inr ⟨h3, h4⟩)
   ·exact .inr ⟨by omega, h⟩
 ·rintro ⟨⟨⟨⟨h1, h2⟩, h5⟩, h3⟩, h4⟩
  refine ⟨h1, h2, ⟨h3, h4⟩, fun i hi => ?_⟩
  rcases h5 i hi with h | h
  ·exact .inl h
  ·exact .inr h.2
theorem c32_ok : cFn Tryz.prog an0 Tryz.f32 = some c32 := by kernel_rfl
theorem var_PF (s : ByteArray) : PF Tryz.prog 32 [.str s] (.bool (varOk s)) := by
 refine PFk 9 hm Tryz.func32 c32_ok (Nat.le_of_ble_eq_true rfl) (by simp) (by simp) ?_
 simp (maxSteps := 3000000) [go_sem,-List.length_flatten,-List.map_drop,-List.map_take, c32]
 refine PF.call (name_PF s) 9 (by simp [lePs]) ?_
 cases h : nameOk s with
 | false => simp (maxSteps := 3000000) [go_sem,-List.length_flatten,-List.map_drop,-List.map_take, Kc, varOk, h]
 | true =>
  have := nameSize h
  simp (maxSteps := 3000000) [go_sem,-List.length_flatten,-List.map_drop,-List.map_take, Kc, this]
  refine PF.call (big_PF (byte s 0)) 9 (by simp [lePs]) ?_
  simp (maxSteps := 3000000) [go_sem,-List.length_flatten,-List.map_drop,-List.map_take, Kc]
  simp [varOk, h]
def namesOk (l : List ByteArray) : Bool := decide (∀ i : Nat, i < l.length → varOk (gi l i) = true ∧ fstAt (fun x => decide (x = gi l i)) l = i)
theorem namesBad {l : List ByteArray} {i : Nat} (h : i < l.length) (hn : ¬ (varOk (gi l i) = true ∧ fstAt (fun x => decide (x = gi l i)) l = i)) : namesOk l = false := decide_eq_false fun hh => hn (hh i h)
theorem c11_ok : cFn Tryz.prog an0 Tryz.f11 = some c11 := by kernel_rfl
theorem rnamed_PF (l : List ByteArray) : PF Tryz.prog 11 [strs l] (.bool (namesOk l)) := by
 refine PFk 9 hm Tryz.func11 c11_ok (Nat.le_of_ble_eq_true rfl) (by simp) (by simp) ?_
 simp (maxSteps := 3000000) [go_sem,-List.length_flatten,-List.map_drop,-List.map_take, c11]
 refine run_countK l.length 3 [(0, strs l)] [] (fun i => ∀ j : Nat, j < i → (varOk (gi l j) = true ∧ fstAt (fun x => decide (x = gi l j)) l = j))
  (Wk.tell 0 (by omega) (by simp [Tm.get]) (by simp) rfl (by simp)) (fun j hj => by omega) ?_
 intro i hi hj KK kx kr kn
 by_cases h : i < l.length
 ·simp (maxSteps := 3000000) [go_sem,-List.length_flatten,-List.map_drop,-List.map_take, h]
  intro ha
  refine PF.call (var_PF (gi l i)) 9 (by simp [lePs]) ?_
  cases hv : varOk (gi l i) with
  | false =>
   have := namesBad h (by simp [hv])
   simp (maxSteps := 3000000) [go_sem,-List.length_flatten,-List.map_drop,-List.map_take, Kc, kr, this]
  | true =>
   simp (maxSteps := 3000000) [go_sem,-List.length_flatten,-List.map_drop,-List.map_take, Kc, h]
   refine PF.call (rat_PF l (gi l i)) 9 (by simp [lePs]) ?_
   by_cases he : fstAt (fun x => decide (x = gi l i)) l = i
   ·simp (maxSteps := 3000000) [go_sem,-List.length_flatten,-List.map_drop,-List.map_take, Kc, he]
    exact kn _ _ (Kn_next 0 (by omega) (by omega) (all_next hj ⟨hv, he⟩) (by simp [Tm.get, nxt h ha]) (by simp) rfl (by simp))
   ·have := namesBad h (by simp [he])
    simp (maxSteps := 3000000) [go_sem,-List.length_flatten,-List.map_drop,-List.map_take, Kc, he, kr, this]
 ·have : namesOk l = true := decide_eq_true fun j hl => hj j (by omega)
  simp (maxSteps := 3000000) [go_sem,-List.length_flatten,-List.map_drop,-List.map_take, h, kx, this]
theorem c10_ok : cFn Tryz.prog an0 Tryz.f10 = some c10 := by kernel_rfl
theorem named10_PF (l : List ByteArray) : PF Tryz.prog 10 [strs l] (.bool (namesOk l)) := by
 refine PFk 9 hm Tryz.func10 c10_ok (Nat.le_of_ble_eq_true rfl) (by simp) (by simp) ?_
 simp (maxSteps := 3000000) [go_sem,-List.length_flatten,-List.map_drop,-List.map_take, c10]
 intro ha
 refine run_countK l.length 7 [(6, i64 l.length), (5, strs l), (0, strs l)] [] (fun i => ∀ j : Nat, j < i → (varOk (gi l j) = true ∧ fstAt (fun x => decide (x = gi l j)) l = j))
  (Wk.tell 0 (by omega) (by simp [Tm.get]) (by simp) rfl (by simp)) (fun j hj => by omega) ?_
 intro i hi hj KK kx kr kn
 by_cases h : i < l.length
 ·simp (maxSteps := 3000000) [go_sem,-List.length_flatten,-List.map_drop,-List.map_take, h]
  refine PF.call (isVar_PF (gi l i)) 9 (by simp [lePs]) ?_
  rw [varOk_named]
  cases hv : varOk (gi l i) with
  | false =>
   have := namesBad h (by simp [hv])
   simp (maxSteps := 3000000) [go_sem,-List.length_flatten,-List.map_drop,-List.map_take, Kc, kr, this]
  | true =>
   simp (maxSteps := 3000000) [go_sem,-List.length_flatten,-List.map_drop,-List.map_take, Kc]
   refine PF.call (index_PF l (gi l i)) 9 (by simp [lePs]) ?_
   by_cases he : fstAt (fun x => decide (x = gi l i)) l = i
   ·simp (maxSteps := 3000000) [go_sem,-List.length_flatten,-List.map_drop,-List.map_take, Kc, he]
    exact kn _ _ (Kn_next 0 (by omega) (by omega) (all_next hj ⟨hv, he⟩) (by simp [Tm.get, nxt h ha]) (by simp) rfl (by simp))
   ·have := namesBad h (by simp [he])
    simp (maxSteps := 3000000) [go_sem,-List.length_flatten,-List.map_drop,-List.map_take, Kc, he, kr, this]
 ·have : namesOk l = true := decide_eq_true fun j hl => hj j (by omega)
  simp (maxSteps := 3000000) [go_sem,-List.length_flatten,-List.map_drop,-List.map_take, h, kx, this]
end Go.AM

namespace Go.AM
open Go.Proofs
set_option maxRecDepth 100000
set_option linter.unusedVariables false
set_option linter.unusedSimpArgs false
attribute [local go_sem] Function.comp_def argsT Opd.ev Tm.get put ares mapMo ares1 snilP bldParts bslParts putAt AV.cells AV.one astore aload loadCs callArgs abin abinInt aapp elems appMore appNone preLen aFa aFld apart aExt aPick aNot aLens aEqa cellsK fitsA LK.fitsA leavesA leafA nilD aNilc aCint aCid alive alen alenOk Rle lePs len_flat
/-! ### Nodes: what one may be -/
def partsN (x : Nd) : Int := if x.kind = 6 then 1 else x.n
theorem c46_ok : cFn Tryz.prog an0 Tryz.f46 = some c46 := by kernel_rfl
theorem parts46_PF (x : Nd) : PF Tryz.prog 46 [.agg x.cs] (i64 (partsN x)) := by
 refine PFk 9 hm Tryz.func46 c46_ok (Nat.le_of_ble_eq_true rfl) (by simp) (by simp) ?_
 by_cases h : x.kind = 6
 all_goals
  simp (maxSteps := 3000000) [go_sem,-List.length_flatten,-List.map_drop,-List.map_take, c46, h]
  simp [partsN, h]
theorem c70_ok : cFn Tryz.prog an0 Tryz.f70 = some c70 := by kernel_rfl
theorem parts70_PF (x : Nd) : PF Tryz.prog 70 [.agg x.cs] (i64 (partsN x)) := by
 refine PFk 9 hm Tryz.func70 c70_ok (Nat.le_of_ble_eq_true rfl) (by simp) (by simp) ?_
 by_cases h : x.kind = 6
 all_goals
  simp (maxSteps := 3000000) [go_sem,-List.length_flatten,-List.map_drop,-List.map_take, c70, h]
  simp [partsN, h]
theorem c47_ok : cFn Tryz.prog an0 Tryz.f47 = some c47 := by kernel_rfl
theorem many47_PF (x : Nd) : PF Tryz.prog 47 [.agg x.cs] (i64 (partsN x)) := by
 refine PFk 9 hm Tryz.func47 c47_ok (Nat.le_of_ble_eq_true rfl) (by simp) (by simp) ?_
 by_cases h : x.kind = 6
 all_goals
  simp (maxSteps := 3000000) [go_sem,-List.length_flatten,-List.map_drop,-List.map_take, c47, h]
  simp [partsN, h]
def ndMay (x : Nd) : Bool :=
 if x.kind = 0 ∨ x.kind = 1 then decide (x.name = ⟨#[]⟩) && decide (x.n = 0)
 else if x.kind = 2 then varOk x.name && decide (x.n = 0)
 else if x.kind = 3 then conOk x.name && (decide (0 ≤ x.n) && decide (x.n ≤ 8))
 else if x.kind = 4 ∨ x.kind = 5 then decide (x.name = ⟨#[]⟩) && decide (x.n = 2)
 else if x.kind = 6 then conOk x.name && (decide (1 ≤ x.n) && decide (x.n ≤ 8))
 else false
theorem c45_ok : cFn Tryz.prog an0 Tryz.f45 = some c45 := by kernel_rfl
theorem rndMay_PF (x : Nd) : PF Tryz.prog 45 [.agg x.cs] (.bool (ndMay x)) := by
 refine PFk 9 hm Tryz.func45 c45_ok (Nat.le_of_ble_eq_true rfl) (by simp) (by simp) ?_
 generalize hQ : Rle 9 (.bool (ndMay x)) = Q
 have hk : x.kind = 0 ∨ x.kind = 1 ∨ x.kind = 2 ∨ x.kind = 3 ∨ x.kind = 4 ∨ x.kind = 5 ∨ x.kind = 6 ∨ (x.kind ≠ 0 ∧ x.kind ≠ 1 ∧ x.kind ≠ 2 ∧ x.kind ≠ 3 ∧ x.kind ≠ 4 ∧ x.kind ≠ 5 ∧ x.kind ≠ 6) := by omega
 simp (maxSteps := 3000000) [go_sem,-List.length_flatten,-List.map_drop,-List.map_take, c45]
 refine PF.call (con_PF x.name) 9 (by simp [lePs]) ?_
 rcases hk with k | k | k | k | k | k | k | k
 ·by_cases h : x.name = ⟨#[]⟩
  all_goals
   simp (maxSteps := 3000000) [go_sem,-List.length_flatten,-List.map_drop,-List.map_take, Kc, k, h]
   rw [← hQ]
   simp (maxSteps := 3000000) [go_sem,-List.length_flatten,-List.map_drop,-List.map_take, ndMay, k, h]
 ·by_cases h : x.name = ⟨#[]⟩
  all_goals
   simp (maxSteps := 3000000) [go_sem,-List.length_flatten,-List.map_drop,-List.map_take, Kc, k, h]
   rw [← hQ]
   simp (maxSteps := 3000000) [go_sem,-List.length_flatten,-List.map_drop,-List.map_take, ndMay, k, h]
 ·simp (maxSteps := 3000000) [go_sem,-List.length_flatten,-List.map_drop,-List.map_take, Kc, k]
  refine PF.call (var_PF x.name) 9 (by simp [lePs]) ?_
  cases h : varOk x.name
  all_goals
   simp (maxSteps := 3000000) [go_sem,-List.length_flatten,-List.map_drop,-List.map_take, Kc]
   rw [← hQ]
   simp (maxSteps := 3000000) [go_sem,-List.length_flatten,-List.map_drop,-List.map_take, ndMay, k, h]
 ·cases h : conOk x.name
  ·simp (maxSteps := 3000000) [go_sem,-List.length_flatten,-List.map_drop,-List.map_take, Kc, k, h]
   rw [← hQ]
   simp (maxSteps := 3000000) [go_sem,-List.length_flatten,-List.map_drop,-List.map_take, ndMay, k, h]
  ·by_cases h2 : 0 ≤ x.n
   all_goals
    simp (maxSteps := 3000000) [go_sem,-List.length_flatten,-List.map_drop,-List.map_take, Kc, k, h, h2]
    rw [← hQ]
    simp (maxSteps := 3000000) [go_sem,-List.length_flatten,-List.map_drop,-List.map_take, ndMay, k, h, h2]
 ·by_cases h : x.name = ⟨#[]⟩
  all_goals
   simp (maxSteps := 3000000) [go_sem,-List.length_flatten,-List.map_drop,-List.map_take, Kc, k, h]
   rw [← hQ]
   simp (maxSteps := 3000000) [go_sem,-List.length_flatten,-List.map_drop,-List.map_take, ndMay, k, h]
 ·by_cases h : x.name = ⟨#[]⟩
  all_goals
   simp (maxSteps := 3000000) [go_sem,-List.length_flatten,-List.map_drop,-List.map_take, Kc, k, h]
   rw [← hQ]
   simp (maxSteps := 3000000) [go_sem,-List.length_flatten,-List.map_drop,-List.map_take, ndMay, k, h]
 ·cases h : conOk x.name
  ·simp (maxSteps := 3000000) [go_sem,-List.length_flatten,-List.map_drop,-List.map_take, Kc, k, h]
   rw [← hQ]
   simp (maxSteps := 3000000) [go_sem,-List.length_flatten,-List.map_drop,-List.map_take, ndMay, k, h]
  ·by_cases h2 : 1 ≤ x.n
   all_goals
    simp (maxSteps := 3000000) [go_sem,-List.length_flatten,-List.map_drop,-List.map_take, Kc, k, h, h2]
    rw [← hQ]
    simp (maxSteps := 3000000) [go_sem,-List.length_flatten,-List.map_drop,-List.map_take, ndMay, k, h, h2]
 ·simp (maxSteps := 3000000) [go_sem,-List.length_flatten,-List.map_drop,-List.map_take, Kc, k]
  rw [← hQ]
  simp (maxSteps := 3000000) [go_sem,-List.length_flatten,-List.map_drop,-List.map_take, ndMay, k]
theorem c71_ok : cFn Tryz.prog an0 Tryz.f71 = some c71 := by kernel_rfl
theorem ndMay_PF (x : Nd) : PF Tryz.prog 71 [.agg x.cs] (.bool (ndMay x)) := by
 refine PFk 9 hm Tryz.func71 c71_ok (Nat.le_of_ble_eq_true rfl) (by simp) (by simp) ?_
 generalize hQ : Rle 9 (.bool (ndMay x)) = Q
 have hk : x.kind = 0 ∨ x.kind = 1 ∨ x.kind = 2 ∨ x.kind = 3 ∨ x.kind = 4 ∨ x.kind = 5 ∨ x.kind = 6 ∨ (x.kind ≠ 0 ∧ x.kind ≠ 1 ∧ x.kind ≠ 2 ∧ x.kind ≠ 3 ∧ x.kind ≠ 4 ∧ x.kind ≠ 5 ∧ x.kind ≠ 6) := by omega
 rcases hk with k | k | k | k | k | k | k | k
 ·by_cases h : x.name = ⟨#[]⟩
  all_goals
   simp (maxSteps := 3000000) [go_sem,-List.length_flatten,-List.map_drop,-List.map_take, c71, k, h]
   rw [← hQ]
   simp (maxSteps := 3000000) [go_sem,-List.length_flatten,-List.map_drop,-List.map_take, ndMay, k, h]
 ·by_cases h : x.name = ⟨#[]⟩
  all_goals
   simp (maxSteps := 3000000) [go_sem,-List.length_flatten,-List.map_drop,-List.map_take, c71, k, h]
   rw [← hQ]
   simp (maxSteps := 3000000) [go_sem,-List.length_flatten,-List.map_drop,-List.map_take, ndMay, k, h]
 ·simp (maxSteps := 3000000) [go_sem,-List.length_flatten,-List.map_drop,-List.map_take, c71, k]
  refine PF.call (isVar_PF x.name) 9 (by simp [lePs]) ?_
  rw [varOk_named]
  cases h : varOk x.name
  all_goals
   simp (maxSteps := 3000000) [go_sem,-List.length_flatten,-List.map_drop,-List.map_take, Kc]
   rw [← hQ]
   simp (maxSteps := 3000000) [go_sem,-List.length_flatten,-List.map_drop,-List.map_take, ndMay, k, h]
 ·simp (maxSteps := 3000000) [go_sem,-List.length_flatten,-List.map_drop,-List.map_take, c71, k]
  refine PF.call (isCon_PF x.name) 9 (by simp [lePs]) ?_
  rw [conOk_named]
  cases h : conOk x.name
  ·simp (maxSteps := 3000000) [go_sem,-List.length_flatten,-List.map_drop,-List.map_take, Kc]
   rw [← hQ]
   simp (maxSteps := 3000000) [go_sem,-List.length_flatten,-List.map_drop,-List.map_take, ndMay, k, h]
  ·by_cases h2 : 0 ≤ x.n
   all_goals
    simp (maxSteps := 3000000) [go_sem,-List.length_flatten,-List.map_drop,-List.map_take, Kc, h2]
    rw [← hQ]
    simp (maxSteps := 3000000) [go_sem,-List.length_flatten,-List.map_drop,-List.map_take, ndMay, k, h, h2]
 ·by_cases h : x.name = ⟨#[]⟩
  all_goals
   simp (maxSteps := 3000000) [go_sem,-List.length_flatten,-List.map_drop,-List.map_take, c71, k, h]
   rw [← hQ]
   simp (maxSteps := 3000000) [go_sem,-List.length_flatten,-List.map_drop,-List.map_take, ndMay, k, h]
 ·by_cases h : x.name = ⟨#[]⟩
  all_goals
   simp (maxSteps := 3000000) [go_sem,-List.length_flatten,-List.map_drop,-List.map_take, c71, k, h]
   rw [← hQ]
   simp (maxSteps := 3000000) [go_sem,-List.length_flatten,-List.map_drop,-List.map_take, ndMay, k, h]
 ·simp (maxSteps := 3000000) [go_sem,-List.length_flatten,-List.map_drop,-List.map_take, c71, k]
  refine PF.call (isCon_PF x.name) 9 (by simp [lePs]) ?_
  rw [conOk_named]
  cases h : conOk x.name
  ·simp (maxSteps := 3000000) [go_sem,-List.length_flatten,-List.map_drop,-List.map_take, Kc]
   rw [← hQ]
   simp (maxSteps := 3000000) [go_sem,-List.length_flatten,-List.map_drop,-List.map_take, ndMay, k, h]
  ·by_cases h2 : 1 ≤ x.n
   all_goals
    simp (maxSteps := 3000000) [go_sem,-List.length_flatten,-List.map_drop,-List.map_take, Kc, h2]
    rw [← hQ]
    simp (maxSteps := 3000000) [go_sem,-List.length_flatten,-List.map_drop,-List.map_take, ndMay, k, h, h2]
 ·simp (maxSteps := 3000000) [go_sem,-List.length_flatten,-List.map_drop,-List.map_take, c71, k]
  rw [← hQ]
  simp (maxSteps := 3000000) [go_sem,-List.length_flatten,-List.map_drop,-List.map_take, ndMay, k]
theorem c15_ok : cFn Tryz.prog an0 Tryz.f15 = some c15 := by kernel_rfl
theorem ndSame_PF (a b : List Nd) : PF Tryz.prog 15 [nds a, nds b] (.bool (decide (a = b))) := by
 refine PFk 9 hm Tryz.func15 c15_ok (Nat.le_of_ble_eq_true rfl) (by simp) (by simp) ?_
 by_cases h : a.length = b.length
 ·simp (maxSteps := 3000000) [go_sem,-List.length_flatten,-List.map_drop,-List.map_take, c15, h]
  intro hb
  refine run_countK a.length 5 [(0, nds a), (1, nds b)] [] (fun i => ∀ j : Nat, j < i → gi a j = gi b j)
   (Wk.tell 0 (by omega) (by simp [Tm.get]) (by simp) rfl (by simp)) (fun j hj => by omega) ?_
  intro i hi hj KK kx kr kn
  by_cases h1 : i < b.length
  ·have h2 : i < a.length := by omega
   by_cases he : gi a i = gi b i
   ·simp (maxSteps := 3000000) [go_sem,-List.length_flatten,-List.map_drop,-List.map_take, h, h1, h2, he]
    intros
    exact kn _ _ (Kn_next 0 (by omega) (by omega) (all_next hj he) (by simp [Tm.get, nxt h1 hb]) (by simp) rfl (by simp))
   ·have : ¬ a = b := fun e => he (by rw [e])
    have hne : ¬ ((gi a i).kind = (gi b i).kind ∧ (gi a i).name = (gi b i).name ∧ (gi a i).n = (gi b i).n) := fun ⟨e1, e2, e3⟩ => he (by
     cases hx : gi a i
     cases hy : gi b i
     rw [hx, hy] at e1 e2 e3
     simp only at e1 e2 e3
     rw [e1, e2, e3])
    simp (maxSteps := 3000000) [go_sem,-List.length_flatten,-List.map_drop,-List.map_take, h, h1, h2, hne, kr, this]
  ·have : a = b := eq_gi (by omega) (fun j hl => hj j (by omega))
   simp (maxSteps := 3000000) [go_sem,-List.length_flatten,-List.map_drop,-List.map_take, h, h1, kx, this]
 ·have : ¬ a = b := fun e => h (by rw [e])
  simp (maxSteps := 3000000) [go_sem,-List.length_flatten,-List.map_drop,-List.map_take, c15, h, this]
  intros
  omega
def nsum (l : List Nd) : Nat := l.foldl (fun s x => s + (1 + x.name.size)) 0
theorem nsum_mono (l : List Nd) (i : Nat) (h : i < l.length) : nsum (l.take (i + 1)) = nsum (l.take i) + (1 + (gi l i).name.size) := foldl_take _ _ _ _ h
theorem nsum_le (l : List Nd) (i : Nat) : nsum (l.take i) ≤ nsum l := by
 have : ∀ (l : List Nd) (s : Nat), s ≤ l.foldl (fun s x => s + (1 + x.name.size)) s := by
  intro l
  induction l with
  | nil => intro s; exact Nat.le_refl _
  | cons x l ih => intro s; exact Nat.le_trans (Nat.le_add_right s (1 + x.name.size)) (ih _)
 unfold nsum
 conv => rhs; rw [← List.take_append_drop i l, List.foldl_append]
 exact this _ _
def ndFew (l : List Nd) : Bool := decide (nsum l ≤ 600)
theorem c18_ok : cFn Tryz.prog an0 Tryz.f18 = some c18 := by kernel_rfl
theorem ndFew_PF (l : List Nd) (hl : l.length ≤ maxA) (hs : ∀ i : Nat, i < l.length → (gi l i).name.size ≤ maxA) : PF Tryz.prog 18 [nds l] (.bool (ndFew l)) := by
 refine PFk 9 hm Tryz.func18 c18_ok (Nat.le_of_ble_eq_true rfl) (by simp) (by simp) ?_
 simp (maxSteps := 3000000) [go_sem,-List.length_flatten,-List.map_drop,-List.map_take, c18]
 refine run_loopK (fun m T H => ∃ i : Nat, m = l.length - i ∧ i ≤ l.length ∧ nsum (l.take i) ≤ 600 ∧ T = [(4, i64 i), (3, i64 (nsum (l.take i))), (0, nds l)] ∧ H = []) l.length [(4, i64 (0 : Nat)), (3, i64 (0 : Nat)), (0, nds l)] []
  (Wk.tell 0 (by omega) (by simp [Tm.get]) (by simp) rfl (by simp)) ⟨0, rfl, by omega, by simp [nsum], by simp [nsum], rfl⟩ ?_
 rintro m T H ⟨i, rfl, hi, h6, rfl, rfl⟩ KK kx kr kn
 by_cases h : i < l.length
 ·have hz := hs i h
  have hm := nsum_mono l i h
  have hw1 : IntKind.i64.wrap ((nsum (l.take i) : Int) + 1) = ((nsum (l.take i) + 1 : Nat) : Int) := by rw [w64 (by omega) (by omega)]; omega
  have hw2 : IntKind.i64.wrap (((nsum (l.take i) + 1 : Nat) : Int) + (gi l i).name.size) = ((nsum (l.take (i + 1)) : Nat) : Int) := by unfold maxA at hz; rw [w64 (by omega) (by omega)]; omega
  by_cases h2 : nsum (l.take (i + 1)) ≤ 600
  ·have h2' : ¬ (600 : Int) < ((nsum (l.take (i + 1)) : Nat) : Int) := by omega
   simp (maxSteps := 3000000) [go_sem,-List.length_flatten,-List.map_drop,-List.map_take, h, hw1, hw2, h2', -Int.natCast_add]
   intros
   exact kn _ _ (Kl_next (l.length - (i + 1)) 0 (by omega) ⟨i + 1, rfl, by omega, h2, rfl, rfl⟩ (by simp [Tm.get, nxt h hl]) (by simp) rfl (by simp) (by omega))
  ·have h2' : (600 : Int) < ((nsum (l.take (i + 1)) : Nat) : Int) := by omega
   have hf : ndFew l = false := decide_eq_false (by have := nsum_le l (i + 1); omega)
   simp (maxSteps := 3000000) [go_sem,-List.length_flatten,-List.map_drop,-List.map_take, h, hw1, hw2, h2', kr, hf, -Int.natCast_add]
 ·have e : l.take i = l := List.take_of_length_le (by omega)
  have hf : ndFew l = true := decide_eq_true (by rw [e] at h6; exact h6)
  simp (maxSteps := 3000000) [go_sem,-List.length_flatten,-List.map_drop,-List.map_take, h, kx, hf]
def ofN (l : List Sg) (a : Kd) (names : List ByteArray) : Bool := decide (l.length ≤ 64) && (decide (names.length ≤ 100) && (sigRight l && (few a && (storeRight l a && namesOk names))))
theorem c12_ok : cFn Tryz.prog an0 Tryz.f12 = some c12 := by kernel_rfl
theorem of12_PF (l : List Sg) (a : Kd) (names : List ByteArray) (hs : ∀ i : Nat, i < l.length → (gi l i).args.size ≤ maxA) (hk : a.keys.length ≤ 1048576) (hks : ∀ i : Nat, i < a.keys.length → (gi a.keys i).length ≤ maxA) : PF Tryz.prog 12 [sigs l, .agg a.cs, strs names] (.bool (ofN l a names)) := by
 refine PFk 9 hm Tryz.func12 c12_ok (Nat.le_of_ble_eq_true rfl) (by simp) (by simp) ?_
 by_cases h1 : l.length ≤ 64
 ·have h1' : (l.length : Int) ≤ 64 := by omega
  by_cases h2 : names.length ≤ 100
  ·have h2' : (names.length : Int) ≤ 100 := by omega
   simp (maxSteps := 3000000) [go_sem,-List.length_flatten,-List.map_drop,-List.map_take, c12, h1', h2']
   intros
   refine PF.call (sigRight_PF l hs) 9 (by simp [lePs]) ?_
   cases h3 : sigRight l with
   | false => simp (maxSteps := 3000000) [go_sem,-List.length_flatten,-List.map_drop,-List.map_take, Kc, ofN, h3]
   | true =>
   simp (maxSteps := 3000000) [go_sem,-List.length_flatten,-List.map_drop,-List.map_take, Kc]
   refine PF.call (few_PF a) 9 (by simp [lePs]) ?_
   cases h4 : few a with
   | false => simp (maxSteps := 3000000) [go_sem,-List.length_flatten,-List.map_drop,-List.map_take, Kc, ofN, h4]
   | true =>
   simp (maxSteps := 3000000) [go_sem,-List.length_flatten,-List.map_drop,-List.map_take, Kc]
   refine PF.call (storeRight_PF l a hk hks) 9 (by simp [lePs]) ?_
   cases h5 : storeRight l a with
   | false => simp (maxSteps := 3000000) [go_sem,-List.length_flatten,-List.map_drop,-List.map_take, Kc, ofN, h5]
   | true =>
   simp (maxSteps := 3000000) [go_sem,-List.length_flatten,-List.map_drop,-List.map_take, Kc]
   refine PF.call (rnamed_PF names) 9 (by simp [lePs]) ?_
   simp (maxSteps := 3000000) [go_sem,-List.length_flatten,-List.map_drop,-List.map_take, Kc, ofN, h1, h2, h3, h4, h5]
  ·have h2' : ¬ (names.length : Int) ≤ 100 := by omega
   simp (maxSteps := 3000000) [go_sem,-List.length_flatten,-List.map_drop,-List.map_take, c12, h1', h2']
   intros
   simp [ofN, h2]
 ·have h1' : ¬ (l.length : Int) ≤ 64 := by omega
  simp (maxSteps := 3000000) [go_sem,-List.length_flatten,-List.map_drop,-List.map_take, c12, h1']
  intros
  simp [ofN, h1]
end Go.AM

namespace Go.AM
open Go.Proofs
set_option maxRecDepth 100000
set_option linter.unusedVariables false
set_option linter.unusedSimpArgs false
attribute [local go_sem] Function.comp_def argsT Opd.ev Tm.get put ares mapMo ares1 snilP bldParts bslParts putAt AV.cells AV.one astore aload loadCs callArgs abin abinInt aapp elems appMore appNone preLen aFa aFld apart aExt aPick aNot aLens aEqa cellsK fitsA LK.fitsA leavesA leafA nilD aNilc aCint aCid alive alen alenOk Rle lePs len_flat
/-! ### Expressions: a node's parts, where it begins, its text, how deep it is -/
def tx (l : List UInt8) : ByteArray := ⟨l.toArray⟩
structure En where
 r : Nat
 s : Nat
 t : ByteArray
 d : Int
 k : Int
instance : Inhabited En := ⟨⟨0, 0, ⟨#[]⟩, 0, 0⟩⟩
def two (k : Int) : Bool := decide (k = 4) || decide (k = 5)
/-- Does a part want brackets? -/
def brk (kind : Int) (fst : Bool) (e : En) : Bool := two e.k && (!fst || decide (e.k ≠ kind))
def brT (b : Bool) (t : ByteArray) : ByteArray := if b then ⟨#[40]⟩ ++ t ++ ⟨#[41]⟩ else t
def brD (b : Bool) (d : Int) : Int := if b then d + 1 else d
def joinB : List ByteArray → ByteArray
 | [] => ⟨#[]⟩
 | [x] => x
 | x :: y :: l => x ++ (⟨#[44]⟩ ++ joinB (y :: l))
def maxD (ks : List En) : Int := ks.foldl (fun m e => if m < e.d then e.d else m) 0
def txtN (x : Nd) (ks : List En) : ByteArray :=
 if x.kind = 0 then ⟨#[48]⟩
 else if x.kind = 1 then ⟨#[49]⟩
 else if x.kind = 3 then (if x.n = 0 then x.name else x.name ++ ⟨#[40]⟩ ++ joinB (ks.map (·.t)) ++ ⟨#[41]⟩)
 else if two x.kind then brT (brk x.kind true (gi ks 0)) (gi ks 0).t ++ ⟨#[if x.kind = 4 then 124 else 38]⟩ ++ brT (brk x.kind false (gi ks 1)) (gi ks 1).t
 else if x.kind = 6 then x.name ++ ⟨#[126]⟩ ++ ⟨#[UInt8.ofNat (48 + x.n.toNat)]⟩ ++ brT true (gi ks 0).t
 else x.name
def dpN (x : Nd) (ks : List En) : Int :=
 if x.kind = 3 then (if x.n = 0 then 0 else maxD ks + 1)
 else if two x.kind then (if brD (brk x.kind true (gi ks 0)) (gi ks 0).d < brD (brk x.kind false (gi ks 1)) (gi ks 1).d then brD (brk x.kind false (gi ks 1)) (gi ks 1).d else brD (brk x.kind true (gi ks 0)) (gi ks 0).d)
 else if x.kind = 6 then (gi ks 0).d + 1
 else 0
def pN (x : Nd) : Nat := (partsN x).toNat
def mkEn (x : Nd) (i : Nat) (st : List En) : En :=
 ⟨i, if pN x = 0 then i else (gi st ((pN x - 1 : Nat) : Int)).s, txtN x (st.take (pN x)).reverse, dpN x (st.take (pN x)).reverse, x.kind⟩
/-- Whole expressions behind so many nodes, the last one first. -/
def stk (l : List Nd) : Nat → List En
 | 0 => []
 | i + 1 => mkEn (gi l i) i (stk l i) :: (stk l i).drop (pN (gi l i))
def enN (l : List Nd) (i : Nat) : En := mkEn (gi l i) i (stk l i)
def kidsN (l : List Nd) (i : Nat) : List En := ((stk l i).take (pN (gi l i))).reverse
def goodN (l : List Nd) (i : Nat) : Prop := ∀ j : Nat, j < i → 0 ≤ partsN (gi l j) ∧ pN (gi l j) ≤ (stk l j).length
def chain : Nat → List En → Prop
 | e, [] => e = 0
 | e, x :: st => x.r + 1 = e ∧ x.s ≤ x.r ∧ chain x.s st
theorem chain_drop : ∀ {st : List En} {e : Nat} (p : Nat), chain e st → p ≤ st.length → chain (if p = 0 then e else (gi st ((p - 1 : Nat) : Int)).s) (st.drop p) ∧ (if p = 0 then e else (gi st ((p - 1 : Nat) : Int)).s) ≤ e
 | st, e, 0, h, _ => by simpa using h
 | [], e, p + 1, h, hp => by simp at hp
 | x :: st, e, p + 1, h, hp => by
  obtain ⟨h1, h2, h3⟩ := h
  have ih := chain_drop p h3 (by simpa using hp)
  have e1 : (if p + 1 = 0 then e else (gi (x :: st) ((p + 1 - 1 : Nat) : Int)).s) = (if p = 0 then x.s else (gi st ((p - 1 : Nat) : Int)).s) := by
   cases p with
   | zero => simp [gi]
   | succ p => simp [gi]
  rw [e1]
  exact ⟨ih.1, by omega⟩
theorem chain_at : ∀ {st : List En} {e : Nat} (k : Nat), chain e st → k < st.length → (gi st (k : Int)).r + 1 = (if k = 0 then e else (gi st ((k - 1 : Nat) : Int)).s) ∧ (gi st (k : Int)).r < e ∧ (gi st (k : Int)).s ≤ (gi st (k : Int)).r
 | [], e, k, h, hk => by simp at hk
 | x :: st, e, 0, h, hk => by
  obtain ⟨h1, h2, h3⟩ := h
  simp [gi]
  omega
 | x :: st, e, k + 1, h, hk => by
  obtain ⟨h1, h2, h3⟩ := h
  have ih := chain_at k h3 (by simpa using hk)
  have e1 : gi (x :: st) ((k + 1 : Nat) : Int) = gi st (k : Int) := by simp [gi]
  rw [e1]
  refine ⟨?_, by omega, ih.2.2⟩
  rw [ih.1]
  cases k with
  | zero => simp [gi]
  | succ k => simp [gi]
theorem stk_chain (l : List Nd) : ∀ i, goodN l i → chain i (stk l i)
 | 0, _ => rfl
 | i + 1, h => by
  have ih := stk_chain l i (fun j hj => h j (by omega))
  have := chain_drop (pN (gi l i)) ih (h i (by omega)).2
  exact ⟨rfl, this.2, this.1⟩
theorem stk_en (l : List Nd) : ∀ i, ∀ e ∈ stk l i, e.r < i ∧ e = enN l e.r
 | 0, e, h => by cases h
 | i + 1, e, h => by
  rw [stk] at h
  rcases List.mem_cons.1 h with rfl | h
  ·exact ⟨Nat.lt_succ_self _, rfl⟩
  ·have := stk_en l i e (List.mem_of_mem_drop h)
   exact ⟨by omega, this.2⟩
theorem stk_len (l : List Nd) (i : Nat) (h : pN (gi l i) ≤ (stk l i).length) : (stk l (i + 1)).length = (stk l i).length - pN (gi l i) + 1 := by
 rw [stk]
 simp
theorem stk_le (l : List Nd) : ∀ i, (stk l i).length ≤ i
 | 0 => by simp [stk]
 | i + 1 => by
  have := stk_le l i
  rw [stk]
  simp
  omega
theorem goodN.sub {l : List Nd} {i j : Nat} (h : goodN l i) (hj : j ≤ i) : goodN l j := fun k hk => h k (by omega)
/-- A row that tells where the first nodes begin. -/
def Begs (l : List Nd) (i : Nat) (S : List Int) : Prop := i ≤ S.length ∧ ∀ r : Nat, r < i → gi S (r : Int) = ((enN l r).s : Int)
theorem kid_at {l : List Nd} {i k : Nat} (h : goodN l i) (hk : k < (stk l i).length) : (gi (stk l i) (k : Int)).r + 1 = (if k = 0 then i else (gi (stk l i) ((k - 1 : Nat) : Int)).s) ∧ (gi (stk l i) (k : Int)).r < i ∧ gi (stk l i) (k : Int) = enN l (gi (stk l i) (k : Int)).r ∧ (gi (stk l i) (k : Int)).s ≤ (gi (stk l i) (k : Int)).r := by
 have h1 := chain_at k (stk_chain l i h) hk
 have h2 := stk_en l i (gi (stk l i) (k : Int)) (by simp [gi, List.getD, hk])
 exact ⟨h1.1, h1.2.1, h2.2, h1.2.2⟩
end Go.AM

namespace Go.AM
open Go.Proofs
set_option maxRecDepth 100000
set_option linter.unusedVariables false
set_option linter.unusedSimpArgs false
attribute [local go_sem] Function.comp_def argsT Opd.ev Tm.get put ares mapMo ares1 snilP bldParts bslParts putAt AV.cells AV.one astore aload loadCs callArgs abin abinInt aapp elems appMore appNone preLen aFa aFld apart aExt aPick aNot aLens aEqa cellsK fitsA LK.fitsA leavesA leafA nilD aNilc aCint aCid alive alen alenOk Rle lePs len_flat
theorem gapp {α : Type} {H L : List α} {k : Nat} : (H ++ L)[H.length + k]? = L[k]? := by
 rw [List.getElem?_append_right (by omega)]
 congr 1
 omega
theorem gapp0 {α : Type} {H L : List α} : (H ++ L)[H.length]? = L[0]? := by
 rw [List.getElem?_append_right (Nat.le_refl _)]
 congr 1
 omega
theorem sapp {α : Type} {H L : List α} {k : Nat} {x : α} : (H ++ L).set (H.length + k) x = H ++ L.set k x := by
 rw [List.set_append_right _ _ (by omega)]
 congr 2
 omega
def RowAt (H : AHeap) (sv : AV) (S : List Int) : Prop := sv = ints S ∨ ∃ j g c, sv = .loc j g 0 S.length 1 c ∧ H[j]? = some (.cells g (i64s S))
theorem RowAt.app {H X : AHeap} {sv : AV} {S : List Int} (h : RowAt H sv S) : RowAt (H ++ X) sv S := by
 rcases h with rfl | ⟨j, g, c, rfl, h⟩
 ·exact .inl rfl
 ·exact .inr ⟨j, g, c, rfl, by rw [List.getElem?_append_left (lt_of_get h)]; exact h⟩
theorem RowAt.rl {H : AHeap} {sv : AV} {S : List Int} (h : RowAt H sv S) {n : Nat} (hn : H.length ≤ n) : RL n sv := by
 rcases h with rfl | ⟨j, g, c, rfl, h⟩
 ·simp
 ·have := lt_of_get h
  simp
  omega
theorem RowAt.get {H : AHeap} {sv : AV} {S : List Int} (h : RowAt H sv S) {k : Nat} (hk : k < S.length) : ∃ q, aIa 1 H sv (i64 k) = some q ∧ aload 1 false H q = some (i64 (gi S k)) := by
 rcases h with rfl | ⟨j, g, c, rfl, h⟩
 ·refine ⟨.rptr [i64 (gi S k)], ?_, rfl⟩
  rw [aIa_map, if_pos ⟨by omega, by omega, rfl⟩]
 ·refine ⟨.ptr j g (0 + k * 1), ?_, ?_⟩
  ·rw [aIa_loc, if_pos ⟨by omega, by omega⟩]
   simp [alive, h]
  ·have := loadCs_drop (f := fun n : Int => AV.int IntKind.i64 n) hk
   simp [aload, h, this]
theorem c111_ok : cFn Tryz.prog an0 Tryz.f111 = some c111 := by kernel_rfl
theorem back111_FT (j g len : Nat) (c : Bool) (H : AHeap) : FT Tryz.prog 111 [.loc j g 0 len 1 c] H (fun rv H' => rv = .fn (.func 119) [] [.ptr H.length 0 0] ∧ H' = H ++ [.cells 0 [.loc j g 0 len 1 c]]) := by
 refine FTk hm Tryz.func111 c111_ok (Nat.le_of_ble_eq_true rfl) ?_
 simp (maxSteps := 3000000) [go_sem,-List.length_flatten,-List.map_drop,-List.map_take, c111]
/-- So many places of a row, filled from behind. -/
def fillK (st : List En) (p k : Nat) : List Int := List.replicate (p - k) 0 ++ ((st.take k).map fun e => (e.r : Int)).reverse
theorem fillK_len {st : List En} {p k : Nat} (hk : k ≤ p) (hp : p ≤ st.length) : (fillK st p k).length = p := by
 simp [fillK]
 omega
theorem fillK_set {st : List En} {p k : Nat} (hk : k < p) (hp : p ≤ st.length) : (fillK st p k).set (p - 1 - k) ((gi st (k : Int)).r : Int) = fillK st p (k + 1) := by
 have h1 : k < st.length := by omega
 unfold fillK
 rw [List.set_append_left _ _ (by simp; omega), List.take_succ_eq_append_getElem h1, List.map_append, List.reverse_append]
 have e : (List.replicate (p - k) (0 : Int)).set (p - 1 - k) ((gi st (k : Int)).r : Int) = List.replicate (p - (k + 1)) 0 ++ [((gi st (k : Int)).r : Int)] := by
  rw [show p - k = (p - (k + 1)) + 1 by omega, List.replicate_succ', List.set_append_right _ _ (by simp; omega)]
  simp [show p - 1 - k - (p - (k + 1)) = 0 by omega]
 rw [e]
 simp [gi, List.getD, h1]
theorem fillK_done (st : List En) (p : Nat) : fillK st p p = ((st.take p).reverse).map fun e => (e.r : Int) := by simp [fillK]
theorem c102_ok : cFn Tryz.prog an0 Tryz.f102 = some c102 := by kernel_rfl
theorem kids_FT {l : List Nd} {i : Nat} {S : List Int} {sv : AV} {H : AHeap} (hS : RowAt H sv S) (hB : Begs l i S) (hg : goodN l (i + 1)) (hi : i < l.length) (hl : l.length ≤ 1048576) (hR : ∀ b ∈ H, RLB H.length b) :
  FT Tryz.prog 102 [nds l, sv, i64 i] H (fun rv H' => rv = ints ((kidsN l i).map fun e => (e.r : Int)) ∧ H' = H) := by
 obtain ⟨hp0, hp⟩ := hg i (by omega)
 have hpe : partsN (gi l i) = (pN (gi l i) : Int) := by unfold pN; omega
 have hkid := fun k hk => kid_at (l := l) (i := i) (k := k) (hg.sub (by omega)) hk
 have hsl := stk_le l i
 unfold kidsN
 generalize hst : stk l i = st at *
 have hpx := parts70_PF (gi l i)
 rw [hpe] at hpx
 generalize hpp : pN (gi l i) = p at *
 refine FT.wk (R' := fun rv H' => ∃ e, rv = .loc (H.length + 1) 0 0 p 1 false ∧ H' = H ++ [.cells 0 [sv], .cells 0 (i64s (fillK st p p)), .cells 0 [.loc (H.length + 1) 0 0 p 1 false], .cells 0 [i64 e], .cells 0 [.loc (H.length + 1) 0 0 p 1 false]]) (FTk hm Tryz.func102 c102_ok (Nat.le_of_ble_eq_true rfl) ?_) ?_
 ·generalize hQ : (fun (rv : AV) (H' : AHeap) => ∃ e, rv = .loc (H.length + 1) 0 0 p 1 false ∧ H' = H ++ [.cells 0 [sv], .cells 0 (i64s (fillK st p p)), .cells 0 [.loc (H.length + 1) 0 0 p 1 false], .cells 0 [i64 e], .cells 0 [.loc (H.length + 1) 0 0 p 1 false]]) = Q
  have h1 : (0 : Int) ≤ p := by omega
  have hone : sv.one = true := by rcases hS with rfl | ⟨j, g, c, rfl, _⟩ <;> rfl
  have hcell : sv.cells = some [sv] := cells_of_one hone
  have hilI : (i : Int) < l.length := by omega
  have hpm : p ≤ limB / 8 ∧ p * 8 ≤ limB ∧ p ≤ maxA := by unfold limB maxA; omega
  have hw1 : IntKind.i64.wrap ((i : Int) - 1) = (i : Int) - 1 := w64 (by omega) (by omega)
  simp (maxSteps := 3000000) [-List.length_flatten, -List.map_drop, -List.map_take, Function.comp_def, argsT, Opd.ev, Tm.get, put, ares, mapMo, ares1, snilP, bldParts, bslParts, putAt, AV.one, astore, aload, loadCs, callArgs, abin, abinInt, aapp, elems, appMore, appNone, preLen, aFa, aFld, apart, aExt, aPick, aNot, aLens, aEqa, cellsK, fitsA, LK.fitsA, leavesA, leafA, nilD, aNilc, aCint, aCid, alive, alen, alenOk, Rle, lePs, len_flat, c102, hcell, hilI]
  refine PF.call hpx 9 (by simp [lePs]) ?_
  simp (maxSteps := 3000000) [go_sem,-List.length_flatten,-List.map_drop,-List.map_take, Kc, aMksl, hw1]
  refine ⟨⟨by unfold limB; omega, by unfold maxA; omega⟩, ?_⟩
  refine (back111_FT (H.length + 1) 0 p false _).mono ?_
  rintro _ _ ⟨rfl, rfl⟩
  simp (maxSteps := 3000000) [go_sem,-List.length_flatten,-List.map_drop,-List.map_take, Kc]
  refine run_range 119 [.ptr (H.length + 4) 0 0] p (fun k => [i64 ((p : Int) - 1 - k), .any])
   (fun k H' => k ≤ p ∧ H' = H ++ [.cells 0 [sv], .cells 0 (i64s (fillK st p k)), .cells 0 [.loc (H.length + 1) 0 0 p 1 false], .cells 0 [i64 ((if k = 0 then (i : Int) else ((gi st ((k - 1 : Nat) : Int)).s : Int)) - 1)], .cells 0 [.loc (H.length + 1) 0 0 p 1 false]]) (H.length + 5) (by omega) (by simp [hS.rl (n := H.length + 5) (by omega)]) (by simp) rfl
   (back_seq (H.length + 4) (H.length + 1) 0 0 p false (by omega) _ (fun k H' h => ⟨i64s (fillK st p k), by rw [h.2, gapp]; rfl, by rw [h.2, gapp]; rfl, by simp [fillK_len h.1 hp]⟩)) (fun r hr => ⟨rfl, rfl⟩) ?_ ?_ ?_
  ·exact ⟨Nat.zero_le _, by simp [fillK]⟩
  ·rintro k H' hk ⟨_, rfl⟩
   obtain ⟨k1, k2, k3, k4⟩ := hkid k (by omega)
   have hset := fillK_set hk hp
   have hfl := fillK_len (Nat.le_of_lt hk) hp
   have e0 : ((if k = 0 then (i : Int) else ((gi st ((k - 1 : Nat) : Int)).s : Int)) - 1) = ((gi st (k : Int)).r : Int) := by
    by_cases h0 : k = 0
    ·simp only [h0, if_true] at k1 ⊢; omega
    ·simp only [h0, if_false] at k1 ⊢; omega
   rw [e0]
   have hS2 := hB.1
   have hval := hB.2 (gi st (k : Int)).r k2
   have hen : (enN l (gi st (k : Int)).r).s = (gi st (k : Int)).s := by rw [← k3]
   rw [hen] at hval
   obtain ⟨q, hq⟩ : ∃ q : Nat, (p : Int) - 1 - k = q := ⟨p - 1 - k, by omega⟩
   have hq2 : q = p - 1 - k := by omega
   have hqp : q < p := by omega
   rw [hq]
   rw [← hq2] at hset
   generalize fillK st p k = f at *
   generalize (gi st (k : Int)).r = r at *
   have hws : IntKind.i64.wrap (((gi st (k : Int)).s : Int) - 1) = ((gi st (k : Int)).s : Int) - 1 := w64 (by omega) (by omega)
   have hqf : q + 1 ≤ f.length := by omega
   have hrS : r < S.length := by omega
   have fin : ∀ {k' : Nat} {T T2 : Tm} {K : AEx → Tm → AHeap → Prop}, Kr (H.length + 5) T2 (fun k H' => k ≤ p ∧ H' = H ++ [.cells 0 [sv], .cells 0 (i64s (fillK st p k)), .cells 0 [.loc (H.length + 1) 0 0 p 1 false], .cells 0 [i64 ((if k = 0 then (i : Int) else ((gi st ((k - 1 : Nat) : Int)).s : Int)) - 1)], .cells 0 [.loc (H.length + 1) 0 0 p 1 false]]) k K .normal T
     (H ++ [.cells 0 [sv], .cells 0 ((i64s f).set q (i64 r)), .cells 0 [.loc (H.length + 1) 0 0 p 1 false], .cells 0 [i64 (((gi st (k : Int)).s : Int) - 1)], .cells 0 [.loc (H.length + 1) 0 0 p 1 false]]) := by
    intro k' T T2 K
    refine Kr_next (And.intro hk ?_)
    rw [← hset]
    simp [List.map_set]
   rcases hS with rfl | ⟨j, g, c, rfl, hj⟩
   ·simp (maxSteps := 3000000) [go_sem,-List.length_flatten,-List.map_drop,-List.map_take, putps, gapp, gapp0, sapp, hqp, hqf, hrS, hval, hws]
    exact fin (k' := 0)
   ·have hjx : ∀ L : AHeap, (H ++ L)[j]? = some (.cells g (i64s S)) := fun L => by rw [List.getElem?_append_left (lt_of_get hj)]; exact hj
    have hld := loadCs_drop (f := fun n : Int => AV.int IntKind.i64 n) hrS
    rw [hval] at hld
    have h1S : 1 ≤ S.length - r := by omega
    simp (maxSteps := 3000000) [go_sem,-List.length_flatten,-List.map_drop,-List.map_take, putps, gapp, gapp0, sapp, hqp, hqf, hrS, hjx, hws, ↓hld]
    exact fin (k' := 0)
  ·rintro H' ⟨_, rfl⟩
   simp (maxSteps := 3000000) [go_sem,-List.length_flatten,-List.map_drop,-List.map_take, gapp]
   rw [← hQ]
   exact ⟨_, rfl, rfl⟩
 ·rintro rv H' ⟨e, rfl, rfl⟩
  have hfd := fillK_done st p
  have hfl := fillK_len (Nat.le_refl p) hp
  rw [hfd] at hfl ⊢
  generalize (List.take p st).reverse.map (fun e => (e.r : Int)) = f at *
  refine ⟨_, _, (Wk.freeze 0 (i := H.length + 1) (g := 0) (off := 0) (len := p) (sz := 1) (c := false) (cs := i64s f) (by simp [Tm.get]) (by rw [gapp]; rfl) (by simp [hfl])).trans (Wk.to H.length (Nat.le_refl _) (T' := [(0, ints f)]) (H' := H) ?_ (by simp) (by simp [sapp]) hR), rfl, rfl⟩
  have := chunk_one (f := fun n : Int => AV.int IntKind.i64 n) (l := f)
  rw [hfl] at this
  simp [Tm.get, this]
end Go.AM

namespace Go.AM
open Go.Proofs
set_option maxRecDepth 100000
set_option linter.unusedVariables false
set_option linter.unusedSimpArgs false
attribute [local go_sem] Function.comp_def argsT Opd.ev Tm.get put ares mapMo ares1 snilP bldParts bslParts putAt AV.cells AV.one astore aload loadCs callArgs abin abinInt aapp elems appMore appNone preLen aFa aFld apart aExt aPick aNot aLens aEqa cellsK fitsA LK.fitsA leavesA leafA nilD aNilc aCint aCid alive alen alenOk Rle lePs len_flat
def begsL (l : List Nd) (n i : Nat) : List Int := (List.range n).map fun j => if j < i then ((enN l j).s : Int) else 0
def begAll (l : List Nd) : List Int := (List.range l.length).map fun j => ((enN l j).s : Int)
theorem begsL_len (l : List Nd) (n i : Nat) : (begsL l n i).length = n := by simp [begsL]
theorem begsL_at {l : List Nd} {n i r : Nat} (h : r < n) : gi (begsL l n i) (r : Int) = if r < i then ((enN l r).s : Int) else 0 := by
 simp [begsL, gi, List.getD, h]
theorem begsL_set {l : List Nd} {n i : Nat} (h : i < n) : (begsL l n i).set i ((enN l i).s : Int) = begsL l n (i + 1) := by
 apply List.ext_getElem
 ·simp [begsL]
 ·intro j h1 h2
  simp only [begsL, List.getElem_set, List.getElem_map, List.getElem_range]
  by_cases hj : i = j
  ·subst hj; simp
  ·rw [if_neg hj]
   by_cases h3 : j < i
   ·simp [h3, show j < i + 1 by omega]
   ·simp [h3, show ¬ j < i + 1 by omega]
theorem begsL_all (l : List Nd) : begsL l l.length l.length = begAll l := by
 unfold begsL begAll
 apply List.map_congr_left
 intro j hj
 rw [if_pos (List.mem_range.1 hj)]
theorem begAll_at {l : List Nd} {r : Nat} (h : r < l.length) : gi (begAll l) (r : Int) = ((enN l r).s : Int) := by
 simp [begAll, gi, List.getD, h]
theorem begs_all (l : List Nd) (i : Nat) (h : i ≤ l.length) : Begs l i (begAll l) := ⟨by simp [begAll]; exact h, fun r hr => begAll_at (by omega)⟩
theorem kids_len {l : List Nd} {i : Nat} (h : pN (gi l i) ≤ (stk l i).length) : (kidsN l i).length = pN (gi l i) := by
 unfold kidsN
 simp
 omega
theorem kids_at {l : List Nd} {i k : Nat} (h : pN (gi l i) ≤ (stk l i).length) (hk : k < pN (gi l i)) : gi (kidsN l i) (k : Int) = gi (stk l i) ((pN (gi l i) - 1 - k : Nat) : Int) := by
 unfold kidsN
 generalize pN (gi l i) = p at *
 generalize stk l i = st at *
 simp only [gi, List.getD, Int.toNat_natCast]
 rw [List.getElem?_reverse (by simp; omega), List.length_take, List.getElem?_take, if_pos (by omega)]
 congr 2
 omega
theorem kids_r {l : List Nd} {i k : Nat} (h : pN (gi l i) ≤ (stk l i).length) (hk : k < pN (gi l i)) : gi ((kidsN l i).map fun e => (e.r : Int)) (k : Int) = ((gi (kidsN l i) (k : Int)).r : Int) := by
 have := kids_len h
 simp [gi, List.getD, show k < (kidsN l i).length by omega]
theorem kids_en {l : List Nd} {i k : Nat} (hg : goodN l (i + 1)) (hk : k < pN (gi l i)) : (gi (kidsN l i) (k : Int)).r < i ∧ gi (kidsN l i) (k : Int) = enN l (gi (kidsN l i) (k : Int)).r := by
 have h := (hg i (by omega)).2
 rw [kids_at h hk]
 have := kid_at (l := l) (i := i) (k := pN (gi l i) - 1 - k) (hg.sub (by omega)) (by omega)
 exact ⟨this.2.1, this.2.2.1⟩
theorem kid0_s {l : List Nd} {i : Nat} (h : pN (gi l i) ≤ (stk l i).length) (hp : 0 < pN (gi l i)) : (gi (kidsN l i) ((0 : Nat) : Int)).s = (enN l i).s := by
 rw [kids_at h hp]
 unfold enN mkEn
 simp only
 rw [if_neg (by omega)]
 rfl
theorem c87_ok : cFn Tryz.prog an0 Tryz.f87 = some c87 := by kernel_rfl
theorem starts_PF {l : List Nd} (hg : goodN l l.length) (hl : l.length ≤ 1048576) : PF Tryz.prog 87 [nds l] (ints (begAll l)) := by
 refine PFk 9 hm Tryz.func87 c87_ok (Nat.le_of_ble_eq_true rfl) (by simp) (by simp) ?_
 generalize hQ : Rle 9 (ints (begAll l)) = Q
 simp (maxSteps := 3000000) [go_sem,-List.length_flatten,-List.map_drop,-List.map_take, c87, aMksl]
 intro hA
 refine ⟨by unfold limB maxA; omega, ?_⟩
 intros
 refine run_loopK (fun m T H => ∃ i : Nat, m = l.length - i ∧ i ≤ l.length ∧ T = [(11, i64 i), (10, i64 l.length), (3, .loc 0 0 0 l.length 1 false), (0, nds l)] ∧ H = [.cells 0 (i64s (begsL l l.length i))]) l.length
  [(11, i64 (0 : Nat)), (10, i64 l.length), (3, .loc 0 0 0 l.length 1 false), (0, nds l)] [.cells 0 (i64s (begsL l l.length 0))]
  (Wk.tell 1 (by omega) (by simp [Tm.get]) (by simp) (by simp [begsL, List.map_const', Function.comp_def]) ⟨rlb_i64s, trivial⟩) ⟨0, rfl, by omega, rfl, rfl⟩ ?_
 rintro m T H ⟨i, rfl, hi, rfl, rfl⟩ KK kx kr kn
 have hbl := begsL_len l l.length i
 by_cases h : i < l.length
 ·obtain ⟨hp0, hp⟩ := hg i h
  have hset : (i64s (begsL l l.length i)).set i (i64 i) = i64s ((begsL l l.length i).set i (i : Int)) := by simp [List.map_set]
  have hB : Begs l i ((begsL l l.length i).set i (i : Int)) := ⟨by simp [begsL]; omega, fun r hr => by
   rw [gi_set (by omega), if_neg (by omega), begsL_at (by omega), if_pos hr]⟩
  have hl1 : ((begsL l l.length i).set i (i : Int)).length = l.length := by simp [begsL]
  have hbs := begsL_set (l := l) h
  have hg1 : i + 1 ≤ l.length := h
  generalize hS : (begsL l l.length i).set i (i : Int) = S at *
  have hk := kids_FT (sv := .loc 0 0 0 l.length 1 false) (H := [.cells 0 (i64s S)]) (.inr ⟨0, 0, false, by rw [hl1], rfl⟩) hB (hg.sub h) h hl (al_mem (p := RLB 1) ⟨rlb_i64s, trivial⟩)
  simp (maxSteps := 3000000) [go_sem,-List.length_flatten,-List.map_drop,-List.map_take, h, hset, hg1, hbl]
  refine FT.mono hk ?_
  rintro _ _ ⟨rfl, rfl⟩
  have hkl := kids_len hp
  by_cases hp1 : 0 < pN (gi l i)
  ·have hk0 : gi ((kidsN l i).map fun e => (e.r : Int)) 0 = _ := kids_r hp hp1
   have hen := kids_en (hg.sub h) hp1
   have hks := kid0_s hp hp1
   have hv := hB.2 (gi (kidsN l i) ((0 : Nat) : Int)).r hen.1
   rw [← hen.2, hks] at hv
   have hr : (gi (kidsN l i) ((0 : Nat) : Int)).r < l.length := by omega
   generalize (gi (kidsN l i) ((0 : Nat) : Int)).r = r at *
   have hld := loadCs_drop (f := fun n : Int => AV.int IntKind.i64 n) (l := S) (k := r) (by omega)
   rw [hv] at hld
   have hne : ¬ kidsN l i = [] := fun e => by rw [e] at hkl; simp at hkl; omega
   simp (maxSteps := 3000000) [go_sem,-List.length_flatten,-List.map_drop,-List.map_take, Kc, hkl, hp1, hk0, hr, ↓hld, h, hl1, hg1, hne]
   intros
   refine kn _ _ (Kl_next (l.length - (i + 1)) 1 (by omega) ⟨i + 1, rfl, h, rfl, rfl⟩ (by simp [Tm.get, nxt h hA]) (by simp) ?_ ⟨rlb_i64s, trivial⟩ (by omega))
   rw [← hbs, ← hS]
   simp [List.map_set, List.set_set]
  ·have hp2 : pN (gi l i) = 0 := by omega
   simp (maxSteps := 3000000) [go_sem,-List.length_flatten,-List.map_drop,-List.map_take, Kc, hkl, hp2]
   intros
   have hs : (enN l i).s = i := by simp [enN, mkEn, hp2]
   rw [hs] at hbs
   refine kn _ _ (Kl_next (l.length - (i + 1)) 1 (by omega) ⟨i + 1, rfl, h, rfl, rfl⟩ (by simp [Tm.get, nxt h hA]) (by simp) ?_ ⟨rlb_i64s, trivial⟩ (by omega))
   rw [← hbs, hS]
   simp
 ·have : i = l.length := by omega
  subst this
  simp (maxSteps := 3000000) [go_sem,-List.length_flatten,-List.map_drop,-List.map_take, kx, h]
  rw [← hQ, ← begsL_all]
  generalize begsL l l.length l.length = s at *
  rw [← hbl]
  simp (maxSteps := 3000000) [go_sem,-List.length_flatten,-List.map_drop,-List.map_take]
  rw [chunk_one]
  simp [Function.comp_def]
end Go.AM

namespace Go.AM
open Go.Proofs
set_option maxRecDepth 100000
set_option linter.unusedVariables false
set_option linter.unusedSimpArgs false
attribute [local go_sem] Function.comp_def argsT Opd.ev Tm.get put ares mapMo ares1 snilP bldParts bslParts putAt AV.cells AV.one astore aload loadCs callArgs abin abinInt aapp elems appMore appNone preLen aFa aFld apart aExt aPick aNot aLens aEqa cellsK fitsA LK.fitsA leavesA leafA nilD aNilc aCint aCid alive alen alenOk Rle lePs len_flat
theorem rev_take {α : Type} [Inhabited α] {b : List α} {k : Nat} (h : k < b.length) : b.reverse.take (k + 1) = b.reverse.take k ++ [gi b ((b.length - 1 - k : Nat) : Int)] := by
 rw [List.take_succ_eq_append_getElem (by simpa using h)]
 congr 1
 simp [gi, List.getD, List.getElem_reverse, show b.length - 1 - k < b.length by omega]
/-- The places of the first ones of a row. -/
def rsK (st : List En) (k : Nat) : List Int := (st.take k).map fun e => (e.r : Int)
theorem rsK_len {st : List En} {k : Nat} (h : k ≤ st.length) : (rsK st k).length = k := by simp [rsK]; omega
theorem rsK_succ {st : List En} {k : Nat} (h : k < st.length) : rsK st (k + 1) = rsK st k ++ [((gi st (k : Int)).r : Int)] := by
 unfold rsK
 rw [List.take_succ_eq_append_getElem h, List.map_append]
 simp [gi, List.getD, h]
theorem c56_ok : cFn Tryz.prog an0 Tryz.f56 = some c56 := by kernel_rfl
theorem rkids_PF {l : List Nd} {i : Nat} {S : List Int} (hB : Begs l i S) (hg : goodN l (i + 1)) (hi : i < l.length) (hl : l.length ≤ 1048576) :
  PF Tryz.prog 56 [nds l, ints S, i64 i] (ints ((kidsN l i).map fun e => (e.r : Int))) := by
 obtain ⟨hp0, hp⟩ := hg i (by omega)
 have hpe : partsN (gi l i) = (pN (gi l i) : Int) := by unfold pN; omega
 have hkid := fun k hk => kid_at (l := l) (i := i) (k := k) (hg.sub (by omega)) hk
 have hsl := stk_le l i
 refine PFk 9 hm Tryz.func56 c56_ok (Nat.le_of_ble_eq_true rfl) (by simp) (by simp) ?_
 unfold kidsN
 generalize hst : stk l i = st at *
 have hpx := parts46_PF (gi l i)
 rw [hpe] at hpx
 generalize hpp : pN (gi l i) = p at *
 generalize hQ : Rle 9 (ints (((st.take p).reverse).map fun e => (e.r : Int))) = Q
 have hw1 : IntKind.i64.wrap ((i : Int) - 1) = (i : Int) - 1 := w64 (by omega) (by omega)
 simp (maxSteps := 3000000) [go_sem,-List.length_flatten,-List.map_drop,-List.map_take, c56, hw1]
 refine run_loopK (fun m T H => ∃ (k g : Nat), m = p - k ∧ k ≤ p ∧ T = [(9, i64 k), (8, i64 ((if k = 0 then (i : Int) else ((gi st ((k - 1 : Nat) : Int)).s : Int)) - 1)), (7, .loc 0 g 0 k 1 false), (0, nds l), (1, ints S), (2, i64 i)] ∧ H = [.cells g (i64s (rsK st k))]) p
  [(9, i64 (0 : Nat)), (8, i64 ((i : Int) - 1)), (7, .loc 0 0 0 0 1 false), (0, nds l), (1, ints S), (2, i64 i)] [.cells 0 []]
  ((Wk.nil 7 1 (by simp [Tm.get])).trans (Wk.tell 1 (by omega) (by simp [Tm.get]) (by simp) (by simp) (by simp [RLB]))) ⟨0, 0, rfl, by omega, rfl, rfl⟩ ?_
 rintro m T H ⟨k, g, rfl, hk, rfl, rfl⟩ KK kx kr kn
 have hilI : (i : Int) < l.length := by omega
 simp (maxSteps := 3000000) [go_sem,-List.length_flatten,-List.map_drop,-List.map_take, hilI]
 refine PF.call hpx 9 (by simp [lePs]) ?_
 by_cases h : k < p
 ·obtain ⟨k1, k2, k3, k4⟩ := hkid k (by omega)
  have e0 : ((if k = 0 then (i : Int) else ((gi st ((k - 1 : Nat) : Int)).s : Int)) - 1) = ((gi st (k : Int)).r : Int) := by
   by_cases h0 : k = 0
   ·simp only [h0, if_true] at k1 ⊢; omega
   ·simp only [h0, if_false] at k1 ⊢; omega
  have hS2 := hB.1
  have hval := hB.2 (gi st (k : Int)).r k2
  rw [← k3] at hval
  have hrS : (gi st (k : Int)).r < S.length := by omega
  have hws : IntKind.i64.wrap (((gi st (k : Int)).s : Int) - 1) = ((gi st (k : Int)).s : Int) - 1 := w64 (by omega) (by omega)
  have hkl := rsK_len (st := st) (k := k) (by omega)
  have htk := rsK_succ (st := st) (k := k) (by omega)
  have hap := i64s_app (rsK st k) ((gi st (k : Int)).r : Int)
  rw [hkl, ← htk] at hap
  rw [e0]
  have hwk : IntKind.i64.wrap ((k : Int) + 1) = ((k + 1 : Nat) : Int) := nxt (n := p) h (by unfold maxA; omega)
  generalize (gi st (k : Int)).r = r at *
  have hkA : k + 1 ≤ maxA := by unfold maxA; omega
  simp (maxSteps := 3000000) [go_sem,-List.length_flatten,-List.map_drop,-List.map_take, Kc, h, hkl, hap, hrS, hval, hws, hkA]
  intros
  refine kn _ _ (Kl_next (p - (k + 1)) 1 (by omega) ⟨k + 1, g + 1, rfl, h, rfl, rfl⟩ (by simp [Tm.get, hwk]) (by simp) (by simp) ⟨rlb_i64s, trivial⟩ (by omega))
 ·have : k = p := by omega
  subst this
  have hkl := rsK_len (st := st) (k := k) (by omega)
  have hrv : ((st.take k).reverse).map (fun e => (e.r : Int)) = (rsK st k).reverse := by simp [rsK]
  rw [hrv] at hQ
  generalize rsK st k = b at *
  have hw2 : IntKind.i64.wrap ((k : Int) - 1) = (k : Int) - 1 := w64 (by omega) (by omega)
  simp (maxSteps := 3000000) [go_sem,-List.length_flatten,-List.map_drop,-List.map_take, Kc, kx, hw2]
  intros
  refine run_loopK (fun m T H => ∃ (q g2 : Nat), m = k - q ∧ q ≤ k ∧ T = [(11, i64 ((k : Int) - 1 - q)), (10, .loc 1 g2 0 q 1 false), (7, .loc 0 g 0 k 1 false)] ∧ H = [.cells g (i64s b), .cells g2 (i64s (b.reverse.take q))]) k
   [(11, i64 ((k : Int) - 1 - (0 : Nat))), (10, .loc 1 0 0 0 1 false), (7, .loc 0 g 0 k 1 false)] [.cells g (i64s b), .cells 0 []]
   ((Wk.nil 10 1 (by simp [Tm.get])).trans (Wk.tell 2 (by omega) (by simp [Tm.get]) (by simp) (by simp) ⟨rlb_i64s, by simp [RLB], trivial⟩)) ⟨0, 0, rfl, by omega, rfl, by simp⟩ ?_
  rintro m T H ⟨q, g2, rfl, hq, rfl, rfl⟩ KK2 kx2 kr2 kn2
  by_cases h2 : q < k
  ·obtain ⟨z, hz⟩ : ∃ z : Nat, (k : Int) - 1 - q = z := ⟨k - 1 - q, by omega⟩
   have hz2 : z = b.length - 1 - q := by omega
   have hzk : z < k := by omega
   have hld := loadCs_drop (f := fun n : Int => AV.int IntKind.i64 n) (l := b) (k := z) (by omega)
   have hrt := rev_take (b := b) (k := q) (by omega)
   rw [← hz2] at hrt
   have hql : (b.reverse.take q).length = q := by simp; omega
   have hap := i64s_app (b.reverse.take q) (gi b (z : Int))
   rw [hql, ← hrt] at hap
   have hwz : IntKind.i64.wrap ((z : Int) - 1) = (k : Int) - 1 - ((q + 1 : Nat) : Int) := by rw [w64 (by omega) (by omega)]; omega
   have hqA : q + 1 ≤ maxA := by unfold maxA; omega
   have hz0 : (0 : Int) ≤ z := by omega
   rw [hz]
   generalize hL : b.reverse.take q = L at *
   simp (maxSteps := 3000000) [go_sem,-List.length_flatten,-List.map_drop,-List.map_take, hzk, ↓hld, hap, hql, hqA, hz0]
   intros
   refine kn2 _ _ (Kl_next (k - (q + 1)) 2 (by omega) ⟨q + 1, g2 + 1, rfl, h2, rfl, rfl⟩ (by simp [Tm.get, hwz]) (by simp) (by simp) ⟨rlb_i64s, rlb_i64s, trivial⟩ (by omega))
  ·have : q = k := by omega
   subst this
   have e11 : (q : Int) - 1 - q = -1 := by omega
   rw [e11]
   have e : b.reverse.take q = b.reverse := List.take_of_length_le (by simp; omega)
   rw [e]
   have hl2 : q = b.reverse.length := by simp [hkl]
   generalize b.reverse = s at *
   simp (maxSteps := 3000000) [go_sem,-List.length_flatten,-List.map_drop,-List.map_take, kx2]
   rw [← hQ, hl2]
   simp (maxSteps := 3000000) [go_sem,-List.length_flatten,-List.map_drop,-List.map_take]
   rw [chunk_one]
   simp [Function.comp_def]
end Go.AM

namespace Go.AM
open Go.Proofs
set_option maxRecDepth 100000
set_option linter.unusedVariables false
set_option linter.unusedSimpArgs false
attribute [local go_sem] Function.comp_def argsT Opd.ev Tm.get put ares mapMo ares1 snilP bldParts bslParts putAt AV.cells AV.one astore aload loadCs callArgs abin abinInt aapp elems appMore appNone preLen aFa aFld apart aExt aPick aNot aLens aEqa cellsK fitsA LK.fitsA leavesA leafA nilD aNilc aCint aCid alive alen alenOk Rle lePs len_flat
def begsT (l : List Nd) (i : Nat) : List Int := (List.range i).map fun j => ((enN l j).s : Int)
theorem begsT_len (l : List Nd) (i : Nat) : (begsT l i).length = i := by simp [begsT]
theorem begsT_at {l : List Nd} {i r : Nat} (h : r < i) : gi (begsT l i) (r : Int) = ((enN l r).s : Int) := by simp [begsT, gi, List.getD, h]
theorem begsT_succ (l : List Nd) (i : Nat) : begsT l (i + 1) = begsT l i ++ [((enN l i).s : Int)] := by simp [begsT, List.range_succ]
theorem c55_ok : cFn Tryz.prog an0 Tryz.f55 = some c55 := by kernel_rfl
theorem rstarts_PF {l : List Nd} (hg : goodN l l.length) (hl : l.length ≤ 1048576) : PF Tryz.prog 55 [nds l] (ints (begAll l)) := by
 refine PFk 9 hm Tryz.func55 c55_ok (Nat.le_of_ble_eq_true rfl) (by simp) (by simp) ?_
 generalize hQ : Rle 9 (ints (begAll l)) = Q
 simp (maxSteps := 3000000) [go_sem,-List.length_flatten,-List.map_drop,-List.map_take, c55]
 refine run_loopK (fun m T H => ∃ (i g : Nat), m = l.length - i ∧ i ≤ l.length ∧ T = [(4, i64 i), (3, .loc 0 g 0 i 1 false), (0, nds l)] ∧ H = [.cells g (i64s (begsT l i))]) l.length
  [(4, i64 (0 : Nat)), (3, .loc 0 0 0 0 1 false), (0, nds l)] [.cells 0 []]
  ((Wk.nil 3 1 (by simp [Tm.get])).trans (Wk.tell 1 (by omega) (by simp [Tm.get]) (by simp) (by simp) (by simp [RLB]))) ⟨0, 0, rfl, by omega, rfl, rfl⟩ ?_
 rintro m T H ⟨i, g, rfl, hi, rfl, rfl⟩ KK kx kr kn
 by_cases h : i < l.length
 ·obtain ⟨hp0, hp⟩ := hg i h
  have hpe : partsN (gi l i) = (pN (gi l i) : Int) := by unfold pN; omega
  have hkid := fun k hk => kid_at (l := l) (i := i) (k := k) (hg.sub (by omega)) hk
  have hsl := stk_le l i
  have hss : ((enN l i).s : Int) = if pN (gi l i) = 0 then (i : Int) else ((gi (stk l i) ((pN (gi l i) - 1 : Nat) : Int)).s : Int) := by
   unfold enN mkEn
   simp only
   split <;> rfl
  generalize hst : stk l i = st at *
  have hpx := parts46_PF (gi l i)
  rw [hpe] at hpx
  generalize hpp : pN (gi l i) = p at *
  have hbl := begsT_len l i
  have hap := i64s_app (begsT l i) ((enN l i).s : Int)
  rw [hbl, ← begsT_succ] at hap
  have hilI : (i : Int) < l.length := by omega
  have hiA : i + 1 ≤ maxA := by unfold maxA; omega
  simp (maxSteps := 3000000) [go_sem,-List.length_flatten,-List.map_drop,-List.map_take, hilI]
  intro hA
  refine run_loopK (fun m T H => ∃ k : Nat, m = p - k ∧ k ≤ p ∧ T = [(6, i64 k), (5, i64 (if k = 0 then (i : Int) else ((gi st ((k - 1 : Nat) : Int)).s : Int))), (4, i64 i), (3, .loc 0 g 0 i 1 false), (0, nds l)] ∧ H = [.cells g (i64s (begsT l i))]) p
   [(6, i64 (0 : Nat)), (5, i64 i), (4, i64 i), (3, .loc 0 g 0 i 1 false), (0, nds l)] [.cells g (i64s (begsT l i))]
   (Wk.tell 1 (by omega) (by simp [Tm.get]) (by simp) (by simp) ⟨rlb_i64s, trivial⟩) ⟨0, rfl, by omega, rfl, rfl⟩ ?_
  rintro m T H ⟨k, rfl, hk, rfl, rfl⟩ KK2 kx2 kr2 kn2
  simp (maxSteps := 3000000) [go_sem,-List.length_flatten,-List.map_drop,-List.map_take, hilI]
  refine PF.call hpx 9 (by simp [lePs]) ?_
  by_cases h2 : k < p
  ·obtain ⟨k1, k2, k3, k4⟩ := hkid k (by omega)
   have e0 : IntKind.i64.wrap ((if k = 0 then (i : Int) else ((gi st ((k - 1 : Nat) : Int)).s : Int)) - 1) = ((gi st (k : Int)).r : Int) := by
    by_cases h0 : k = 0
    ·simp only [h0, if_true] at k1 ⊢; rw [w64 (by omega) (by omega)]; omega
    ·simp only [h0, if_false] at k1 ⊢; rw [w64 (by omega) (by omega)]; omega
   have hval := begsT_at (l := l) (i := i) (r := (gi st (k : Int)).r) k2
   rw [← k3] at hval
   have hld := loadCs_drop (f := fun n : Int => AV.int IntKind.i64 n) (l := begsT l i) (k := (gi st (k : Int)).r) (by omega)
   rw [hval] at hld
   have hwk : IntKind.i64.wrap ((k : Int) + 1) = ((k + 1 : Nat) : Int) := nxt (n := p) h2 (by unfold maxA; omega)
   simp (maxSteps := 3000000) [go_sem,-List.length_flatten,-List.map_drop,-List.map_take, Kc, h2, e0, k2, ↓hld]
   refine kn2 _ _ (Kl_next (p - (k + 1)) 1 (by omega) ⟨k + 1, rfl, h2, rfl, rfl⟩ (by simp [Tm.get, hwk]) (by simp) (by simp) ⟨rlb_i64s, trivial⟩ (by omega))
  ·have : k = p := by omega
   subst this
   rw [← hss]
   simp (maxSteps := 3000000) [go_sem,-List.length_flatten,-List.map_drop,-List.map_take, Kc, kx2, hbl, hap, hiA]
   intros
   refine kn _ _ (Kl_next (l.length - (i + 1)) 1 (by omega) ⟨i + 1, g + 1, rfl, h, rfl, rfl⟩ (by simp [Tm.get, nxt h hA]) (by simp) (by simp) ⟨rlb_i64s, trivial⟩ (by omega))
 ·have : i = l.length := by omega
  subst this
  have e : begsT l l.length = begAll l := rfl
  have hbl := begsT_len l l.length
  rw [e] at hbl ⊢
  simp (maxSteps := 3000000) [go_sem,-List.length_flatten,-List.map_drop,-List.map_take, kx, h]
  rw [← hQ]
  generalize begAll l = s at *
  rw [← hbl]
  simp (maxSteps := 3000000) [go_sem,-List.length_flatten,-List.map_drop,-List.map_take]
  rw [chunk_one]
  simp [Function.comp_def]
end Go.AM

namespace Go.AM
open Go.Proofs
set_option maxRecDepth 100000
set_option linter.unusedVariables false
set_option linter.unusedSimpArgs false
attribute [local go_sem] Function.comp_def argsT Opd.ev Tm.get put ares mapMo ares1 snilP bldParts bslParts putAt AV.cells AV.one astore aload loadCs callArgs abin abinInt aapp elems appMore appNone preLen aFa aFld apart aExt aPick aNot aLens aEqa cellsK fitsA LK.fitsA leavesA leafA nilD aNilc aCint aCid alive alen alenOk Rle lePs len_flat
/-! ### Writing an expression -/
abbrev strL (l : List ByteArray) : List AV := l.map AV.str
def txts (l : List Nd) (i : Nat) : List ByteArray := (List.range i).map fun j => (enN l j).t
def dps (l : List Nd) (i : Nat) : List Int := (List.range i).map fun j => (enN l j).d
theorem txts_len (l : List Nd) (i : Nat) : (txts l i).length = i := by simp [txts]
theorem dps_len (l : List Nd) (i : Nat) : (dps l i).length = i := by simp [dps]
theorem txts_at {l : List Nd} {i r : Nat} (h : r < i) : gi (txts l i) (r : Int) = (enN l r).t := by simp [txts, gi, List.getD, h]
theorem dps_at {l : List Nd} {i r : Nat} (h : r < i) : gi (dps l i) (r : Int) = (enN l r).d := by simp [dps, gi, List.getD, h]
theorem txts_succ (l : List Nd) (i : Nat) : txts l (i + 1) = txts l i ++ [(enN l i).t] := by simp [txts, List.range_succ]
theorem dps_succ (l : List Nd) (i : Nat) : dps l (i + 1) = dps l i ++ [(enN l i).d] := by simp [dps, List.range_succ]
theorem rlb_strL {n g : Nat} {l : List ByteArray} : RLB n (.cells g (strL l)) := by
 intro y hy
 obtain ⟨b, _, rfl⟩ := List.mem_map.1 hy
 exact .str b
theorem strL_app (l : List ByteArray) (x : ByteArray) : List.take l.length (strL l) ++ [AV.str x] = strL (l ++ [x]) := by
 rw [List.take_of_length_le (by simp)]
 simp
/-- A writer, behind so many nodes. -/
structure Wr (H : AHeap) (j g0 k1 g1 k2 g2 : Nat) (l : List Nd) (i : Nat) : Prop where
 w : H[j]? = some (.cells g0 [nds l, ints (begAll l), .loc k1 g1 0 i 1 false, .loc k2 g2 0 i 1 false])
 t : H[k1]? = some (.cells g1 (strL (txts l i)))
 d : H[k2]? = some (.cells g2 (i64s (dps l i)))
 rl : ∀ b ∈ H, RLB H.length b
/-- Each part is no deeper than its place. -/
theorem dp_range {l : List Nd} : ∀ (i : Nat), goodN l (i + 1) → (∀ j : Nat, j ≤ i → two (gi l j).kind = true → pN (gi l j) = 2) → (∀ j : Nat, j ≤ i → (gi l j).kind = 6 → pN (gi l j) = 1) → 0 ≤ (enN l i).d ∧ (enN l i).d ≤ i := by
 intro i
 induction i using Nat.strongRecOn with
 | _ i ih =>
  intro hg h2 h6
  have hk : ∀ k : Nat, k < pN (gi l i) → 0 ≤ (gi (kidsN l i) (k : Int)).d ∧ (gi (kidsN l i) (k : Int)).d + 1 ≤ i := fun k hk => by
   have h := kids_en hg hk
   have h3 := ih (gi (kidsN l i) (k : Int)).r h.1 (hg.sub (by omega)) (fun j hj => h2 j (by omega)) (fun j hj => h6 j (by omega))
   rw [← h.2] at h3
   omega
  have hlen := kids_len (hg i (by omega)).2
  have e : (enN l i).d = dpN (gi l i) (kidsN l i) := rfl
  rw [e]
  generalize kidsN l i = ks at *
  have hb : ∀ (b : Bool) (k : Nat), k < pN (gi l i) → 0 ≤ brD b (gi ks (k : Int)).d ∧ brD b (gi ks (k : Int)).d ≤ i := fun b k hk' => by
   have := hk k hk'
   unfold brD
   split <;> omega
  unfold dpN
  split
  ·split
   ·omega
   ·have : ∀ (xs : List En) (m : Int), 0 ≤ m ∧ m + 1 ≤ i → (∀ x ∈ xs, 0 ≤ x.d ∧ x.d + 1 ≤ i) → 0 ≤ xs.foldl (fun m e => if m < e.d then e.d else m) m ∧ xs.foldl (fun m e => if m < e.d then e.d else m) m + 1 ≤ i := by
     intro xs
     induction xs with
     | nil => intro m hm _; exact hm
     | cons x xs ihx =>
      intro m hm hx
      simp only [List.foldl_cons]
      refine ihx _ ?_ (fun y hy => hx y (by simp [hy]))
      have := hx x (by simp)
      split <;> omega
    rename_i h3 hn
    have hp1 : 0 < pN (gi l i) := by
     have h0 := (hg i (by omega)).1
     unfold pN
     unfold partsN at h0 ⊢
     rw [if_neg (by omega)] at h0 ⊢
     omega
    have h1 := hk 0 hp1
    have := this ks 0 (by omega) (fun x hx => by
     obtain ⟨q, q1, q2⟩ := List.getElem_of_mem hx
     have := hk q (by omega)
     rw [← q2]
     simpa [gi, List.getD, q1] using this)
    unfold maxD
    omega
  ·split
   ·rename_i hkk
    have hp := h2 i (Nat.le_refl _) hkk
    have b0 := fun b => hb b 0 (by omega)
    have b1 := fun b => hb b 1 (by omega)
    simp only [Int.natCast_zero, Int.natCast_one] at b0 b1
    split
    ·exact b1 _
    ·exact b0 _
   ·split
    ·rename_i hkk
     have hp := h6 i (Nat.le_refl _) hkk
     have := hk 0 (by omega)
     simp only [Int.natCast_zero] at this
     omega
    ·omega
/-- What a row of nodes must be, that its text may be written. -/
structure Shp (l : List Nd) : Prop where
 good : goodN l l.length
 two : ∀ j : Nat, j < l.length → two (gi l j).kind = true → pN (gi l j) = 2
 six : ∀ j : Nat, j < l.length → (gi l j).kind = 6 → pN (gi l j) = 1 ∧ 0 ≤ (gi l j).n ∧ (gi l j).n < 10
 kinds : ∀ j : Nat, j < l.length → 0 ≤ (gi l j).kind ∧ (gi l j).kind ≤ 6
 len : l.length ≤ 1048576
 size : l.foldl (fun s x => s + (x.name.size + 12)) 0 ≤ 1099511627776
theorem Shp.dp {l : List Nd} (h : Shp l) {i : Nat} (hi : i < l.length) : 0 ≤ (enN l i).d ∧ (enN l i).d ≤ i := dp_range i (h.good.sub hi) (fun j hj => h.two j (by omega)) (fun j hj e => (h.six j (by omega) e).1)
def wsum (l : List Nd) (i : Nat) : Nat := (l.take i).foldl (fun s x => s + (x.name.size + 12)) 0
theorem wsum_succ {l : List Nd} {i : Nat} (h : i < l.length) : wsum l (i + 1) = wsum l i + ((gi l i).name.size + 12) := foldl_take _ _ _ _ h
theorem wsum_le (l : List Nd) (i : Nat) : wsum l i ≤ l.foldl (fun s x => s + (x.name.size + 12)) 0 := by
 have : ∀ (l : List Nd) (s : Nat), s ≤ l.foldl (fun s x => s + (x.name.size + 12)) s := by
  intro l
  induction l with
  | nil => intro s; exact Nat.le_refl _
  | cons x l ih => intro s; exact Nat.le_trans (Nat.le_add_right s (x.name.size + 12)) (ih _)
 unfold wsum
 conv => rhs; rw [← List.take_append_drop i l, List.foldl_append]
 exact this _ _
def tsum (st : List En) : Nat := (st.map fun e => e.t.size + 3).sum
theorem tsum_app (a b : List En) : tsum (a ++ b) = tsum a + tsum b := by simp [tsum]
theorem tsum_rev (a : List En) : tsum a.reverse = tsum a := by simp [tsum, List.map_reverse, List.sum_reverse]
theorem tsum_mem {st : List En} {e : En} (h : e ∈ st) : e.t.size + 3 ≤ tsum st := by
 obtain ⟨a, b, rfl⟩ := List.append_of_mem h
 simp only [tsum, List.map_append, List.map_cons, List.sum_append, List.sum_cons]
 omega
theorem join_size : ∀ ks : List En, (joinB (ks.map (·.t))).size ≤ tsum ks
 | [] => Nat.zero_le _
 | [x] => by simp [joinB, tsum]
 | x :: y :: ks => by
  have ih := join_size (y :: ks)
  simp only [List.map_cons, joinB, ByteArray.size_append] at ih ⊢
  simp only [tsum, List.map_cons, List.sum_cons] at ih ⊢
  have : (⟨#[44]⟩ : ByteArray).size = 1 := rfl
  omega
theorem brT_size (b : Bool) (t : ByteArray) : (brT b t).size ≤ t.size + 2 := by
 unfold brT
 split
 ·simp only [ByteArray.size_append]
  have : (⟨#[40]⟩ : ByteArray).size = 1 := rfl
  have : (⟨#[41]⟩ : ByteArray).size = 1 := rfl
  omega
 ·omega
theorem txtN_size {x : Nd} {ks : List En} (h2 : two x.kind = true → ks.length = 2) (h6 : x.kind = 6 → ks.length = 1) : (txtN x ks).size + 3 ≤ tsum ks + (x.name.size + 12) := by
 have s1 : ∀ c : UInt8, (⟨#[c]⟩ : ByteArray).size = 1 := fun c => rfl
 unfold txtN
 split
 ·simp only [s1]; omega
 split
 ·simp only [s1]; omega
 split
 ·split
  ·omega
  ·have := join_size ks
   simp only [ByteArray.size_append, s1]
   omega
 split
 ·rename_i h
  have hl := h2 h
  match ks, hl with
  | [a, b], _ =>
   have b1 := brT_size (brk x.kind true a) a.t
   have b2 := brT_size (brk x.kind false b) b.t
   simp only [ByteArray.size_append, s1]
   simp only [gi, tsum, List.getD, List.map_cons, List.map_nil, List.sum_cons, List.sum_nil] at *
   simp at *
   omega
 split
 ·rename_i h
  have hl := h6 h
  match ks, hl with
  | [a], _ =>
   have b1 := brT_size true a.t
   simp only [ByteArray.size_append, s1]
   simp only [gi, tsum, List.getD, List.map_cons, List.map_nil, List.sum_cons, List.sum_nil] at *
   simp at *
   omega
 ·omega
theorem Shp.tsum {l : List Nd} (h : Shp l) : ∀ i, i ≤ l.length → Go.AM.tsum (stk l i) ≤ wsum l i
 | 0, _ => by simp [stk, Go.AM.tsum]
 | i + 1, hi => by
  have ih := h.tsum i (by omega)
  have hp := (h.good i (by omega)).2
  have hk := kids_len hp
  have := txtN_size (x := gi l i) (ks := kidsN l i) (fun e => by rw [hk]; exact h.two i (by omega) e) (fun e => by rw [hk]; exact (h.six i (by omega) e).1)
  rw [wsum_succ (by omega), stk]
  have e1 : Go.AM.tsum (stk l i) = Go.AM.tsum (kidsN l i) + Go.AM.tsum ((stk l i).drop (pN (gi l i))) := by
   unfold kidsN
   rw [tsum_rev, ← tsum_app, List.take_append_drop]
  have e2 : Go.AM.tsum (mkEn (gi l i) i (stk l i) :: (stk l i).drop (pN (gi l i))) = ((txtN (gi l i) (kidsN l i)).size + 3) + Go.AM.tsum ((stk l i).drop (pN (gi l i))) := by
   simp only [Go.AM.tsum, List.map_cons, List.sum_cons]
   rfl
  rw [e2]
  omega
theorem Shp.tx {l : List Nd} (h : Shp l) {i : Nat} (hi : i < l.length) : (enN l i).t.size + 3 ≤ 1099511627776 := by
 have h1 := h.tsum (i + 1) hi
 have h2 := wsum_le l (i + 1)
 have h3 := tsum_mem (st := stk l (i + 1)) (e := enN l i) (by rw [stk]; exact List.mem_cons_self)
 have := h.size
 omega
theorem c103_ok : cFn Tryz.prog an0 Tryz.f103 = some c103 := by kernel_rfl
theorem kid_FT {H : AHeap} {j g0 k1 g1 k2 g2 : Nat} {l : List Nd} {i r : Nat} (h : Wr H j g0 k1 g1 k2 g2 l i) (hr : r < i) (b : Bool) (hs : Shp l) (hi : i ≤ l.length) :
  FT Tryz.prog 103 [.ptr j g0 0, i64 r, .bool b] H (fun rv H' => rv = .tuple [.str (brT b (enN l r).t), i64 (brD b (enN l r).d)] ∧ H' = H) := by
 refine FTt hm Tryz.func103 c103_ok (Nat.le_of_ble_eq_true rfl) ?_
 have hw := h.w
 have ht := h.t
 have hdd := h.d
 have hrl := h.rl
 have hl1 := loadCs_drop (f := fun s : ByteArray => AV.str s) (l := txts l i) (k := r) (by rw [txts_len]; exact hr)
 rw [txts_at hr] at hl1
 have hl2 := loadCs_drop (f := fun n : Int => AV.int IntKind.i64 n) (l := dps l i) (k := r) (by rw [dps_len]; exact hr)
 rw [dps_at hr] at hl2
 have hd := hs.dp (i := r) (by omega)
 have hts := hs.tx (i := r) (by omega)
 have hln := hs.len
 have hwd : IntKind.i64.wrap ((enN l r).d + 1) = (enN l r).d + 1 := w64 (by omega) (by omega)
 have hj1 := lt_of_get hw
 cases b with
 | false =>
  simp (maxSteps := 3000000) [go_sem,-List.length_flatten,-List.map_drop,-List.map_take, c103, hw, ht, hdd, hr, ↓hl1, ↓hl2]
  exact ⟨hrl, rfl, rfl⟩
 | true =>
  simp (maxSteps := 3000000) [go_sem,-List.length_flatten,-List.map_drop,-List.map_take, c103, hw, ht, hdd, hr, ↓hl1, ↓hl2, hwd]
  exact ⟨by omega, by omega, hrl, rfl, rfl⟩
end Go.AM
