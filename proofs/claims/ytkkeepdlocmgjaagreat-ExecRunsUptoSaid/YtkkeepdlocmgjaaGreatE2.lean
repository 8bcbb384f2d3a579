/- Contracts of the program's functions. -/
import Derived.Test.YtkkeepdlocmgjaaGreatE1
import Derived.KernelRfl
namespace Go.AM
open Go.Proofs
set_option maxRecDepth 100000
set_option linter.unusedVariables false
set_option linter.unusedSimpArgs false
/-! ### The words of a text -/
abbrev isB (r : AV) : Prop := ∃ b, r = .bool b
theorem isB_RL : ∀ r, isB r → RL 0 r := by rintro r ⟨b, rfl⟩; simp
theorem e91 (c : Int) : PFE Tryz.prog 96 [.int .u8 c] isB := by
 refine PFEk 9 hm Tryz.func96 c96_ok (Nat.le_of_ble_eq_true rfl) (by simp) isB_RL ?_
 simp (maxSteps := 3000000) [-List.length_flatten,-List.map_drop,-List.map_take,Function.comp_def,argsT,Opd.ev,Tm.get,put,ares,mapMo,ares1,snilP,bldParts,bslParts,putAt,AV.cells,AV.one,astore,aload,loadCs,callArgs,abin,abinInt,aapp,elems,appMore,appNone,preLen,aFa,aFld,apart,aExt,aPick,aNot,aLens,aEqa,cellsK,fitsA,LK.fitsA,leavesA,leafA,nilD,aNilc,aCint,aCid,alive,alen,alenOk,Rle,lePs,len_flat, c96]
 repeat' (first | apply And.intro | intro _)
 all_goals exact ⟨_, ⟨_, rfl⟩, by simp; rfl⟩
theorem e92 (c : Int) : PFE Tryz.prog 97 [.int .u8 c] isB := by
 refine PFEk 9 hm Tryz.func97 c97_ok (Nat.le_of_ble_eq_true rfl) (by simp) isB_RL ?_
 simp (maxSteps := 3000000) [-List.length_flatten,-List.map_drop,-List.map_take,Function.comp_def,argsT,Opd.ev,Tm.get,put,ares,mapMo,ares1,snilP,bldParts,bslParts,putAt,AV.cells,AV.one,astore,aload,loadCs,callArgs,abin,abinInt,aapp,elems,appMore,appNone,preLen,aFa,aFld,apart,aExt,aPick,aNot,aLens,aEqa,cellsK,fitsA,LK.fitsA,leavesA,leafA,nilD,aNilc,aCint,aCid,alive,alen,alenOk,Rle,lePs,len_flat, c97]
 repeat' (first | apply And.intro | intro _)
 all_goals exact ⟨_, ⟨_, rfl⟩, by simp; rfl⟩
theorem e94 (c : Int) : PFE Tryz.prog 99 [.int .u8 c] isB := by
 refine PFEk 9 hm Tryz.func99 c99_ok (Nat.le_of_ble_eq_true rfl) (by simp) isB_RL ?_
 simp (maxSteps := 3000000) [-List.length_flatten,-List.map_drop,-List.map_take,Function.comp_def,argsT,Opd.ev,Tm.get,put,ares,mapMo,ares1,snilP,bldParts,bslParts,putAt,AV.cells,AV.one,astore,aload,loadCs,callArgs,abin,abinInt,aapp,elems,appMore,appNone,preLen,aFa,aFld,apart,aExt,aPick,aNot,aLens,aEqa,cellsK,fitsA,LK.fitsA,leavesA,leafA,nilD,aNilc,aCint,aCid,alive,alen,alenOk,Rle,lePs,len_flat, c99]
 refine run_countK 14 3 [(0, .int .u8 c)] [] (fun _ => True) (Wk.tell 0 (Nat.le_refl _) (by simp [Tm.get]) (by simp) rfl (by simp)) trivial ?_
 intro i hi _ KK kx kr kn
 by_cases h : i < 14
 ·have h' : (i : Int) < 14 := by omega
  have hs : (⟨#[40, 41, 44, 124, 38, 126, 43, 45, 61, 42, 123, 125, 59, 58]⟩ : ByteArray).size = 14 := rfl
  simp (maxSteps := 3000000) [-List.length_flatten,-List.map_drop,-List.map_take,Function.comp_def,argsT,Opd.ev,Tm.get,put,ares,mapMo,ares1,snilP,bldParts,bslParts,putAt,AV.cells,AV.one,astore,aload,loadCs,callArgs,abin,abinInt,aapp,elems,appMore,appNone,preLen,aFa,aFld,apart,aExt,aPick,aNot,aLens,aEqa,cellsK,fitsA,LK.fitsA,leavesA,leafA,nilD,aNilc,aCint,aCid,alive,alen,alenOk,Rle,lePs,len_flat, h', hs]
  refine ⟨fun _ => ?_, fun _ => ?_⟩
  ·simp (maxSteps := 3000000) [-List.length_flatten,-List.map_drop,-List.map_take,Function.comp_def,argsT,Opd.ev,Tm.get,put,ares,mapMo,ares1,snilP,bldParts,bslParts,putAt,AV.cells,AV.one,astore,aload,loadCs,callArgs,abin,abinInt,aapp,elems,appMore,appNone,preLen,aFa,aFld,apart,aExt,aPick,aNot,aLens,aEqa,cellsK,fitsA,LK.fitsA,leavesA,leafA,nilD,aNilc,aCint,aCid,alive,alen,alenOk,Rle,lePs,len_flat, kr]
   exact ⟨_, ⟨_, rfl⟩, by simp; rfl⟩
  ·exact kn _ _ (Kn_next 0 (by omega) (by omega) trivial (by simp [Tm.get, nxt h (by unfold maxA; omega)]) (by simp) rfl (by simp))
 ·have h' : ¬ (i : Int) < 14 := by omega
  simp (maxSteps := 3000000) [-List.length_flatten,-List.map_drop,-List.map_take,Function.comp_def,argsT,Opd.ev,Tm.get,put,ares,mapMo,ares1,snilP,bldParts,bslParts,putAt,AV.cells,AV.one,astore,aload,loadCs,callArgs,abin,abinInt,aapp,elems,appMore,appNone,preLen,aFa,aFld,apart,aExt,aPick,aNot,aLens,aEqa,cellsK,fitsA,LK.fitsA,leavesA,leafA,nilD,aNilc,aCint,aCid,alive,alen,alenOk,Rle,lePs,len_flat, h', kx]
  exact ⟨_, ⟨_, rfl⟩, by simp; rfl⟩
def q93 (r : AV) : Prop := ∃ (n : Int) (b : Bool), r = .tuple [i64 n, .bool b]
theorem e93 (s : ByteArray) : PFE Tryz.prog 98 [.str s] q93 := by
 refine PFEk 9 hm Tryz.func98 c98_ok (Nat.le_of_ble_eq_true rfl) (by simp) (by rintro r ⟨n, b, rfl⟩; simp) ?_
 by_cases h0 : s.size = 0
 ·simp (maxSteps := 3000000) [-List.length_flatten,-List.map_drop,-List.map_take,Function.comp_def,argsT,Opd.ev,Tm.get,put,ares,mapMo,ares1,snilP,bldParts,bslParts,putAt,AV.cells,AV.one,astore,aload,loadCs,callArgs,abin,abinInt,aapp,elems,appMore,appNone,preLen,aFa,aFld,apart,aExt,aPick,aNot,aLens,aEqa,cellsK,fitsA,LK.fitsA,leavesA,leafA,nilD,aNilc,aCint,aCid,alive,alen,alenOk,Rle,lePs,len_flat, c98, h0]
  exact .of (.tuple [i64 0, .bool false]) ⟨_, _, rfl⟩ (by simp [lePs, -List.length_flatten, -List.map_drop, -List.map_take, Function.comp_def, len_flat])
 by_cases h9 : 9 < (s.size : Int)
 ·simp (maxSteps := 3000000) [-List.length_flatten,-List.map_drop,-List.map_take,Function.comp_def,argsT,Opd.ev,Tm.get,put,ares,mapMo,ares1,snilP,bldParts,bslParts,putAt,AV.cells,AV.one,astore,aload,loadCs,callArgs,abin,abinInt,aapp,elems,appMore,appNone,preLen,aFa,aFld,apart,aExt,aPick,aNot,aLens,aEqa,cellsK,fitsA,LK.fitsA,leavesA,leafA,nilD,aNilc,aCint,aCid,alive,alen,alenOk,Rle,lePs,len_flat, c98, h0, h9]
  exact fun _ => .of (.tuple [i64 0, .bool false]) ⟨_, _, rfl⟩ (by simp [lePs, -List.length_flatten, -List.map_drop, -List.map_take, Function.comp_def, len_flat])
 have hp : 0 < s.size := by omega
 refine by_run Tryz.prog 0 ?c ?K (fun T H => (T.get 0 = .str s ∧ T.get 4 = i64 0 ∧ T.get 5 = i64 0) ∧ H = []) (fun key => ?main) ?sub
 case main =>
  simp (maxSteps := 3000000) [-List.length_flatten,-List.map_drop,-List.map_take,Function.comp_def,argsT,Opd.ev,Tm.get,put,ares,mapMo,ares1,snilP,bldParts,bslParts,putAt,AV.cells,AV.one,astore,aload,loadCs,callArgs,abin,abinInt,aapp,elems,appMore,appNone,preLen,aFa,aFld,apart,aExt,aPick,aNot,aLens,aEqa,cellsK,fitsA,LK.fitsA,leavesA,leafA,nilD,aNilc,aCint,aCid,alive,alen,alenOk,Rle,lePs,len_flat, c98, h0, h9, hp]
  intro _
  refine ⟨fun _ _ => ⟨fun _ => .of (.tuple [i64 0, .bool false]) ⟨_, _, rfl⟩ (by simp [lePs, -List.length_flatten, -List.map_drop, -List.map_take, Function.comp_def, len_flat]), fun _ => ?_⟩, fun _ => ?_⟩
  ·(refine key _ _ ?_; exact ⟨⟨rfl, rfl, rfl⟩, rfl⟩)
  ·(refine key _ _ ?_; exact ⟨⟨rfl, rfl, rfl⟩, rfl⟩)
 case sub =>
  rintro T _ ⟨⟨t0, t4, t5⟩, rfl⟩
  refine run_loopK (fun m T H => ∃ (i : Nat) (v : Int), m = s.size - i ∧ i ≤ s.size ∧ T = [(5, i64 i), (4, i64 v), (0, .str s)] ∧ H = []) s.size [(5, i64 (0 : Nat)), (4, i64 0), (0, .str s)] []
   (Wk.tell 0 (Nat.le_refl _) (by simp [t0, t4, t5]) (by simp) rfl (by simp)) ⟨0, 0, by simp, by omega, rfl, rfl⟩ ?_
  rintro m T H ⟨i, v, rfl, hi, rfl, rfl⟩ KK kx kr kn
  by_cases h : i < s.size
  ·simp (maxSteps := 3000000) [-List.length_flatten,-List.map_drop,-List.map_take,Function.comp_def,argsT,Opd.ev,Tm.get,put,ares,mapMo,ares1,snilP,bldParts,bslParts,putAt,AV.cells,AV.one,astore,aload,loadCs,callArgs,abin,abinInt,aapp,elems,appMore,appNone,preLen,aFa,aFld,apart,aExt,aPick,aNot,aLens,aEqa,cellsK,fitsA,LK.fitsA,leavesA,leafA,nilD,aNilc,aCint,aCid,alive,alen,alenOk,Rle,lePs,len_flat, h]
   intro _
   have nx : ∀ (T : Tm), al (fun p => T.get p.1 = p.2) [(5, i64 (i + 1 : Nat)), (0, .str s)] → (∃ v, T.get 4 = i64 v) → KK .normal T [] := fun T ht ⟨v', h4⟩ =>
    kn _ _ (Kl_next (s.size - (i + 1)) 0 (Nat.le_refl _) (T' := [(5, i64 (i + 1 : Nat)), (4, i64 v'), (0, .str s)]) ⟨i + 1, v', rfl, by omega, rfl, rfl⟩ ⟨ht.1, h4, ht.2⟩ (by simp) rfl (by simp) (by omega))
   repeat' (first | assumption | with_reducible apply And.intro | with_reducible intro _)
   all_goals first
    | exact nx _ (by simp [Tm.get, nxt h (show s.size ≤ maxA by unfold maxA; omega)]) ⟨_, rfl⟩
    | (simp (maxSteps := 3000000) [-List.length_flatten,-List.map_drop,-List.map_take,Function.comp_def,argsT,Opd.ev,Tm.get,put,ares,mapMo,ares1,snilP,bldParts,bslParts,putAt,AV.cells,AV.one,astore,aload,loadCs,callArgs,abin,abinInt,aapp,elems,appMore,appNone,preLen,aFa,aFld,apart,aExt,aPick,aNot,aLens,aEqa,cellsK,fitsA,LK.fitsA,leavesA,leafA,nilD,aNilc,aCint,aCid,alive,alen,alenOk,Rle,lePs,len_flat, kr]; exact RleE.self (by simp [q93]))
  ·simp (maxSteps := 3000000) [-List.length_flatten,-List.map_drop,-List.map_take,Function.comp_def,argsT,Opd.ev,Tm.get,put,ares,mapMo,ares1,snilP,bldParts,bslParts,putAt,AV.cells,AV.one,astore,aload,loadCs,callArgs,abin,abinInt,aapp,elems,appMore,appNone,preLen,aFa,aFld,apart,aExt,aPick,aNot,aLens,aEqa,cellsK,fitsA,LK.fitsA,leavesA,leafA,nilD,aNilc,aCint,aCid,alive,alen,alenOk,Rle,lePs,len_flat, h, kx]
   exact fun _ => RleE.self (by simp [q93])
def q64 (s : ByteArray) (at' : Nat) (r : AV) : Prop := ∃ (k : Int) (e : Nat), r = .tuple [i64 k, i64 e] ∧ (k ≠ 0 → at' < e ∧ e ≤ s.size)
theorem e64 (s : ByteArray) (at' : Nat) (hs : s.size ≤ 2000) (ha : at' < s.size) : PFE Tryz.prog 69 [.str s, i64 at'] (q64 s at') := by
  refine PFEk 9 hm Tryz.func69 c69_ok (Nat.le_of_ble_eq_true rfl) (by simp) (by rintro r ⟨n, b, rfl, _⟩; simp) ?_
  have hA : s.size ≤ maxA := by unfold maxA; omega
  have hA' : s.size ≤ 9223372036854775807 := by omega
  have e1 : IntKind.i64.wrap ((at' : Int) + 1) = (at' : Int) + 1 := by rw [nxt ha hA]; simp
  have e2 : IntKind.i64.wrap ((at' : Int) + 2) = (at' : Int) + 2 := by rw [w64 (by omega) (by omega)]
  simp (maxSteps := 3000000) [-List.length_flatten,-List.map_drop,-List.map_take,Function.comp_def,argsT,Opd.ev,Tm.get,put,ares,mapMo,ares1,snilP,bldParts,bslParts,putAt,AV.cells,AV.one,astore,aload,loadCs,callArgs,abin,abinInt,aapp,elems,appMore,appNone,preLen,aFa,aFld,apart,aExt,aPick,aNot,aLens,aEqa,cellsK,fitsA,LK.fitsA,leavesA,leafA,nilD,aNilc,aCint,aCid,alive,alen,alenOk,Rle,lePs,len_flat, c69, ha, e1, hA']
  refine PFE.call (e91 (byte s at')) 9 (by simp [lePs, -List.length_flatten, -List.map_drop, -List.map_take, Function.comp_def, len_flat]) ?_
  rintro _ ⟨b, rfl⟩
  cases b with
  | true =>
    simp (maxSteps := 3000000) [-List.length_flatten,-List.map_drop,-List.map_take,Function.comp_def,argsT,Opd.ev,Tm.get,put,ares,mapMo,ares1,snilP,bldParts,bslParts,putAt,AV.cells,AV.one,astore,aload,loadCs,callArgs,abin,abinInt,aapp,elems,appMore,appNone,preLen,aFa,aFld,apart,aExt,aPick,aNot,aLens,aEqa,cellsK,fitsA,LK.fitsA,leavesA,leafA,nilD,aNilc,aCint,aCid,alive,alen,alenOk,Rle,lePs,len_flat, Kc, hA']
    refine run_loopK (fun m T H => ∃ i : Nat, m = s.size - i ∧ at' < i ∧ i ≤ s.size ∧ T = [(6, i64 i), (0, .str s)] ∧ H = []) (s.size - (at' + 1)) [(6, i64 (at' + 1 : Nat)), (0, .str s)] []
      (Wk.tell 0 (Nat.le_refl _) (by simp [Tm.get]) (by simp) rfl (by simp)) ⟨at' + 1, by omega, by omega, by omega, rfl, rfl⟩ ?_
    rintro m T H ⟨i, rfl, hi0, hi, rfl, rfl⟩ KK kx kr kn
    have fin : ∀ T, T.get 6 = i64 i → KK (.exit 0) T [] := fun T ht => by
      simp (maxSteps := 3000000) [-List.length_flatten,-List.map_drop,-List.map_take,Function.comp_def,argsT,Opd.ev,Tm.get,put,ares,mapMo,ares1,snilP,bldParts,bslParts,putAt,AV.cells,AV.one,astore,aload,loadCs,callArgs,abin,abinInt,aapp,elems,appMore,appNone,preLen,aFa,aFld,apart,aExt,aPick,aNot,aLens,aEqa,cellsK,fitsA,LK.fitsA,leavesA,leafA,nilD,aNilc,aCint,aCid,alive,alen,alenOk,Rle,lePs,len_flat, kx, ht]
      exact RleE.of (.tuple [i64 1, i64 i]) ⟨1, i, rfl, fun _ => ⟨hi0, hi⟩⟩ (by simp [lePs, -List.length_flatten, -List.map_drop, -List.map_take, Function.comp_def, len_flat])
    by_cases h : i < s.size
    · have nx : ∀ T : Tm, al (fun p => T.get p.1 = p.2) [(6, i64 (i + 1 : Nat)), (0, .str s)] → KK .normal T [] := fun T ht =>
        kn _ _ (Kl_next (s.size - (i + 1)) 0 (Nat.le_refl _) (T' := [(6, i64 (i + 1 : Nat)), (0, .str s)]) ⟨i + 1, rfl, by omega, by omega, rfl, rfl⟩ ht (by simp) rfl (by simp) (by omega))
      simp (maxSteps := 3000000) [-List.length_flatten,-List.map_drop,-List.map_take,Function.comp_def,argsT,Opd.ev,Tm.get,put,ares,mapMo,ares1,snilP,bldParts,bslParts,putAt,AV.cells,AV.one,astore,aload,loadCs,callArgs,abin,abinInt,aapp,elems,appMore,appNone,preLen,aFa,aFld,apart,aExt,aPick,aNot,aLens,aEqa,cellsK,fitsA,LK.fitsA,leavesA,leafA,nilD,aNilc,aCint,aCid,alive,alen,alenOk,Rle,lePs,len_flat, h, hA']
      refine PFE.call (e91 (byte s i)) 9 (by simp [lePs, -List.length_flatten, -List.map_drop, -List.map_take, Function.comp_def, len_flat]) ?_
      rintro _ ⟨b, rfl⟩
      cases b with
      | true =>
        simp (maxSteps := 3000000) [-List.length_flatten,-List.map_drop,-List.map_take,Function.comp_def,argsT,Opd.ev,Tm.get,put,ares,mapMo,ares1,snilP,bldParts,bslParts,putAt,AV.cells,AV.one,astore,aload,loadCs,callArgs,abin,abinInt,aapp,elems,appMore,appNone,preLen,aFa,aFld,apart,aExt,aPick,aNot,aLens,aEqa,cellsK,fitsA,LK.fitsA,leavesA,leafA,nilD,aNilc,aCint,aCid,alive,alen,alenOk,Rle,lePs,len_flat, Kc]
        exact nx _ (by simp [Tm.get, nxt h hA])
      | false =>
        simp (maxSteps := 3000000) [-List.length_flatten,-List.map_drop,-List.map_take,Function.comp_def,argsT,Opd.ev,Tm.get,put,ares,mapMo,ares1,snilP,bldParts,bslParts,putAt,AV.cells,AV.one,astore,aload,loadCs,callArgs,abin,abinInt,aapp,elems,appMore,appNone,preLen,aFa,aFld,apart,aExt,aPick,aNot,aLens,aEqa,cellsK,fitsA,LK.fitsA,leavesA,leafA,nilD,aNilc,aCint,aCid,alive,alen,alenOk,Rle,lePs,len_flat, Kc, h, hA']
        refine PFE.call (e92 (byte s i)) 9 (by simp [lePs, -List.length_flatten, -List.map_drop, -List.map_take, Function.comp_def, len_flat]) ?_
        rintro _ ⟨b, rfl⟩
        cases b with
        | true =>
          simp (maxSteps := 3000000) [-List.length_flatten,-List.map_drop,-List.map_take,Function.comp_def,argsT,Opd.ev,Tm.get,put,ares,mapMo,ares1,snilP,bldParts,bslParts,putAt,AV.cells,AV.one,astore,aload,loadCs,callArgs,abin,abinInt,aapp,elems,appMore,appNone,preLen,aFa,aFld,apart,aExt,aPick,aNot,aLens,aEqa,cellsK,fitsA,LK.fitsA,leavesA,leafA,nilD,aNilc,aCint,aCid,alive,alen,alenOk,Rle,lePs,len_flat, Kc]
          exact nx _ (by simp [Tm.get, nxt h hA])
        | false =>
          simp (maxSteps := 3000000) [-List.length_flatten,-List.map_drop,-List.map_take,Function.comp_def,argsT,Opd.ev,Tm.get,put,ares,mapMo,ares1,snilP,bldParts,bslParts,putAt,AV.cells,AV.one,astore,aload,loadCs,callArgs,abin,abinInt,aapp,elems,appMore,appNone,preLen,aFa,aFld,apart,aExt,aPick,aNot,aLens,aEqa,cellsK,fitsA,LK.fitsA,leavesA,leafA,nilD,aNilc,aCint,aCid,alive,alen,alenOk,Rle,lePs,len_flat, Kc, h, hA']
          repeat' (first | assumption | with_reducible apply And.intro | with_reducible intro _)
          all_goals first
            | exact nx _ (by simp [Tm.get, nxt h hA])
            | exact fin _ (by simp [Tm.get])
    · simp (maxSteps := 3000000) [-List.length_flatten,-List.map_drop,-List.map_take,Function.comp_def,argsT,Opd.ev,Tm.get,put,ares,mapMo,ares1,snilP,bldParts,bslParts,putAt,AV.cells,AV.one,astore,aload,loadCs,callArgs,abin,abinInt,aapp,elems,appMore,appNone,preLen,aFa,aFld,apart,aExt,aPick,aNot,aLens,aEqa,cellsK,fitsA,LK.fitsA,leavesA,leafA,nilD,aNilc,aCint,aCid,alive,alen,alenOk,Rle,lePs,len_flat, h, hA']
      exact fin _ (by simp [Tm.get])
  | false =>
    by_cases h2 : 48 ≤ byte s at' ∧ byte s at' ≤ 57
    · simp (maxSteps := 3000000) [-List.length_flatten,-List.map_drop,-List.map_take,Function.comp_def,argsT,Opd.ev,Tm.get,put,ares,mapMo,ares1,snilP,bldParts,bslParts,putAt,AV.cells,AV.one,astore,aload,loadCs,callArgs,abin,abinInt,aapp,elems,appMore,appNone,preLen,aFa,aFld,apart,aExt,aPick,aNot,aLens,aEqa,cellsK,fitsA,LK.fitsA,leavesA,leafA,nilD,aNilc,aCint,aCid,alive,alen,alenOk,Rle,lePs,len_flat, Kc, ha, h2, hA']
      refine run_loopK (fun m T H => ∃ i : Nat, m = s.size - i ∧ at' < i ∧ i ≤ s.size ∧ T = [(6, i64 i), (0, .str s), (1, i64 at')] ∧ H = []) (s.size - (at' + 1)) [(6, i64 (at' + 1 : Nat)), (0, .str s), (1, i64 at')] []
        (Wk.tell 0 (Nat.le_refl _) (by simp [Tm.get]) (by simp) rfl (by simp)) ⟨at' + 1, by omega, by omega, by omega, rfl, rfl⟩ ?_
      rintro m T H ⟨i, rfl, hi0, hi, rfl, rfl⟩ KK kx kr kn
      have fin : ∀ T, T.get 6 = i64 i → T.get 0 = .str s → T.get 1 = i64 at' → KK (.exit 2) T [] := fun T ht t0 t1 => by
        have a1' : at' ≤ i := by omega
        have a2 : i ≤ s.size := hi
        simp (maxSteps := 3000000) [-List.length_flatten,-List.map_drop,-List.map_take,Function.comp_def,argsT,Opd.ev,Tm.get,put,ares,mapMo,ares1,snilP,bldParts,bslParts,putAt,AV.cells,AV.one,astore,aload,loadCs,callArgs,abin,abinInt,aapp,elems,appMore,appNone,preLen,aFa,aFld,apart,aExt,aPick,aNot,aLens,aEqa,cellsK,fitsA,LK.fitsA,leavesA,leafA,nilD,aNilc,aCint,aCid,alive,alen,alenOk,Rle,lePs,len_flat, kx, ht, t0, t1, hA', a1', a2, aSlstr, abound, aint]
        refine PFE.call (e93 _) 9 ⟨rfl, trivial⟩ ?_
        rintro _ ⟨n, b, rfl⟩
        cases b with
        | true =>
          simp (maxSteps := 3000000) [-List.length_flatten,-List.map_drop,-List.map_take,Function.comp_def,argsT,Opd.ev,Tm.get,put,ares,mapMo,ares1,snilP,bldParts,bslParts,putAt,AV.cells,AV.one,astore,aload,loadCs,callArgs,abin,abinInt,aapp,elems,appMore,appNone,preLen,aFa,aFld,apart,aExt,aPick,aNot,aLens,aEqa,cellsK,fitsA,LK.fitsA,leavesA,leafA,nilD,aNilc,aCint,aCid,alive,alen,alenOk,Rle,lePs,len_flat, Kc]
          exact RleE.of (.tuple [i64 2, i64 i]) ⟨2, i, rfl, fun _ => ⟨hi0, hi⟩⟩ (by simp [lePs, ht])
        | false =>
          simp (maxSteps := 3000000) [-List.length_flatten,-List.map_drop,-List.map_take,Function.comp_def,argsT,Opd.ev,Tm.get,put,ares,mapMo,ares1,snilP,bldParts,bslParts,putAt,AV.cells,AV.one,astore,aload,loadCs,callArgs,abin,abinInt,aapp,elems,appMore,appNone,preLen,aFa,aFld,apart,aExt,aPick,aNot,aLens,aEqa,cellsK,fitsA,LK.fitsA,leavesA,leafA,nilD,aNilc,aCint,aCid,alive,alen,alenOk,Rle,lePs,len_flat, Kc]
          exact RleE.of (.tuple [i64 0, i64 at']) ⟨0, at', rfl, fun h => absurd rfl h⟩ (by simp [lePs, t1])
      by_cases h : i < s.size
      · have nx : ∀ T : Tm, al (fun p => T.get p.1 = p.2) [(6, i64 (i + 1 : Nat)), (0, .str s), (1, i64 at')] → KK .normal T [] := fun T ht =>
          kn _ _ (Kl_next (s.size - (i + 1)) 0 (Nat.le_refl _) (T' := [(6, i64 (i + 1 : Nat)), (0, .str s), (1, i64 at')]) ⟨i + 1, rfl, by omega, by omega, rfl, rfl⟩ ht (by simp) rfl (by simp) (by omega))
        simp (maxSteps := 3000000) [-List.length_flatten,-List.map_drop,-List.map_take,Function.comp_def,argsT,Opd.ev,Tm.get,put,ares,mapMo,ares1,snilP,bldParts,bslParts,putAt,AV.cells,AV.one,astore,aload,loadCs,callArgs,abin,abinInt,aapp,elems,appMore,appNone,preLen,aFa,aFld,apart,aExt,aPick,aNot,aLens,aEqa,cellsK,fitsA,LK.fitsA,leavesA,leafA,nilD,aNilc,aCint,aCid,alive,alen,alenOk,Rle,lePs,len_flat, h, hA']
        repeat' (first | assumption | with_reducible apply And.intro | with_reducible intro _)
        all_goals first
          | exact nx _ (by simp [Tm.get, nxt h hA])
          | exact fin _ (by simp [Tm.get]) (by simp [Tm.get]) (by simp [Tm.get])
      · simp (maxSteps := 3000000) [-List.length_flatten,-List.map_drop,-List.map_take,Function.comp_def,argsT,Opd.ev,Tm.get,put,ares,mapMo,ares1,snilP,bldParts,bslParts,putAt,AV.cells,AV.one,astore,aload,loadCs,callArgs,abin,abinInt,aapp,elems,appMore,appNone,preLen,aFa,aFld,apart,aExt,aPick,aNot,aLens,aEqa,cellsK,fitsA,LK.fitsA,leavesA,leafA,nilD,aNilc,aCint,aCid,alive,alen,alenOk,Rle,lePs,len_flat, h, hA']
        exact fin _ (by simp [Tm.get]) (by simp [Tm.get]) (by simp [Tm.get])
    have fin : ∀ (k : Int) (e : Int), (k ≠ 0 → (at' : Int) < e ∧ e ≤ s.size) → 0 ≤ e → RleE 9 (q64 s at') (.tuple [i64 k, i64 e]) [] := fun k e h h0 =>
      .of (.tuple [i64 k, i64 e]) ⟨k, e.toNat, by rw [Int.toNat_of_nonneg h0], fun hk => by have := h hk; omega⟩ (by simp [lePs, -List.length_flatten, -List.map_drop, -List.map_take, Function.comp_def, len_flat])
    have hn : 48 ≤ byte s at' ∧ ¬ byte s at' ≤ 57 ∨ ¬ 48 ≤ byte s at' := by omega
    rcases hn with ⟨h1, h3⟩ | h1
    · simp (maxSteps := 3000000) [-List.length_flatten,-List.map_drop,-List.map_take,Function.comp_def,argsT,Opd.ev,Tm.get,put,ares,mapMo,ares1,snilP,bldParts,bslParts,putAt,AV.cells,AV.one,astore,aload,loadCs,callArgs,abin,abinInt,aapp,elems,appMore,appNone,preLen,aFa,aFld,apart,aExt,aPick,aNot,aLens,aEqa,cellsK,fitsA,LK.fitsA,leavesA,leafA,nilD,aNilc,aCint,aCid,alive,alen,alenOk,Rle,lePs,len_flat, Kc, ha, h1, h3, hA', e2]
      repeat' (first | assumption | with_reducible apply And.intro | with_reducible intro _)
      all_goals first
        | omega
        | exact fin _ _ (by omega) (by omega)
        | (refine PFE.call (e94 _) 9 ⟨rfl, trivial⟩ ?_
           rintro _ ⟨b, rfl⟩
           cases b with
           | true =>
             simp (maxSteps := 3000000) [-List.length_flatten,-List.map_drop,-List.map_take,Function.comp_def,argsT,Opd.ev,Tm.get,put,ares,mapMo,ares1,snilP,bldParts,bslParts,putAt,AV.cells,AV.one,astore,aload,loadCs,callArgs,abin,abinInt,aapp,elems,appMore,appNone,preLen,aFa,aFld,apart,aExt,aPick,aNot,aLens,aEqa,cellsK,fitsA,LK.fitsA,leavesA,leafA,nilD,aNilc,aCint,aCid,alive,alen,alenOk,Rle,lePs,len_flat, Kc]
             exact fin _ _ (by omega) (by omega)
           | false =>
             simp (maxSteps := 3000000) [-List.length_flatten,-List.map_drop,-List.map_take,Function.comp_def,argsT,Opd.ev,Tm.get,put,ares,mapMo,ares1,snilP,bldParts,bslParts,putAt,AV.cells,AV.one,astore,aload,loadCs,callArgs,abin,abinInt,aapp,elems,appMore,appNone,preLen,aFa,aFld,apart,aExt,aPick,aNot,aLens,aEqa,cellsK,fitsA,LK.fitsA,leavesA,leafA,nilD,aNilc,aCint,aCid,alive,alen,alenOk,Rle,lePs,len_flat, Kc]
             exact fin _ _ (by omega) (by omega))
    · simp (maxSteps := 3000000) [-List.length_flatten,-List.map_drop,-List.map_take,Function.comp_def,argsT,Opd.ev,Tm.get,put,ares,mapMo,ares1,snilP,bldParts,bslParts,putAt,AV.cells,AV.one,astore,aload,loadCs,callArgs,abin,abinInt,aapp,elems,appMore,appNone,preLen,aFa,aFld,apart,aExt,aPick,aNot,aLens,aEqa,cellsK,fitsA,LK.fitsA,leavesA,leafA,nilD,aNilc,aCint,aCid,alive,alen,alenOk,Rle,lePs,len_flat, Kc, ha, h1, hA', e2]
      repeat' (first | assumption | with_reducible apply And.intro | with_reducible intro _)
      all_goals first
        | omega
        | exact fin _ _ (by omega) (by omega)
        | (refine PFE.call (e94 _) 9 ⟨rfl, trivial⟩ ?_
           rintro _ ⟨b, rfl⟩
           cases b with
           | true =>
             simp (maxSteps := 3000000) [-List.length_flatten,-List.map_drop,-List.map_take,Function.comp_def,argsT,Opd.ev,Tm.get,put,ares,mapMo,ares1,snilP,bldParts,bslParts,putAt,AV.cells,AV.one,astore,aload,loadCs,callArgs,abin,abinInt,aapp,elems,appMore,appNone,preLen,aFa,aFld,apart,aExt,aPick,aNot,aLens,aEqa,cellsK,fitsA,LK.fitsA,leavesA,leafA,nilD,aNilc,aCint,aCid,alive,alen,alenOk,Rle,lePs,len_flat, Kc]
             exact fin _ _ (by omega) (by omega)
           | false =>
             simp (maxSteps := 3000000) [-List.length_flatten,-List.map_drop,-List.map_take,Function.comp_def,argsT,Opd.ev,Tm.get,put,ares,mapMo,ares1,snilP,bldParts,bslParts,putAt,AV.cells,AV.one,astore,aload,loadCs,callArgs,abin,abinInt,aapp,elems,appMore,appNone,preLen,aFa,aFld,apart,aExt,aPick,aNot,aLens,aEqa,cellsK,fitsA,LK.fitsA,leavesA,leafA,nilD,aNilc,aCint,aCid,alive,alen,alenOk,Rle,lePs,len_flat, Kc]
             exact fin _ _ (by omega) (by omega))
structure Tok where
 kind : Int
 text : ByteArray
 at' : Int
 deriving Inhabited
abbrev Tok.cs (t : Tok) : List AV := [i64 t.kind, .str t.text, i64 t.at']
abbrev toks (l : List Tok) : AV := .rows false 3 (l.map Tok.cs)
def q40 (r : AV) : Prop := ∃ (l : List Tok) (e b : Int), r = .tuple [toks l, i64 e, i64 b] ∧ l.length ≤ 2000
theorem e40 (s : ByteArray) : PFE Tryz.prog 40 [.str s] q40 := by
 refine PFEk 9 hm Tryz.func40 c40_ok (Nat.le_of_ble_eq_true rfl) (by simp) (by rintro r ⟨l, n, b, rfl, _⟩; simp) ?_
 have nl : ∀ (e b : Int) H, RleE 9 q40 (.tuple [.nilS, i64 e, i64 b]) H := fun e b H => .of (.tuple [toks [], i64 e, i64 b]) ⟨[], e, b, rfl, by simp⟩ (by simp [lePs, -List.length_flatten, -List.map_drop, -List.map_take, Function.comp_def, len_flat])
 by_cases h0 : 2000 < (s.size : Int)
 ·simp (maxSteps := 3000000) [-List.length_flatten,-List.map_drop,-List.map_take,Function.comp_def,argsT,Opd.ev,Tm.get,put,ares,mapMo,ares1,snilP,bldParts,bslParts,putAt,AV.cells,AV.one,astore,aload,loadCs,callArgs,abin,abinInt,aapp,elems,appMore,appNone,preLen,aFa,aFld,apart,aExt,aPick,aNot,aLens,aEqa,cellsK,fitsA,LK.fitsA,leavesA,leafA,nilD,aNilc,aCint,aCid,alive,alen,alenOk,Rle,lePs,len_flat, c40, h0]
  exact fun _ => nl _ _ _
 have hs : s.size ≤ 2000 := by omega
 have hA : s.size ≤ maxA := by unfold maxA; omega
 have hA' : s.size ≤ 9223372036854775807 := by omega
 simp (maxSteps := 3000000) [-List.length_flatten,-List.map_drop,-List.map_take,Function.comp_def,argsT,Opd.ev,Tm.get,put,ares,mapMo,ares1,snilP,bldParts,bslParts,putAt,AV.cells,AV.one,astore,aload,loadCs,callArgs,abin,abinInt,aapp,elems,appMore,appNone,preLen,aFa,aFld,apart,aExt,aPick,aNot,aLens,aEqa,cellsK,fitsA,LK.fitsA,leavesA,leafA,nilD,aNilc,aCint,aCid,alive,alen,alenOk,Rle,lePs,len_flat, c40, h0, hA']
 refine run_loopK (fun m T H => ∃ (i g : Nat) (l : List Tok), m = s.size - i ∧ i ≤ s.size ∧ l.length ≤ i ∧ T = [(5, .loc 0 g 0 l.length 3 false), (6, i64 i), (0, .str s)] ∧ H = [.cells g (l.map Tok.cs).flatten]) s.size
  [(5, .loc 0 0 0 0 3 false), (6, i64 (0 : Nat)), (0, .str s)] [.cells 0 []] ((Wk.nil 5 3 rfl).trans (Wk.tell 1 (by omega) (by simp [Tm.get]) (by simp) rfl (by simp [RLB]))) ⟨0, 0, [], by simp, by simp, by simp, rfl, rfl⟩ ?_
 rintro m T H ⟨i, g, l, rfl, hi, hl, rfl, rfl⟩ KK kx kr kn
 by_cases h : i < s.size
 ·have nx : ∀ (T : Tm) (j : Nat), i < j → j ≤ s.size → al (fun p => T.get p.1 = p.2) [(5, .loc 0 g 0 l.length 3 false), (6, i64 j), (0, .str s)] → KK .normal T [.cells g (l.map Tok.cs).flatten] := fun T j h1 h2 ht =>
   kn _ _ (Kl_next (s.size - j) 1 (by omega) (T' := [(5, .loc 0 g 0 l.length 3 false), (6, i64 j), (0, .str s)]) ⟨j, g, l, rfl, h2, by omega, rfl, rfl⟩ ht (by simp) rfl (by simp [RLB, -List.mem_flatten]; exact flat_RL (by simp) _) (by omega))
  simp (maxSteps := 3000000) [-List.length_flatten,-List.map_drop,-List.map_take,Function.comp_def,argsT,Opd.ev,Tm.get,put,ares,mapMo,ares1,snilP,bldParts,bslParts,putAt,AV.cells,AV.one,astore,aload,loadCs,callArgs,abin,abinInt,aapp,elems,appMore,appNone,preLen,aFa,aFld,apart,aExt,aPick,aNot,aLens,aEqa,cellsK,fitsA,LK.fitsA,leavesA,leafA,nilD,aNilc,aCint,aCid,alive,alen,alenOk,Rle,lePs,len_flat, h, hA']
  repeat' (first | assumption | with_reducible apply And.intro | with_reducible intro _)
  all_goals first
   | exact nx _ (i + 1) (by omega) (by omega) (by simp [Tm.get, nxt h hA])
   | skip
  refine PFE.call (e64 s i hs h) 9 (by simp [lePs, -List.length_flatten, -List.map_drop, -List.map_take, Function.comp_def, len_flat]) ?_
  rintro _ ⟨k, e, rfl, hk⟩
  by_cases hk0 : k = 0
  ·simp (maxSteps := 3000000) [-List.length_flatten,-List.map_drop,-List.map_take,Function.comp_def,argsT,Opd.ev,Tm.get,put,ares,mapMo,ares1,snilP,bldParts,bslParts,putAt,AV.cells,AV.one,astore,aload,loadCs,callArgs,abin,abinInt,aapp,elems,appMore,appNone,preLen,aFa,aFld,apart,aExt,aPick,aNot,aLens,aEqa,cellsK,fitsA,LK.fitsA,leavesA,leafA,nilD,aNilc,aCint,aCid,alive,alen,alenOk,Rle,lePs,len_flat, Kc, hk0, kr]
   exact nl _ _ _
  ·obtain ⟨h1, h2⟩ := hk hk0
   have a1 : i ≤ e := by omega
   have hm : l.length + 1 ≤ maxA := by unfold maxA; omega
   simp (maxSteps := 3000000) [-List.length_flatten,-List.map_drop,-List.map_take,Function.comp_def,argsT,Opd.ev,Tm.get,put,ares,mapMo,ares1,snilP,bldParts,bslParts,putAt,AV.cells,AV.one,astore,aload,loadCs,callArgs,abin,abinInt,aapp,elems,appMore,appNone,preLen,aFa,aFld,apart,aExt,aPick,aNot,aLens,aEqa,cellsK,fitsA,LK.fitsA,leavesA,leafA,nilD,aNilc,aCint,aCid,alive,alen,alenOk,Rle,lePs,len_flat, Kc, hk0, hA', aSlstr, abound, aint, a1, h2, hm]
   intro _ _
   exact kn _ _ (Kl_next (s.size - e) 1 (by omega) (T' := [(5, .loc 0 (g + 1) 0 (l ++ [⟨k, s.extract i e, i⟩] : List Tok).length 3 false), (6, i64 e), (0, .str s)]) ⟨e, g + 1, l ++ [⟨k, s.extract i e, i⟩], rfl, h2, by simp; omega, rfl, rfl⟩
    (by simp [Tm.get]) (by simp) (by simp only [List.take_succ_cons, List.take_zero]; rw [app_one (f := Tok.cs) (l := l) (sz := 3) (by simp) ⟨k, s.extract i e, i⟩ rfl]) (by simp [RLB, -List.mem_flatten, -List.map_append]; exact flat_RL (by simp) _) (by omega))
 ·simp (maxSteps := 3000000) [-List.length_flatten,-List.map_drop,-List.map_take,Function.comp_def,argsT,Opd.ev,Tm.get,put,ares,mapMo,ares1,snilP,bldParts,bslParts,putAt,AV.cells,AV.one,astore,aload,loadCs,callArgs,abin,abinInt,aapp,elems,appMore,appNone,preLen,aFa,aFld,apart,aExt,aPick,aNot,aLens,aEqa,cellsK,fitsA,LK.fitsA,leavesA,leafA,nilD,aNilc,aCint,aCid,alive,alen,alenOk,Rle,lePs,len_flat, h, hA', kx]
  exact RleE.of (.tuple [toks l, i64 0, i64 0]) ⟨l, 0, 0, rfl, by omega⟩ (by simp [lePs, -List.length_flatten, -List.map_drop, -List.map_take, Function.comp_def, len_flat])
end Go.AM

namespace Go.AM
open Go.Proofs
set_option maxRecDepth 100000
set_option linter.unusedVariables false
set_option linter.unusedSimpArgs false
theorem small_PF (c : Int) : PF Tryz.prog 102 [.int .u8 c] (.bool (decide (97 ≤ c) && decide (c ≤ 122))) := by
 refine PFk 9 hm Tryz.func102 c102_ok (Nat.le_of_ble_eq_true rfl) (by simp) (by simp) ?_
 simp (maxSteps := 3000000) [-List.length_flatten,-List.map_drop,-List.map_take,Function.comp_def,argsT,Opd.ev,Tm.get,put,ares,mapMo,ares1,snilP,bldParts,bslParts,putAt,AV.cells,AV.one,astore,aload,loadCs,callArgs,abin,abinInt,aapp,elems,appMore,appNone,preLen,aFa,aFld,apart,aExt,aPick,aNot,aLens,aEqa,cellsK,fitsA,LK.fitsA,leavesA,leafA,nilD,aNilc,aCint,aCid,alive,alen,alenOk,Rle,lePs,len_flat, c102]
 omega
theorem big_PF (c : Int) : PF Tryz.prog 101 [.int .u8 c] (.bool (decide (65 ≤ c) && decide (c ≤ 90))) := by
 refine PFk 9 hm Tryz.func101 c101_ok (Nat.le_of_ble_eq_true rfl) (by simp) (by simp) ?_
 simp (maxSteps := 3000000) [-List.length_flatten,-List.map_drop,-List.map_take,Function.comp_def,argsT,Opd.ev,Tm.get,put,ares,mapMo,ares1,snilP,bldParts,bslParts,putAt,AV.cells,AV.one,astore,aload,loadCs,callArgs,abin,abinInt,aapp,elems,appMore,appNone,preLen,aFa,aFld,apart,aExt,aPick,aNot,aLens,aEqa,cellsK,fitsA,LK.fitsA,leavesA,leafA,nilD,aNilc,aCint,aCid,alive,alen,alenOk,Rle,lePs,len_flat, c101]
 omega
theorem name_PF (s : ByteArray) : PF Tryz.prog 100 [.str s] (.bool (nameOk s)) := by
 refine PFk 9 hm Tryz.func100 c100_ok (Nat.le_of_ble_eq_true rfl) (by simp) (by simp) ?_
 simp (maxSteps := 3000000) [-List.length_flatten,-List.map_drop,-List.map_take,Function.comp_def,argsT,Opd.ev,Tm.get,put,ares,mapMo,ares1,snilP,bldParts,bslParts,putAt,AV.cells,AV.one,astore,aload,loadCs,callArgs,abin,abinInt,aapp,elems,appMore,appNone,preLen,aFa,aFld,apart,aExt,aPick,aNot,aLens,aEqa,cellsK,fitsA,LK.fitsA,leavesA,leafA,nilD,aNilc,aCint,aCid,alive,alen,alenOk,Rle,lePs,len_flat, c100]
 intro _
 refine ⟨fun h1 => ?_, fun h1 _ => ⟨fun h2 => ?_, fun h2 => ?_⟩⟩
 ·simp [nameOk]; omega
 ·simp [nameOk]; omega
 ·refine run_count s.size 3 [(0, .str s)] [] (fun i => ∀ j : Nat, j < i → letter (byte s j) ∨ 0 < j ∧ figure (byte s j)) (Wk.tell 0 (Nat.le_refl _) (by simp [Tm.get]) (by simp) rfl (by simp)) (fun j hj => by omega) ?_
  intro i hi hj
  have next : ∀ h : i < s.size, (letter (byte s i) ∨ 0 < i ∧ figure (byte s i)) → ∀ j : Nat, j < i + 1 → letter (byte s j) ∨ 0 < j ∧ figure (byte s j) := fun h hb j hl => by
   rcases Nat.lt_or_ge j i with h3 | h3
   ·exact hj j h3
   ·have : j = i := by omega
    subst this
    exact hb
  simp (maxSteps := 3000000) [-List.length_flatten,-List.map_drop,-List.map_take,Function.comp_def,argsT,Opd.ev,Tm.get,put,ares,mapMo,ares1,snilP,bldParts,bslParts,putAt,AV.cells,AV.one,astore,aload,loadCs,callArgs,abin,abinInt,aapp,elems,appMore,appNone,preLen,aFa,aFld,apart,aExt,aPick,aNot,aLens,aEqa,cellsK,fitsA,LK.fitsA,leavesA,leafA,nilD,aNilc,aCint,aCid,alive,alen,alenOk,Rle,lePs,len_flat]
  intro _
  repeat' (first | assumption | with_reducible apply And.intro | with_reducible intro _ | refine PF.call (small_PF (byte s i)) 9 (by simp [lePs]) ?_)
  all_goals try simp (maxSteps := 3000000) [-List.length_flatten,-List.map_drop,-List.map_take,Function.comp_def,argsT,Opd.ev,Tm.get,put,ares,mapMo,ares1,snilP,bldParts,bslParts,putAt,AV.cells,AV.one,astore,aload,loadCs,callArgs,abin,abinInt,aapp,elems,appMore,appNone,preLen,aFa,aFld,apart,aExt,aPick,aNot,aLens,aEqa,cellsK,fitsA,LK.fitsA,leavesA,leafA,nilD,aNilc,aCint,aCid,alive,alen,alenOk,Rle,lePs,len_flat, Kc]
  repeat' (first | assumption | with_reducible apply And.intro | with_reducible intro _ | refine PF.call (big_PF (byte s i)) 9 (by simp [lePs]) ?_)
  all_goals try simp (maxSteps := 3000000) [-List.length_flatten,-List.map_drop,-List.map_take,Function.comp_def,argsT,Opd.ev,Tm.get,put,ares,mapMo,ares1,snilP,bldParts,bslParts,putAt,AV.cells,AV.one,astore,aload,loadCs,callArgs,abin,abinInt,aapp,elems,appMore,appNone,preLen,aFa,aFld,apart,aExt,aPick,aNot,aLens,aEqa,cellsK,fitsA,LK.fitsA,leavesA,leafA,nilD,aNilc,aCint,aCid,alive,alen,alenOk,Rle,lePs,len_flat, Kc]
  repeat' (first | assumption | with_reducible apply And.intro | with_reducible intro _)
  all_goals first
   | exact Kn_next 0 (Nat.le_refl _) (by omega) (next (by assumption) (by unfold letter figure; omega)) (by simp [Tm.get, nxt (show i < s.size by assumption) (show s.size ≤ maxA by unfold maxA; omega)]) (by simp) rfl (by simp)
   | exact nameBad (show i < s.size by assumption) (by unfold letter figure; omega)
   | skip
  exact nameGood (by omega) (by omega) (fun j hl => hj j (by omega))
theorem con_PF (s : ByteArray) : PF Tryz.prog 71 [.str s] (.bool (conOk s)) := by
 refine PFk 9 hm Tryz.func71 c71_ok (Nat.le_of_ble_eq_true rfl) (by simp) (by simp) ?_
 simp (maxSteps := 3000000) [-List.length_flatten,-List.map_drop,-List.map_take,Function.comp_def,argsT,Opd.ev,Tm.get,put,ares,mapMo,ares1,snilP,bldParts,bslParts,putAt,AV.cells,AV.one,astore,aload,loadCs,callArgs,abin,abinInt,aapp,elems,appMore,appNone,preLen,aFa,aFld,apart,aExt,aPick,aNot,aLens,aEqa,cellsK,fitsA,LK.fitsA,leavesA,leafA,nilD,aNilc,aCint,aCid,alive,alen,alenOk,Rle,lePs,len_flat, c71]
 refine PF.call (name_PF s) 9 (by simp [lePs]) ?_
 simp (maxSteps := 3000000) [-List.length_flatten,-List.map_drop,-List.map_take,Function.comp_def,argsT,Opd.ev,Tm.get,put,ares,mapMo,ares1,snilP,bldParts,bslParts,putAt,AV.cells,AV.one,astore,aload,loadCs,callArgs,abin,abinInt,aapp,elems,appMore,appNone,preLen,aFa,aFld,apart,aExt,aPick,aNot,aLens,aEqa,cellsK,fitsA,LK.fitsA,leavesA,leafA,nilD,aNilc,aCint,aCid,alive,alen,alenOk,Rle,lePs,len_flat, Kc]
 refine ⟨fun h => ⟨nameSize h, ?_⟩, fun h => by simp [conOk, h]⟩
 refine PF.call (small_PF (byte s 0)) 9 (by simp [lePs]) ?_
 simp (maxSteps := 3000000) [-List.length_flatten,-List.map_drop,-List.map_take,Function.comp_def,argsT,Opd.ev,Tm.get,put,ares,mapMo,ares1,snilP,bldParts,bslParts,putAt,AV.cells,AV.one,astore,aload,loadCs,callArgs,abin,abinInt,aapp,elems,appMore,appNone,preLen,aFa,aFld,apart,aExt,aPick,aNot,aLens,aEqa,cellsK,fitsA,LK.fitsA,leavesA,leafA,nilD,aNilc,aCint,aCid,alive,alen,alenOk,Rle,lePs,len_flat, Kc]
 simp [conOk, h]

def varOk (s : ByteArray) : Bool := nameOk s && (decide (65 ≤ byte s 0) && decide (byte s 0 ≤ 90))
theorem var_PF (s : ByteArray) : PF Tryz.prog 70 [.str s] (.bool (varOk s)) := by
 refine PFk 9 hm Tryz.func70 c70_ok (Nat.le_of_ble_eq_true rfl) (by simp) (by simp) ?_
 simp (maxSteps := 3000000) [-List.length_flatten,-List.map_drop,-List.map_take,Function.comp_def,argsT,Opd.ev,Tm.get,put,ares,mapMo,ares1,snilP,bldParts,bslParts,putAt,AV.cells,AV.one,astore,aload,loadCs,callArgs,abin,abinInt,aapp,elems,appMore,appNone,preLen,aFa,aFld,apart,aExt,aPick,aNot,aLens,aEqa,cellsK,fitsA,LK.fitsA,leavesA,leafA,nilD,aNilc,aCint,aCid,alive,alen,alenOk,Rle,lePs,len_flat, c70]
 refine PF.call (name_PF s) 9 (by simp [lePs, -List.length_flatten, -List.map_drop, -List.map_take, Function.comp_def, len_flat]) ?_
 simp (maxSteps := 3000000) [-List.length_flatten,-List.map_drop,-List.map_take,Function.comp_def,argsT,Opd.ev,Tm.get,put,ares,mapMo,ares1,snilP,bldParts,bslParts,putAt,AV.cells,AV.one,astore,aload,loadCs,callArgs,abin,abinInt,aapp,elems,appMore,appNone,preLen,aFa,aFld,apart,aExt,aPick,aNot,aLens,aEqa,cellsK,fitsA,LK.fitsA,leavesA,leafA,nilD,aNilc,aCint,aCid,alive,alen,alenOk,Rle,lePs,len_flat, Kc]
 refine ⟨fun h => ⟨nameSize h, ?_⟩, fun h => by simp [varOk, h]⟩
 refine PF.call (big_PF (byte s 0)) 9 (by simp [lePs, -List.length_flatten, -List.map_drop, -List.map_take, Function.comp_def, len_flat]) ?_
 simp (maxSteps := 3000000) [-List.length_flatten,-List.map_drop,-List.map_take,Function.comp_def,argsT,Opd.ev,Tm.get,put,ares,mapMo,ares1,snilP,bldParts,bslParts,putAt,AV.cells,AV.one,astore,aload,loadCs,callArgs,abin,abinInt,aapp,elems,appMore,appNone,preLen,aFa,aFld,apart,aExt,aPick,aNot,aLens,aEqa,cellsK,fitsA,LK.fitsA,leavesA,leafA,nilD,aNilc,aCint,aCid,alive,alen,alenOk,Rle,lePs,len_flat, Kc]
 simp [varOk, h]
theorem varOk_size {s : ByteArray} (h : varOk s = true) : s.size ≠ 0 := by
 simp only [varOk, Bool.and_eq_true] at h
 have := nameSize h.1
 omega
def signAt (l : List Tok) (at' : Int) (s : ByteArray) : Bool := decide (at' < l.length) && (decide ((gi l at').kind = 3) && decide ((gi l at').text = s))
theorem sign_PF (l : List Tok) (at' : Int) (s : ByteArray) (h0 : 0 ≤ at') (hl : l.length ≤ 2000) : PF Tryz.prog 72 [toks l, i64 at', .str s] (.bool (signAt l at' s)) := by
 refine PFk 9 hm Tryz.func72 c72_ok (Nat.le_of_ble_eq_true rfl) (by simp) (by simp) ?_
 have hA : l.length ≤ maxA := by unfold maxA; omega
 by_cases h1 : at' < l.length
 ·by_cases h2 : (gi l at').kind = 3
  ·simp (maxSteps := 3000000) [-List.length_flatten,-List.map_drop,-List.map_take,Function.comp_def,argsT,Opd.ev,Tm.get,put,ares,mapMo,ares1,snilP,bldParts,bslParts,putAt,AV.cells,AV.one,astore,aload,loadCs,callArgs,abin,abinInt,aapp,elems,appMore,appNone,preLen,aFa,aFld,apart,aExt,aPick,aNot,aLens,aEqa,cellsK,fitsA,LK.fitsA,leavesA,leafA,nilD,aNilc,aCint,aCid,alive,alen,alenOk,Rle,lePs,len_flat, c72, h0, h1, hA, h2]
   simp [signAt, h1, h2]
  ·simp (maxSteps := 3000000) [-List.length_flatten,-List.map_drop,-List.map_take,Function.comp_def,argsT,Opd.ev,Tm.get,put,ares,mapMo,ares1,snilP,bldParts,bslParts,putAt,AV.cells,AV.one,astore,aload,loadCs,callArgs,abin,abinInt,aapp,elems,appMore,appNone,preLen,aFa,aFld,apart,aExt,aPick,aNot,aLens,aEqa,cellsK,fitsA,LK.fitsA,leavesA,leafA,nilD,aNilc,aCint,aCid,alive,alen,alenOk,Rle,lePs,len_flat, c72, h0, h1, hA, h2]
   simp [signAt, h1, h2]
 ·simp (maxSteps := 3000000) [-List.length_flatten,-List.map_drop,-List.map_take,Function.comp_def,argsT,Opd.ev,Tm.get,put,ares,mapMo,ares1,snilP,bldParts,bslParts,putAt,AV.cells,AV.one,astore,aload,loadCs,callArgs,abin,abinInt,aapp,elems,appMore,appNone,preLen,aFa,aFld,apart,aExt,aPick,aNot,aLens,aEqa,cellsK,fitsA,LK.fitsA,leavesA,leafA,nilD,aNilc,aCint,aCid,alive,alen,alenOk,Rle,lePs,len_flat, c72, h0, h1, hA]
  simp [signAt, h1]
def nameK (l : List Tok) (at' : Int) : Int := if at' < l.length ∧ (gi l at').kind = 1 then (if varOk (gi l at').text then 1 else if conOk (gi l at').text then (if (gi l at').text = ⟨#[110, 101, 119]⟩ then 3 else 2) else 0) else 0
theorem nameK_PF (l : List Tok) (at' : Int) (h0 : 0 ≤ at') (hl : l.length ≤ 2000) : PF Tryz.prog 41 [toks l, i64 at'] (i64 (nameK l at')) := by
 refine PFk 9 hm Tryz.func41 c41_ok (Nat.le_of_ble_eq_true rfl) (by simp) (by simp) ?_
 have hA : l.length ≤ maxA := by unfold maxA; omega
 by_cases h1 : at' < l.length
 ·have h1' : ¬ (l.length : Int) ≤ at' := by omega
  by_cases h2 : (gi l at').kind = 1
  ·simp (maxSteps := 3000000) [-List.length_flatten,-List.map_drop,-List.map_take,Function.comp_def,argsT,Opd.ev,Tm.get,put,ares,mapMo,ares1,snilP,bldParts,bslParts,putAt,AV.cells,AV.one,astore,aload,loadCs,callArgs,abin,abinInt,aapp,elems,appMore,appNone,preLen,aFa,aFld,apart,aExt,aPick,aNot,aLens,aEqa,cellsK,fitsA,LK.fitsA,leavesA,leafA,nilD,aNilc,aCint,aCid,alive,alen,alenOk,Rle,lePs,len_flat, c41, h0, h1, h1', hA, h2]
   refine PF.call (var_PF _) 9 ⟨rfl, trivial⟩ ?_
   cases h3 : varOk (gi l at').text with
   | true =>
    simp (maxSteps := 3000000) [-List.length_flatten,-List.map_drop,-List.map_take,Function.comp_def,argsT,Opd.ev,Tm.get,put,ares,mapMo,ares1,snilP,bldParts,bslParts,putAt,AV.cells,AV.one,astore,aload,loadCs,callArgs,abin,abinInt,aapp,elems,appMore,appNone,preLen,aFa,aFld,apart,aExt,aPick,aNot,aLens,aEqa,cellsK,fitsA,LK.fitsA,leavesA,leafA,nilD,aNilc,aCint,aCid,alive,alen,alenOk,Rle,lePs,len_flat, Kc, h3]
    simp [nameK, h1, h2, h3]
   | false =>
    simp (maxSteps := 3000000) [-List.length_flatten,-List.map_drop,-List.map_take,Function.comp_def,argsT,Opd.ev,Tm.get,put,ares,mapMo,ares1,snilP,bldParts,bslParts,putAt,AV.cells,AV.one,astore,aload,loadCs,callArgs,abin,abinInt,aapp,elems,appMore,appNone,preLen,aFa,aFld,apart,aExt,aPick,aNot,aLens,aEqa,cellsK,fitsA,LK.fitsA,leavesA,leafA,nilD,aNilc,aCint,aCid,alive,alen,alenOk,Rle,lePs,len_flat, Kc, h3, h0, h1]
    refine PF.call (con_PF _) 9 ⟨rfl, trivial⟩ ?_
    cases h4 : conOk (gi l at').text with
    | true =>
     by_cases h5 : (gi l at').text = ⟨#[110, 101, 119]⟩
     ·simp (maxSteps := 3000000) [-List.length_flatten,-List.map_drop,-List.map_take,Function.comp_def,argsT,Opd.ev,Tm.get,put,ares,mapMo,ares1,snilP,bldParts,bslParts,putAt,AV.cells,AV.one,astore,aload,loadCs,callArgs,abin,abinInt,aapp,elems,appMore,appNone,preLen,aFa,aFld,apart,aExt,aPick,aNot,aLens,aEqa,cellsK,fitsA,LK.fitsA,leavesA,leafA,nilD,aNilc,aCint,aCid,alive,alen,alenOk,Rle,lePs,len_flat, Kc, h4, h0, h1, h5]
      rw [h5] at h3 h4
      simp [nameK, h1, h2, h3, h4, h5]
     ·simp (maxSteps := 3000000) [-List.length_flatten,-List.map_drop,-List.map_take,Function.comp_def,argsT,Opd.ev,Tm.get,put,ares,mapMo,ares1,snilP,bldParts,bslParts,putAt,AV.cells,AV.one,astore,aload,loadCs,callArgs,abin,abinInt,aapp,elems,appMore,appNone,preLen,aFa,aFld,apart,aExt,aPick,aNot,aLens,aEqa,cellsK,fitsA,LK.fitsA,leavesA,leafA,nilD,aNilc,aCint,aCid,alive,alen,alenOk,Rle,lePs,len_flat, Kc, h4, h0, h1, h5]
      simp [nameK, h1, h2, h3, h4, h5]
    | false =>
     simp (maxSteps := 3000000) [-List.length_flatten,-List.map_drop,-List.map_take,Function.comp_def,argsT,Opd.ev,Tm.get,put,ares,mapMo,ares1,snilP,bldParts,bslParts,putAt,AV.cells,AV.one,astore,aload,loadCs,callArgs,abin,abinInt,aapp,elems,appMore,appNone,preLen,aFa,aFld,apart,aExt,aPick,aNot,aLens,aEqa,cellsK,fitsA,LK.fitsA,leavesA,leafA,nilD,aNilc,aCint,aCid,alive,alen,alenOk,Rle,lePs,len_flat, Kc, h4]
     simp [nameK, h1, h2, h3, h4]
  ·simp (maxSteps := 3000000) [-List.length_flatten,-List.map_drop,-List.map_take,Function.comp_def,argsT,Opd.ev,Tm.get,put,ares,mapMo,ares1,snilP,bldParts,bslParts,putAt,AV.cells,AV.one,astore,aload,loadCs,callArgs,abin,abinInt,aapp,elems,appMore,appNone,preLen,aFa,aFld,apart,aExt,aPick,aNot,aLens,aEqa,cellsK,fitsA,LK.fitsA,leavesA,leafA,nilD,aNilc,aCint,aCid,alive,alen,alenOk,Rle,lePs,len_flat, c41, h0, h1, h1', hA, h2]
   simp [nameK, h1, h2]
 ·have h1' : (l.length : Int) ≤ at' := by omega
  simp (maxSteps := 3000000) [-List.length_flatten,-List.map_drop,-List.map_take,Function.comp_def,argsT,Opd.ev,Tm.get,put,ares,mapMo,ares1,snilP,bldParts,bslParts,putAt,AV.cells,AV.one,astore,aload,loadCs,callArgs,abin,abinInt,aapp,elems,appMore,appNone,preLen,aFa,aFld,apart,aExt,aPick,aNot,aLens,aEqa,cellsK,fitsA,LK.fitsA,leavesA,leafA,nilD,aNilc,aCint,aCid,alive,alen,alenOk,Rle,lePs,len_flat, c41, h0, h1, h1', hA]
  simp [nameK, h1]
theorem nameK_var {l : List Tok} {at' : Int} (h : nameK l at' = 1) : at' < l.length ∧ (gi l at').text.size ≠ 0 := by
 unfold nameK at h
 split at h
 ·rename_i h1
  split at h
  ·rename_i h2
   exact ⟨h1.1, varOk_size h2⟩
  ·split at h
   ·split at h <;> simp at h
   ·simp at h
 ·simp at h
theorem nameK_in {l : List Tok} {at' : Int} (h : nameK l at' ≠ 0) : at' < l.length := by
 unfold nameK at h
 split at h
 ·rename_i h1
  exact h1.1
 ·simp at h
theorem signAt_in {l : List Tok} {at' : Int} {s : ByteArray} (h : signAt l at' s = true) : at' < l.length := by
 simp only [signAt, Bool.and_eq_true, decide_eq_true_eq] at h
 exact h.1
end Go.AM

namespace Go.AM
open Go.Proofs
set_option maxRecDepth 100000
set_option linter.unusedVariables false
set_option linter.unusedSimpArgs false
abbrev strs (l : List ByteArray) : AV := .rows false 1 (l.map fun s => [.str s])
abbrev RowR := List ByteArray × Nat × Bool
abbrev rowV (r : RowR) : AV := .tuple [strs r.1, i64 r.2.1, .bool r.2.2]
def rowF (l : List Tok) : Nat → Nat → List ByteArray → RowR
 | 0, i, o => ([], i, false)
 | n + 1, i, o => if nameK l i = 1 then (if signAt l (i + 1 : Nat) ⟨#[41]⟩ then (o ++ [(gi l i).text], i + 1 + 1, true) else if signAt l (i + 1 : Nat) ⟨#[44]⟩ then rowF l n (i + 1 + 1) (o ++ [(gi l i).text]) else ([], i + 1, false)) else ([], i, false)
def rowR (l : List Tok) (i : Nat) : RowR := if signAt l i ⟨#[41]⟩ then ([], i + 1, true) else rowF l (l.length + 1) i []
theorem rowF_spec (l : List Tok) : ∀ (n i : Nat) (o : List ByteArray), i ≤ l.length → (∀ s ∈ o, s.size ≠ 0) → (rowF l n i o).2.1 ≤ l.length ∧ ((rowF l n i o).2.2 = true → i < (rowF l n i o).2.1 ∧ ∀ s ∈ (rowF l n i o).1, s.size ≠ 0)
 | 0, i, o, hi, ho => ⟨hi, fun h => by cases h⟩
 | n + 1, i, o, hi, ho => by
  unfold rowF
  split
  ·rename_i h
   obtain ⟨h3, h4⟩ := nameK_var h
   have ho' : ∀ s ∈ o ++ [(gi l i).text], s.size ≠ 0 := by
    intro s hs
    simp at hs
    rcases hs with hs | rfl
    ·exact ho s hs
    ·exact h4
   split
   ·rename_i h5
    have := signAt_in h5
    exact ⟨by simp; omega, fun _ => ⟨by simp; omega, ho'⟩⟩
   ·split
    ·rename_i h6
     have := signAt_in h6
     obtain ⟨a, b⟩ := rowF_spec l n (i + 1 + 1) _ (by omega) ho'
     exact ⟨a, fun h => ⟨by have := (b h).1; omega, (b h).2⟩⟩
    ·exact ⟨by simp; omega, fun h => by cases h⟩
  ·exact ⟨hi, fun h => by cases h⟩
theorem rowR_spec {l : List Tok} {i : Nat} (hi : i ≤ l.length) : (rowR l i).2.1 ≤ l.length ∧ ((rowR l i).2.2 = true → i < (rowR l i).2.1 ∧ ∀ s ∈ (rowR l i).1, s.size ≠ 0) := by
 unfold rowR
 split
 ·rename_i h
  have := signAt_in h
  exact ⟨by simp; omega, fun _ => ⟨by simp, by simp⟩⟩
 ·exact rowF_spec l _ i [] hi (by simp)
theorem row_PF (l : List Tok) (at' : Nat) (hl : l.length ≤ 2000) (ha : at' ≤ l.length) : PF Tryz.prog 73 [toks l, i64 at'] (rowV (rowR l at')) := by
 refine PFk 9 hm Tryz.func73 c73_ok (Nat.le_of_ble_eq_true rfl) (by simp) (by simp) ?_
 have hA : l.length ≤ maxA := by unfold maxA; omega
 have wr : ∀ i : Nat, i < l.length → IntKind.i64.wrap ((i : Int) + 1) = ((i + 1 : Nat) : Int) := fun i h => nxt h hA
 obtain ⟨R, hR0⟩ : ∃ R, R = rowF l (l.length + 1) at' [] := ⟨_, rfl⟩
 have eR : rowR l at' = if signAt l at' ⟨#[41]⟩ then ([], at' + 1, true) else R := by rw [hR0]; rfl
 rw [eR]
 simp (maxSteps := 3000000) [-List.length_flatten,-List.map_drop,-List.map_take,Function.comp_def,argsT,Opd.ev,Tm.get,put,ares,mapMo,ares1,snilP,bldParts,bslParts,putAt,AV.cells,AV.one,astore,aload,loadCs,callArgs,abin,abinInt,aapp,elems,appMore,appNone,preLen,aFa,aFld,apart,aExt,aPick,aNot,aLens,aEqa,cellsK,fitsA,LK.fitsA,leavesA,leafA,nilD,aNilc,aCint,aCid,alive,alen,alenOk,Rle,lePs,len_flat, c73]
 refine PF.call (sign_PF l at' ⟨#[41]⟩ (by omega) hl) 9 (by simp [lePs, -List.length_flatten, -List.map_drop, -List.map_take, Function.comp_def, len_flat]) ?_
 cases h1 : signAt l at' ⟨#[41]⟩ with
 | true =>
  have := signAt_in h1
  simp (maxSteps := 3000000) [-List.length_flatten,-List.map_drop,-List.map_take,Function.comp_def,argsT,Opd.ev,Tm.get,put,ares,mapMo,ares1,snilP,bldParts,bslParts,putAt,AV.cells,AV.one,astore,aload,loadCs,callArgs,abin,abinInt,aapp,elems,appMore,appNone,preLen,aFa,aFld,apart,aExt,aPick,aNot,aLens,aEqa,cellsK,fitsA,LK.fitsA,leavesA,leafA,nilD,aNilc,aCint,aCid,alive,alen,alenOk,Rle,lePs,len_flat, Kc, h1, wr at' (by omega)]
 | false =>
  simp (maxSteps := 3000000) [-List.length_flatten,-List.map_drop,-List.map_take,Function.comp_def,argsT,Opd.ev,Tm.get,put,ares,mapMo,ares1,snilP,bldParts,bslParts,putAt,AV.cells,AV.one,astore,aload,loadCs,callArgs,abin,abinInt,aapp,elems,appMore,appNone,preLen,aFa,aFld,apart,aExt,aPick,aNot,aLens,aEqa,cellsK,fitsA,LK.fitsA,leavesA,leafA,nilD,aNilc,aCint,aCid,alive,alen,alenOk,Rle,lePs,len_flat, Kc, h1]
  refine run_loopK (fun m T H => ∃ (i g n : Nat) (o : List ByteArray), m = l.length - i ∧ rowF l n i o = R ∧ l.length + 1 ≤ n + i ∧ i ≤ l.length ∧ o.length ≤ i ∧ T = [(7, .loc 0 g 0 o.length 1 false), (1, i64 i), (0, toks l)] ∧ H = [.cells g (o.map AV.str)]) (l.length - at')
   [(7, .loc 0 0 0 0 1 false), (1, i64 at'), (0, toks l)] [.cells 0 []] ((Wk.nil 7 1 rfl).trans (Wk.tell 1 (by omega) (by simp [Tm.get]) (by simp) rfl (by simp [RLB]))) ⟨at', 0, l.length + 1, [], rfl, hR0.symm, by omega, ha, by simp, rfl, rfl⟩ ?_
  rintro m T H ⟨i, g, n, o, rfl, hR, hn, hi, ho, rfl, rfl⟩ KK kx kr kn
  obtain ⟨n, rfl⟩ : ∃ n', n = n' + 1 := ⟨n - 1, by omega⟩
  unfold rowF at hR
  simp (maxSteps := 3000000) [-List.length_flatten,-List.map_drop,-List.map_take,Function.comp_def,argsT,Opd.ev,Tm.get,put,ares,mapMo,ares1,snilP,bldParts,bslParts,putAt,AV.cells,AV.one,astore,aload,loadCs,callArgs,abin,abinInt,aapp,elems,appMore,appNone,preLen,aFa,aFld,apart,aExt,aPick,aNot,aLens,aEqa,cellsK,fitsA,LK.fitsA,leavesA,leafA,nilD,aNilc,aCint,aCid,alive,alen,alenOk,Rle,lePs,len_flat]
  refine PF.call (nameK_PF l i (by omega) hl) 9 (by simp [lePs, -List.length_flatten, -List.map_drop, -List.map_take, Function.comp_def, len_flat]) ?_
  by_cases h2 : nameK l i = 1
  ·obtain ⟨h3, h4⟩ := nameK_var h2
   have h3' : i < l.length := by omega
   have w1 := wr i h3'
   have hm : o.length + 1 ≤ maxA := by unfold maxA; omega
   have tk : List.take o.length (o.map AV.str) = o.map AV.str := List.take_of_length_le (by simp)
   rw [if_pos h2] at hR
   simp (maxSteps := 3000000) [-List.length_flatten,-List.map_drop,-List.map_take,Function.comp_def,argsT,Opd.ev,Tm.get,put,ares,mapMo,ares1,snilP,bldParts,bslParts,putAt,AV.cells,AV.one,astore,aload,loadCs,callArgs,abin,abinInt,aapp,elems,appMore,appNone,preLen,aFa,aFld,apart,aExt,aPick,aNot,aLens,aEqa,cellsK,fitsA,LK.fitsA,leavesA,leafA,nilD,aNilc,aCint,aCid,alive,alen,alenOk,Rle,lePs,len_flat, Kc, h2, h3', w1, hm, tk]
   intro _ _
   refine PF.call (sign_PF l (i + 1 : Nat) ⟨#[41]⟩ (by omega) hl) 9 (by simp [lePs, -List.length_flatten, -List.map_drop, -List.map_take, Function.comp_def, len_flat]) ?_
   have hh : o.map AV.str ++ [AV.str (gi l i).text] = (o ++ [(gi l i).text]).map AV.str := by simp
   cases h5 : signAt l (i + 1 : Nat) ⟨#[41]⟩ with
   | true =>
    have := signAt_in h5
    have w2 := wr (i + 1) (by omega)
    rw [show (((i + 1 : Nat) : Int)) = (i : Int) + 1 from rfl] at w2
    rw [h5, if_pos rfl] at hR
    subst hR
    simp (maxSteps := 3000000) [-List.length_flatten,-List.map_drop,-List.map_take,Function.comp_def,argsT,Opd.ev,Tm.get,put,ares,mapMo,ares1,snilP,bldParts,bslParts,putAt,AV.cells,AV.one,astore,aload,loadCs,callArgs,abin,abinInt,aapp,elems,appMore,appNone,preLen,aFa,aFld,apart,aExt,aPick,aNot,aLens,aEqa,cellsK,fitsA,LK.fitsA,leavesA,leafA,nilD,aNilc,aCint,aCid,alive,alen,alenOk,Rle,lePs,len_flat, Kc, h5, kr, w2]
    have hc := chunk_one (f := AV.str) (l := o ++ [(gi l i).text])
    simp only [List.map_append, List.map_cons, List.map_nil, List.length_append, List.length_cons, List.length_nil, Nat.zero_add] at hc
    simp [lePs, hc]
   | false =>
    rw [h5, if_neg (by simp)] at hR
    simp (maxSteps := 3000000) [-List.length_flatten,-List.map_drop,-List.map_take,Function.comp_def,argsT,Opd.ev,Tm.get,put,ares,mapMo,ares1,snilP,bldParts,bslParts,putAt,AV.cells,AV.one,astore,aload,loadCs,callArgs,abin,abinInt,aapp,elems,appMore,appNone,preLen,aFa,aFld,apart,aExt,aPick,aNot,aLens,aEqa,cellsK,fitsA,LK.fitsA,leavesA,leafA,nilD,aNilc,aCint,aCid,alive,alen,alenOk,Rle,lePs,len_flat, Kc, h5]
    refine PF.call (sign_PF l (i + 1 : Nat) ⟨#[44]⟩ (by omega) hl) 9 (by simp [lePs, -List.length_flatten, -List.map_drop, -List.map_take, Function.comp_def, len_flat]) ?_
    cases h6 : signAt l (i + 1 : Nat) ⟨#[44]⟩ with
    | true =>
     have := signAt_in h6
     have w2 := wr (i + 1) (by omega)
     rw [show (((i + 1 : Nat) : Int)) = (i : Int) + 1 from rfl] at w2
     rw [h6, if_pos rfl] at hR
     simp (maxSteps := 3000000) [-List.length_flatten,-List.map_drop,-List.map_take,Function.comp_def,argsT,Opd.ev,Tm.get,put,ares,mapMo,ares1,snilP,bldParts,bslParts,putAt,AV.cells,AV.one,astore,aload,loadCs,callArgs,abin,abinInt,aapp,elems,appMore,appNone,preLen,aFa,aFld,apart,aExt,aPick,aNot,aLens,aEqa,cellsK,fitsA,LK.fitsA,leavesA,leafA,nilD,aNilc,aCint,aCid,alive,alen,alenOk,Rle,lePs,len_flat, Kc, h6, w2]
     exact kn _ _ (Kl_next (l.length - (i + 1 + 1)) 1 (by omega) (T' := [(7, .loc 0 (g + 1) 0 (o ++ [(gi l i).text]).length 1 false), (1, i64 (i + 1 + 1 : Nat)), (0, toks l)]) ⟨i + 1 + 1, g + 1, n, o ++ [(gi l i).text], rfl, hR, by omega, by omega, by simp; omega, rfl, rfl⟩ (by simp [Tm.get]) (by simp) (by simp) (by simp [RLB]; rintro y (⟨a, _, rfl⟩ | rfl) <;> simp) (by omega))
    | false =>
     rw [h6, if_neg (by simp)] at hR
     subst hR
     simp (maxSteps := 3000000) [-List.length_flatten,-List.map_drop,-List.map_take,Function.comp_def,argsT,Opd.ev,Tm.get,put,ares,mapMo,ares1,snilP,bldParts,bslParts,putAt,AV.cells,AV.one,astore,aload,loadCs,callArgs,abin,abinInt,aapp,elems,appMore,appNone,preLen,aFa,aFld,apart,aExt,aPick,aNot,aLens,aEqa,cellsK,fitsA,LK.fitsA,leavesA,leafA,nilD,aNilc,aCint,aCid,alive,alen,alenOk,Rle,lePs,len_flat, Kc, h6, kr]
  ·rw [if_neg h2] at hR
   subst hR
   simp (maxSteps := 3000000) [-List.length_flatten,-List.map_drop,-List.map_take,Function.comp_def,argsT,Opd.ev,Tm.get,put,ares,mapMo,ares1,snilP,bldParts,bslParts,putAt,AV.cells,AV.one,astore,aload,loadCs,callArgs,abin,abinInt,aapp,elems,appMore,appNone,preLen,aFa,aFld,apart,aExt,aPick,aNot,aLens,aEqa,cellsK,fitsA,LK.fitsA,leavesA,leafA,nilD,aNilc,aCint,aCid,alive,alen,alenOk,Rle,lePs,len_flat, Kc, h2, kr]
end Go.AM

namespace Go.AM
open Go.Proofs
set_option maxRecDepth 100000
set_option linter.unusedVariables false
set_option linter.unusedSimpArgs false
structure Stm where
 kind : Int
 inn : Int
 x : ByteArray
 y : ByteArray
 args : List ByteArray
 n : Int
 deriving Inhabited
abbrev Stm.cs (s : Stm) : List AV := [i64 s.kind, i64 s.inn, .str s.x, .str s.y, strs s.args, i64 s.n]
abbrev StmR := Stm × Nat × Bool
abbrev stmV (r : StmR) : AV := .tuple [.agg r.1.cs, i64 r.2.1, .bool r.2.2]
def rightF (l : List Tok) (i : Nat) (s : Stm) (sites : Int) : StmR :=
 if signAt l i ⟨#[38]⟩ = true ∨ signAt l i ⟨#[42]⟩ = true then
  (if nameK l (i + 1 : Nat) = 1 then ({ s with kind := if (gi l i).text = ⟨#[38]⟩ then 1 else 4, y := (gi l (i + 1 : Nat)).text }, i + 1 + 1, true) else ({ s with kind := if (gi l i).text = ⟨#[38]⟩ then 1 else 4 }, i + 1, false))
 else if nameK l i = 3 then ({ s with kind := 2, n := sites }, i + 1, true)
 else if nameK l i = 2 then ({ s with kind := 6, y := (gi l i).text }, i + 1, true)
 else if nameK l i = 0 then (s, i, false)
 else if signAt l (i + 1 : Nat) ⟨#[40]⟩ then ({ s with kind := 7, y := (gi l i).text, args := (rowR l (i + 1 + 1)).1 }, (rowR l (i + 1 + 1)).2.1, (rowR l (i + 1 + 1)).2.2)
 else ({ s with kind := 3, y := (gi l i).text }, i + 1, true)
theorem nameK_cases (l : List Tok) (i : Int) : nameK l i = 0 ∨ nameK l i = 1 ∨ nameK l i = 2 ∨ nameK l i = 3 := by
 unfold nameK
 split
 ·split
  ·simp
  ·split
   ·split <;> simp
   ·simp
 ·simp
theorem right_PF (l : List Tok) (i : Nat) (s : Stm) (sites : Int) (hl : l.length ≤ 2000) (hi : i ≤ l.length) : PF Tryz.prog 74 [toks l, i64 i, .agg s.cs, i64 sites] (stmV (rightF l i s sites)) := by
 refine PFk 9 hm Tryz.func74 c74_ok (Nat.le_of_ble_eq_true rfl) (by simp) (by simp) ?_
 have hA : l.length ≤ maxA := by unfold maxA; omega
 have w1 : i < l.length → IntKind.i64.wrap ((i : Int) + 1) = ((i + 1 : Nat) : Int) := fun h => nxt h hA
 have w2 : IntKind.i64.wrap ((i : Int) + 2) = ((i + 1 + 1 : Nat) : Int) := by rw [w64 (by omega) (by omega)]; simp; omega
 obtain ⟨R, hR⟩ : ∃ R, R = rightF l i s sites := ⟨_, rfl⟩
 rw [← hR]
 unfold rightF at hR
 simp (maxSteps := 3000000) [-List.length_flatten,-List.map_drop,-List.map_take,Function.comp_def,argsT,Opd.ev,Tm.get,put,ares,mapMo,ares1,snilP,bldParts,bslParts,putAt,AV.cells,AV.one,astore,aload,loadCs,callArgs,abin,abinInt,aapp,elems,appMore,appNone,preLen,aFa,aFld,apart,aExt,aPick,aNot,aLens,aEqa,cellsK,fitsA,LK.fitsA,leavesA,leafA,nilD,aNilc,aCint,aCid,alive,alen,alenOk,Rle,lePs,len_flat, c74]
 refine PF.call (sign_PF l i ⟨#[38]⟩ (by omega) hl) 9 (by simp [lePs, -List.length_flatten, -List.map_drop, -List.map_take, Function.comp_def, len_flat]) ?_
 cases h1 : signAt l i ⟨#[38]⟩ with
 | true =>
  rw [if_pos (.inl h1)] at hR
  have hin : i < l.length := by have := signAt_in h1; omega
  have ht : (gi l i).text = ⟨#[38]⟩ := by
   simp only [signAt, Bool.and_eq_true, decide_eq_true_eq] at h1
   exact h1.2.2
  rw [ht] at hR
  simp (maxSteps := 3000000) [-List.length_flatten,-List.map_drop,-List.map_take,Function.comp_def,argsT,Opd.ev,Tm.get,put,ares,mapMo,ares1,snilP,bldParts,bslParts,putAt,AV.cells,AV.one,astore,aload,loadCs,callArgs,abin,abinInt,aapp,elems,appMore,appNone,preLen,aFa,aFld,apart,aExt,aPick,aNot,aLens,aEqa,cellsK,fitsA,LK.fitsA,leavesA,leafA,nilD,aNilc,aCint,aCid,alive,alen,alenOk,Rle,lePs,len_flat, Kc, h1, hin, ht, w1 hin]
  refine PF.call (nameK_PF l (i + 1 : Nat) (by omega) hl) 9 (by simp [lePs, -List.length_flatten, -List.map_drop, -List.map_take, Function.comp_def, len_flat]) ?_
  by_cases h3 : nameK l (i + 1 : Nat) = 1
  ·obtain ⟨h4, h5⟩ := nameK_var h3
   have h4' : (i : Int) + 1 < l.length := by omega
   rw [if_pos h3] at hR
   subst hR
   have h3' : nameK l ((i : Int) + 1) = 1 := h3
   simp (maxSteps := 3000000) [-List.length_flatten,-List.map_drop,-List.map_take,Function.comp_def,argsT,Opd.ev,Tm.get,put,ares,mapMo,ares1,snilP,bldParts,bslParts,putAt,AV.cells,AV.one,astore,aload,loadCs,callArgs,abin,abinInt,aapp,elems,appMore,appNone,preLen,aFa,aFld,apart,aExt,aPick,aNot,aLens,aEqa,cellsK,fitsA,LK.fitsA,leavesA,leafA,nilD,aNilc,aCint,aCid,alive,alen,alenOk,Rle,lePs,len_flat, Kc, h3', h4', w1 hin, w2]
   omega
  ·rw [if_neg h3] at hR
   subst hR
   have h3' : ¬ nameK l ((i : Int) + 1) = 1 := h3
   simp (maxSteps := 3000000) [-List.length_flatten,-List.map_drop,-List.map_take,Function.comp_def,argsT,Opd.ev,Tm.get,put,ares,mapMo,ares1,snilP,bldParts,bslParts,putAt,AV.cells,AV.one,astore,aload,loadCs,callArgs,abin,abinInt,aapp,elems,appMore,appNone,preLen,aFa,aFld,apart,aExt,aPick,aNot,aLens,aEqa,cellsK,fitsA,LK.fitsA,leavesA,leafA,nilD,aNilc,aCint,aCid,alive,alen,alenOk,Rle,lePs,len_flat, Kc, h3', w1 hin]
 | false =>
  simp (maxSteps := 3000000) [-List.length_flatten,-List.map_drop,-List.map_take,Function.comp_def,argsT,Opd.ev,Tm.get,put,ares,mapMo,ares1,snilP,bldParts,bslParts,putAt,AV.cells,AV.one,astore,aload,loadCs,callArgs,abin,abinInt,aapp,elems,appMore,appNone,preLen,aFa,aFld,apart,aExt,aPick,aNot,aLens,aEqa,cellsK,fitsA,LK.fitsA,leavesA,leafA,nilD,aNilc,aCint,aCid,alive,alen,alenOk,Rle,lePs,len_flat, Kc, h1]
  refine PF.call (sign_PF l i ⟨#[42]⟩ (by omega) hl) 9 (by simp [lePs, -List.length_flatten, -List.map_drop, -List.map_take, Function.comp_def, len_flat]) ?_
  cases h2 : signAt l i ⟨#[42]⟩ with
  | true =>
   rw [if_pos (.inr h2)] at hR
   have hin : i < l.length := by have := signAt_in h2; omega
   have ht : (gi l i).text = ⟨#[42]⟩ := by
    simp only [signAt, Bool.and_eq_true, decide_eq_true_eq] at h2
    exact h2.2.2
   rw [ht] at hR
   simp (maxSteps := 3000000) [-List.length_flatten,-List.map_drop,-List.map_take,Function.comp_def,argsT,Opd.ev,Tm.get,put,ares,mapMo,ares1,snilP,bldParts,bslParts,putAt,AV.cells,AV.one,astore,aload,loadCs,callArgs,abin,abinInt,aapp,elems,appMore,appNone,preLen,aFa,aFld,apart,aExt,aPick,aNot,aLens,aEqa,cellsK,fitsA,LK.fitsA,leavesA,leafA,nilD,aNilc,aCint,aCid,alive,alen,alenOk,Rle,lePs,len_flat, Kc, h2, hin, ht, w1 hin]
   refine PF.call (nameK_PF l (i + 1 : Nat) (by omega) hl) 9 (by simp [lePs, -List.length_flatten, -List.map_drop, -List.map_take, Function.comp_def, len_flat]) ?_
   by_cases h3 : nameK l (i + 1 : Nat) = 1
   ·obtain ⟨h4, h5⟩ := nameK_var h3
    have h4' : (i : Int) + 1 < l.length := by omega
    rw [if_pos h3] at hR
    subst hR
    have h3' : nameK l ((i : Int) + 1) = 1 := h3
    simp (maxSteps := 3000000) [-List.length_flatten,-List.map_drop,-List.map_take,Function.comp_def,argsT,Opd.ev,Tm.get,put,ares,mapMo,ares1,snilP,bldParts,bslParts,putAt,AV.cells,AV.one,astore,aload,loadCs,callArgs,abin,abinInt,aapp,elems,appMore,appNone,preLen,aFa,aFld,apart,aExt,aPick,aNot,aLens,aEqa,cellsK,fitsA,LK.fitsA,leavesA,leafA,nilD,aNilc,aCint,aCid,alive,alen,alenOk,Rle,lePs,len_flat, Kc, h3', h4', w1 hin, w2]
    omega
   ·rw [if_neg h3] at hR
    subst hR
    have h3' : ¬ nameK l ((i : Int) + 1) = 1 := h3
    simp (maxSteps := 3000000) [-List.length_flatten,-List.map_drop,-List.map_take,Function.comp_def,argsT,Opd.ev,Tm.get,put,ares,mapMo,ares1,snilP,bldParts,bslParts,putAt,AV.cells,AV.one,astore,aload,loadCs,callArgs,abin,abinInt,aapp,elems,appMore,appNone,preLen,aFa,aFld,apart,aExt,aPick,aNot,aLens,aEqa,cellsK,fitsA,LK.fitsA,leavesA,leafA,nilD,aNilc,aCint,aCid,alive,alen,alenOk,Rle,lePs,len_flat, Kc, h3', w1 hin]
  | false =>
   rw [if_neg (by simp [h1, h2])] at hR
   simp (maxSteps := 3000000) [-List.length_flatten,-List.map_drop,-List.map_take,Function.comp_def,argsT,Opd.ev,Tm.get,put,ares,mapMo,ares1,snilP,bldParts,bslParts,putAt,AV.cells,AV.one,astore,aload,loadCs,callArgs,abin,abinInt,aapp,elems,appMore,appNone,preLen,aFa,aFld,apart,aExt,aPick,aNot,aLens,aEqa,cellsK,fitsA,LK.fitsA,leavesA,leafA,nilD,aNilc,aCint,aCid,alive,alen,alenOk,Rle,lePs,len_flat, Kc, h2]
   refine PF.call (nameK_PF l i (by omega) hl) 9 (by simp [lePs, -List.length_flatten, -List.map_drop, -List.map_take, Function.comp_def, len_flat]) ?_
   rcases nameK_cases l i with h3 | h3 | h3 | h3
   ·rw [if_neg (by rw [h3]; decide), if_neg (by rw [h3]; decide), if_pos h3] at hR
    subst hR
    simp (maxSteps := 3000000) [-List.length_flatten,-List.map_drop,-List.map_take,Function.comp_def,argsT,Opd.ev,Tm.get,put,ares,mapMo,ares1,snilP,bldParts,bslParts,putAt,AV.cells,AV.one,astore,aload,loadCs,callArgs,abin,abinInt,aapp,elems,appMore,appNone,preLen,aFa,aFld,apart,aExt,aPick,aNot,aLens,aEqa,cellsK,fitsA,LK.fitsA,leavesA,leafA,nilD,aNilc,aCint,aCid,alive,alen,alenOk,Rle,lePs,len_flat, Kc, h3]
   ·have hin : i < l.length := by have := (nameK_var h3).1; omega
    rw [if_neg (by rw [h3]; decide), if_neg (by rw [h3]; decide), if_neg (by rw [h3]; decide)] at hR
    simp (maxSteps := 3000000) [-List.length_flatten,-List.map_drop,-List.map_take,Function.comp_def,argsT,Opd.ev,Tm.get,put,ares,mapMo,ares1,snilP,bldParts,bslParts,putAt,AV.cells,AV.one,astore,aload,loadCs,callArgs,abin,abinInt,aapp,elems,appMore,appNone,preLen,aFa,aFld,apart,aExt,aPick,aNot,aLens,aEqa,cellsK,fitsA,LK.fitsA,leavesA,leafA,nilD,aNilc,aCint,aCid,alive,alen,alenOk,Rle,lePs,len_flat, Kc, h3, hin, w1 hin]
    refine PF.call (sign_PF l (i + 1 : Nat) ⟨#[40]⟩ (by omega) hl) 9 (by simp [lePs, -List.length_flatten, -List.map_drop, -List.map_take, Function.comp_def, len_flat]) ?_
    cases h5 : signAt l (i + 1 : Nat) ⟨#[40]⟩ with
    | true =>
     rw [if_pos h5] at hR
     subst hR
     have := signAt_in h5
     simp (maxSteps := 3000000) [-List.length_flatten,-List.map_drop,-List.map_take,Function.comp_def,argsT,Opd.ev,Tm.get,put,ares,mapMo,ares1,snilP,bldParts,bslParts,putAt,AV.cells,AV.one,astore,aload,loadCs,callArgs,abin,abinInt,aapp,elems,appMore,appNone,preLen,aFa,aFld,apart,aExt,aPick,aNot,aLens,aEqa,cellsK,fitsA,LK.fitsA,leavesA,leafA,nilD,aNilc,aCint,aCid,alive,alen,alenOk,Rle,lePs,len_flat, Kc, h5, w2]
     refine PF.call (row_PF l (i + 1 + 1) hl (by omega)) 9 (by simp [lePs, -List.length_flatten, -List.map_drop, -List.map_take, Function.comp_def, len_flat]) ?_
     simp (maxSteps := 3000000) [-List.length_flatten,-List.map_drop,-List.map_take,Function.comp_def,argsT,Opd.ev,Tm.get,put,ares,mapMo,ares1,snilP,bldParts,bslParts,putAt,AV.cells,AV.one,astore,aload,loadCs,callArgs,abin,abinInt,aapp,elems,appMore,appNone,preLen,aFa,aFld,apart,aExt,aPick,aNot,aLens,aEqa,cellsK,fitsA,LK.fitsA,leavesA,leafA,nilD,aNilc,aCint,aCid,alive,alen,alenOk,Rle,lePs,len_flat, Kc]
    | false =>
     rw [if_neg (by rw [h5]; decide)] at hR
     subst hR
     simp (maxSteps := 3000000) [-List.length_flatten,-List.map_drop,-List.map_take,Function.comp_def,argsT,Opd.ev,Tm.get,put,ares,mapMo,ares1,snilP,bldParts,bslParts,putAt,AV.cells,AV.one,astore,aload,loadCs,callArgs,abin,abinInt,aapp,elems,appMore,appNone,preLen,aFa,aFld,apart,aExt,aPick,aNot,aLens,aEqa,cellsK,fitsA,LK.fitsA,leavesA,leafA,nilD,aNilc,aCint,aCid,alive,alen,alenOk,Rle,lePs,len_flat, Kc, h5, w1 hin]
   ·have hin : i < l.length := by have := nameK_in (l := l) (at' := i) (by rw [h3]; decide); omega
    rw [if_neg (by rw [h3]; decide), if_pos h3] at hR
    subst hR
    simp (maxSteps := 3000000) [-List.length_flatten,-List.map_drop,-List.map_take,Function.comp_def,argsT,Opd.ev,Tm.get,put,ares,mapMo,ares1,snilP,bldParts,bslParts,putAt,AV.cells,AV.one,astore,aload,loadCs,callArgs,abin,abinInt,aapp,elems,appMore,appNone,preLen,aFa,aFld,apart,aExt,aPick,aNot,aLens,aEqa,cellsK,fitsA,LK.fitsA,leavesA,leafA,nilD,aNilc,aCint,aCid,alive,alen,alenOk,Rle,lePs,len_flat, Kc, h3, hin, w1 hin]
   ·have hin : i < l.length := by have := nameK_in (l := l) (at' := i) (by rw [h3]; decide); omega
    rw [if_pos h3] at hR
    subst hR
    simp (maxSteps := 3000000) [-List.length_flatten,-List.map_drop,-List.map_take,Function.comp_def,argsT,Opd.ev,Tm.get,put,ares,mapMo,ares1,snilP,bldParts,bslParts,putAt,AV.cells,AV.one,astore,aload,loadCs,callArgs,abin,abinInt,aapp,elems,appMore,appNone,preLen,aFa,aFld,apart,aExt,aPick,aNot,aLens,aEqa,cellsK,fitsA,LK.fitsA,leavesA,leafA,nilD,aNilc,aCint,aCid,alive,alen,alenOk,Rle,lePs,len_flat, Kc, h3, hin, w1 hin]
end Go.AM

namespace Go.AM
open Go.Proofs
set_option maxRecDepth 100000
set_option linter.unusedVariables false
set_option linter.unusedSimpArgs false
structure Fn0 where
 name : ByteArray
 params : List ByteArray
 ret : ByteArray
 deriving Inhabited
abbrev Fn0.cs (f : Fn0) : List AV := [.str f.name, strs f.params, .str f.ret]
abbrev stms (l : List Stm) : AV := .rows false 6 (l.map Stm.cs)
abbrev fns (l : List Fn0) : AV := .rows false 3 (l.map Fn0.cs)
structure Pg where
 funs : List Fn0
 l : List Stm
 deriving Inhabited
abbrev Pg.cs (p : Pg) : List AV := [fns p.funs, stms p.l]
def sitesN (l : List Stm) : Nat := l.countP fun s => decide (s.kind = 2)
theorem take_next {α : Type} [Inhabited α] {l : List α} {i : Nat} (h : i < l.length) : l.take (i + 1) = l.take i ++ [gi l i] := by
 rw [List.take_add_one, List.getElem?_eq_getElem h]
 simp [gi, List.getD, h]
theorem sitesN_next {l : List Stm} {i : Nat} (h : i < l.length) : sitesN (l.take (i + 1)) = sitesN (l.take i) + if (gi l i).kind = 2 then 1 else 0 := by
 unfold sitesN
 rw [take_next h, List.countP_append]
 by_cases hk : (gi l i).kind = 2 <;> simp [hk]
theorem sitesN_le (l : List Stm) : sitesN l ≤ l.length := List.countP_le_length
theorem sites_PF (p : Pg) (hl : p.l.length ≤ 1048576) : PF Tryz.prog 68 [.agg p.cs] (i64 (sitesN p.l)) := by
 refine PFk 9 hm Tryz.func68 c68_ok (Nat.le_of_ble_eq_true rfl) (by simp) (by simp) ?_
 have hA : p.l.length ≤ maxA := by unfold maxA; omega
 simp (maxSteps := 3000000) [-List.length_flatten,-List.map_drop,-List.map_take,Function.comp_def,argsT,Opd.ev,Tm.get,put,ares,mapMo,ares1,snilP,bldParts,bslParts,putAt,AV.cells,AV.one,astore,aload,loadCs,callArgs,abin,abinInt,aapp,elems,appMore,appNone,preLen,aFa,aFld,apart,aExt,aPick,aNot,aLens,aEqa,cellsK,fitsA,LK.fitsA,leavesA,leafA,nilD,aNilc,aCint,aCid,alive,alen,alenOk,Rle,lePs,len_flat, c68]
 refine run_loopK (fun m T H => ∃ i : Nat, m = p.l.length - i ∧ i ≤ p.l.length ∧ T = [(4, i64 i), (3, i64 (sitesN (p.l.take i))), (1, .ptr 0 0 0)] ∧ H = [.cells 0 p.cs]) p.l.length
  [(4, i64 (0 : Nat)), (3, i64 (0 : Nat)), (1, .ptr 0 0 0)] [.cells 0 p.cs] (Wk.tell 1 (by omega) (by simp [Tm.get]) (by simp) rfl (by simp [RLB])) ⟨0, rfl, by omega, rfl, rfl⟩ ?_
 rintro m T H ⟨i, rfl, hi, rfl, rfl⟩ KK kx kr kn
 by_cases h : i < p.l.length
 ·have nx : ∀ T : Tm, al (fun q => T.get q.1 = q.2) [(4, i64 (i + 1 : Nat)), (3, i64 (sitesN (p.l.take (i + 1)))), (1, .ptr 0 0 0)] → KK .normal T [.cells 0 p.cs] := fun T ht =>
   kn _ _ (Kl_next (p.l.length - (i + 1)) 1 (by omega) (T' := [(4, i64 (i + 1 : Nat)), (3, i64 (sitesN (p.l.take (i + 1)))), (1, .ptr 0 0 0)]) ⟨i + 1, rfl, by omega, rfl, rfl⟩ ht (by simp) rfl (by simp [RLB]) (by omega))
  have hs : sitesN (p.l.take i) < p.l.length := by have := sitesN_le (p.l.take i); simp at this; omega
  have w1 := nxt h hA
  have w2 := nxt hs hA
  have e := sitesN_next h
  by_cases hk : (gi p.l i).kind = 2
  ·rw [if_pos hk] at e
   simp (maxSteps := 3000000) [-List.length_flatten,-List.map_drop,-List.map_take,Function.comp_def,argsT,Opd.ev,Tm.get,put,ares,mapMo,ares1,snilP,bldParts,bslParts,putAt,AV.cells,AV.one,astore,aload,loadCs,callArgs,abin,abinInt,aapp,elems,appMore,appNone,preLen,aFa,aFld,apart,aExt,aPick,aNot,aLens,aEqa,cellsK,fitsA,LK.fitsA,leavesA,leafA,nilD,aNilc,aCint,aCid,alive,alen,alenOk,Rle,lePs,len_flat, h, hA, hk]
   exact nx _ (by simp [Tm.get, w1, w2, e])
  ·rw [if_neg hk] at e
   simp (maxSteps := 3000000) [-List.length_flatten,-List.map_drop,-List.map_take,Function.comp_def,argsT,Opd.ev,Tm.get,put,ares,mapMo,ares1,snilP,bldParts,bslParts,putAt,AV.cells,AV.one,astore,aload,loadCs,callArgs,abin,abinInt,aapp,elems,appMore,appNone,preLen,aFa,aFld,apart,aExt,aPick,aNot,aLens,aEqa,cellsK,fitsA,LK.fitsA,leavesA,leafA,nilD,aNilc,aCint,aCid,alive,alen,alenOk,Rle,lePs,len_flat, h, hA, hk]
   exact nx _ (by simp [Tm.get, w1, e])
 ·have : p.l.take i = p.l := List.take_of_length_le (by omega)
  simp (maxSteps := 3000000) [-List.length_flatten,-List.map_drop,-List.map_take,Function.comp_def,argsT,Opd.ev,Tm.get,put,ares,mapMo,ares1,snilP,bldParts,bslParts,putAt,AV.cells,AV.one,astore,aload,loadCs,callArgs,abin,abinInt,aapp,elems,appMore,appNone,preLen,aFa,aFld,apart,aExt,aPick,aNot,aLens,aEqa,cellsK,fitsA,LK.fitsA,leavesA,leafA,nilD,aNilc,aCint,aCid,alive,alen,alenOk,Rle,lePs,len_flat, h, hA, kx, this]
theorem at_PF (l : List ByteArray) (s : ByteArray) : PF Tryz.prog 61 [strs l, .str s] (i64 (fstAt (fun x => decide (x = s)) l)) := by
 refine PFk 9 hm Tryz.func61 c61_ok (Nat.le_of_ble_eq_true rfl) (by simp) (by simp) ?_
 simp (maxSteps := 3000000) [-List.length_flatten,-List.map_drop,-List.map_take,Function.comp_def,argsT,Opd.ev,Tm.get,put,ares,mapMo,ares1,snilP,bldParts,bslParts,putAt,AV.cells,AV.one,astore,aload,loadCs,callArgs,abin,abinInt,aapp,elems,appMore,appNone,preLen,aFa,aFld,apart,aExt,aPick,aNot,aLens,aEqa,cellsK,fitsA,LK.fitsA,leavesA,leafA,nilD,aNilc,aCint,aCid,alive,alen,alenOk,Rle,lePs,len_flat, c61]
 refine run_loop (fun n T H => ∃ i : Nat, n = l.length - i ∧ i ≤ l.length ∧ T = [(5, i64 i), (0, strs l), (1, .str s)] ∧ H = [] ∧ ∀ j : Nat, j < i → ¬ gi l j = s) l.length [(5, i64 0), (0, strs l), (1, .str s)] []
  (Wk.tell 0 (Nat.le_refl _) (by simp [Tm.get]) (by simp) rfl (by simp)) ⟨0, by simp, by simp, by simp, rfl, by simp⟩ ?_
 rintro n T H ⟨i, rfl, hi, rfl, rfl, hj⟩
 simp (maxSteps := 3000000) [-List.length_flatten,-List.map_drop,-List.map_take,Function.comp_def,argsT,Opd.ev,Tm.get,put,ares,mapMo,ares1,snilP,bldParts,bslParts,putAt,AV.cells,AV.one,astore,aload,loadCs,callArgs,abin,abinInt,aapp,elems,appMore,appNone,preLen,aFa,aFld,apart,aExt,aPick,aNot,aLens,aEqa,cellsK,fitsA,LK.fitsA,leavesA,leafA,nilD,aNilc,aCint,aCid,alive,alen,alenOk,Rle,lePs,len_flat]
 intro ha
 refine ⟨fun h1 => ⟨h1, fun h2 => (fstAt_some h1 (by simpa using h2) (fun j hl => by simpa using hj j hl)).symm, fun h2 => ?_⟩, fun h1 => ?_⟩
 ·refine Kl_next (l.length - (i + 1)) 0 (Nat.le_refl _) ⟨i + 1, rfl, h1, rfl, rfl, fun j hl => ?_⟩ (by simp [Tm.get, nxt h1 ha]) (by simp) rfl (by simp) (by omega)
  rcases Nat.lt_or_ge j i with h3 | h3
  ·exact hj j h3
  ·have : j = i := by omega
   subst this
   exact h2
 ·exact (fstAt_none (fun j hl => by simpa using hj j (by omega))).symm
theorem fstAt_mem {l : List ByteArray} {s : ByteArray} : fstAt (fun x => decide (x = s)) l < 0 ↔ s ∉ l := by
 unfold fstAt
 cases h : l.findIdx? (fun x => decide (x = s)) with
 | none =>
  rw [List.findIdx?_eq_none_iff] at h
  simp
  intro hs
  have := h s hs
  simp at this
 | some i =>
  rw [List.findIdx?_eq_some_iff_getElem] at h
  obtain ⟨h1, h2, _⟩ := h
  simp at h2
  have : s ∈ l := h2 ▸ List.getElem_mem _
  simp [this]
def add1 (o : List ByteArray) (s : ByteArray) : List ByteArray := if fstAt (fun x => decide (x = s)) o < 0 ∧ ¬ s = ⟨#[]⟩ then o ++ [s] else o
def addF (o l : List ByteArray) : List ByteArray := l.foldl add1 o
theorem add1_len (o : List ByteArray) (s : ByteArray) : (add1 o s).length ≤ o.length + 1 := by
 unfold add1
 split <;> simp
theorem addF_len (l : List ByteArray) : ∀ o : List ByteArray, (addF o l).length ≤ o.length + l.length := by
 induction l with
 | nil => intro o; simp [addF]
 | cons s l ih =>
  intro o
  have h1 := ih (add1 o s)
  have h2 := add1_len o s
  simp only [addF, List.foldl_cons, List.length_cons] at h1 ⊢
  omega
theorem addF_next {o l : List ByteArray} {i : Nat} (h : i < l.length) : addF o (l.take (i + 1)) = add1 (addF o (l.take i)) (gi l i) := by
 unfold addF
 rw [take_next h, List.foldl_append]
 rfl
theorem add_FT (b0 : ABlk) (hb : RLB 2 b0) (g : Nat) (o l : List ByteArray) (hn : o.length + l.length ≤ 1000000000) :
  FT Tryz.prog 50 [.loc 1 g 0 o.length 1 false, strs l] [b0, .cells g (o.map AV.str)] fun rv H' => ∃ g', rv = .loc 1 g' 0 (addF o l).length 1 false ∧ H' = [b0, .cells g' ((addF o l).map AV.str)] := by
 refine FTk hm Tryz.func50 c50_ok (Nat.le_of_ble_eq_true rfl) ?_
 have hA : l.length ≤ maxA := by unfold maxA; omega
 simp (maxSteps := 3000000) [-List.length_flatten,-List.map_drop,-List.map_take,Function.comp_def,argsT,Opd.ev,Tm.get,put,ares,mapMo,ares1,snilP,bldParts,bslParts,putAt,AV.cells,AV.one,astore,aload,loadCs,callArgs,abin,abinInt,aapp,elems,appMore,appNone,preLen,aFa,aFld,apart,aExt,aPick,aNot,aLens,aEqa,cellsK,fitsA,LK.fitsA,leavesA,leafA,nilD,aNilc,aCint,aCid,alive,alen,alenOk,Rle,lePs,len_flat, c50]
 refine run_loopK (fun m T H => ∃ i g : Nat, m = l.length - i ∧ i ≤ l.length ∧ T = [(5, i64 i), (0, .loc 1 g 0 (addF o (l.take i)).length 1 false), (1, strs l)] ∧ H = [b0, .cells g ((addF o (l.take i)).map AV.str)]) l.length
  [(5, i64 (0 : Nat)), (0, .loc 1 g 0 o.length 1 false), (1, strs l)] [b0, .cells g (o.map AV.str)] (Wk.tell 2 (by simp) (by simp [Tm.get]) (by simp) rfl (⟨hb, by simp [RLB], trivial⟩)) ⟨0, g, rfl, by omega, rfl, rfl⟩ ?_
 rintro m T H ⟨i, g, rfl, hi, rfl, rfl⟩ KK kx kr kn
 by_cases h : i < l.length
 ·have e := addF_next (o := o) h
  have hl2 := addF_len (l.take i) o
  simp only [List.length_take] at hl2
  generalize addF o (l.take i) = a at *
  have nx : ∀ (T : Tm) (g : Nat), al (fun q => T.get q.1 = q.2) [(5, i64 (i + 1 : Nat)), (0, .loc 1 g 0 (addF o (l.take (i + 1))).length 1 false), (1, strs l)] → KK .normal T [b0, .cells g ((addF o (l.take (i + 1))).map AV.str)] := fun T g ht =>
   kn _ _ (Kl_next (l.length - (i + 1)) 2 (by simp) (T' := [(5, i64 (i + 1 : Nat)), (0, .loc 1 g 0 (addF o (l.take (i + 1))).length 1 false), (1, strs l)]) ⟨i + 1, g, rfl, by omega, rfl, rfl⟩ ht (by simp) rfl ⟨hb, by simp [RLB], trivial⟩ (by omega))
  simp (maxSteps := 3000000) [-List.length_flatten,-List.map_drop,-List.map_take,Function.comp_def,argsT,Opd.ev,Tm.get,put,ares,mapMo,ares1,snilP,bldParts,bslParts,putAt,AV.cells,AV.one,astore,aload,loadCs,callArgs,abin,abinInt,aapp,elems,appMore,appNone,preLen,aFa,aFld,apart,aExt,aPick,aNot,aLens,aEqa,cellsK,fitsA,LK.fitsA,leavesA,leafA,nilD,aNilc,aCint,aCid,alive,alen,alenOk,Rle,lePs,len_flat, h, hA]
  refine PF.borrow (at_PF a (gi l i)) 9 9 rfl (by simp [lePs, chunk_one]) ?_
  by_cases h1 : fstAt (fun x => decide (x = gi l i)) a < 0
  ·by_cases h2 : gi l i = ⟨#[]⟩
   ·have e1 : add1 a (gi l i) = a := by simp [add1, h2]
    rw [e1] at e
    rw [e] at nx
    rw [h2] at h1
    simp (maxSteps := 3000000) [-List.length_flatten,-List.map_drop,-List.map_take,Function.comp_def,argsT,Opd.ev,Tm.get,put,ares,mapMo,ares1,snilP,bldParts,bslParts,putAt,AV.cells,AV.one,astore,aload,loadCs,callArgs,abin,abinInt,aapp,elems,appMore,appNone,preLen,aFa,aFld,apart,aExt,aPick,aNot,aLens,aEqa,cellsK,fitsA,LK.fitsA,leavesA,leafA,nilD,aNilc,aCint,aCid,alive,alen,alenOk,Rle,lePs,len_flat, Kc, h, hA, h1, h2]
    exact nx _ g (by simp [Tm.get, nxt h hA])
   ·have e1 : add1 a (gi l i) = a ++ [gi l i] := by simp [add1, h1, h2]
    rw [e1] at e
    have hm : a.length + 1 ≤ maxA := by unfold maxA; omega
    have tk : List.take a.length (a.map AV.str) = a.map AV.str := List.take_of_length_le (by simp)
    rw [e, show (a ++ [gi l i]).map AV.str = a.map AV.str ++ [AV.str (gi l i)] by simp] at nx
    simp (maxSteps := 3000000) [-List.length_flatten,-List.map_drop,-List.map_take,Function.comp_def,argsT,Opd.ev,Tm.get,put,ares,mapMo,ares1,snilP,bldParts,bslParts,putAt,AV.cells,AV.one,astore,aload,loadCs,callArgs,abin,abinInt,aapp,elems,appMore,appNone,preLen,aFa,aFld,apart,aExt,aPick,aNot,aLens,aEqa,cellsK,fitsA,LK.fitsA,leavesA,leafA,nilD,aNilc,aCint,aCid,alive,alen,alenOk,Rle,lePs,len_flat, Kc, h, hA, h1, h2, hm, tk]
    intro _ _
    exact nx _ (g + 1) (by simp [Tm.get, nxt h hA])
  ·have e1 : add1 a (gi l i) = a := by simp [add1, h1]
   rw [e1] at e
   rw [e] at nx
   simp (maxSteps := 3000000) [-List.length_flatten,-List.map_drop,-List.map_take,Function.comp_def,argsT,Opd.ev,Tm.get,put,ares,mapMo,ares1,snilP,bldParts,bslParts,putAt,AV.cells,AV.one,astore,aload,loadCs,callArgs,abin,abinInt,aapp,elems,appMore,appNone,preLen,aFa,aFld,apart,aExt,aPick,aNot,aLens,aEqa,cellsK,fitsA,LK.fitsA,leavesA,leafA,nilD,aNilc,aCint,aCid,alive,alen,alenOk,Rle,lePs,len_flat, Kc, h, hA, h1]
   exact nx _ g (by simp [Tm.get, nxt h hA])
 ·have : l.take i = l := List.take_of_length_le (by omega)
  rw [this]
  simp (maxSteps := 3000000) [-List.length_flatten,-List.map_drop,-List.map_take,Function.comp_def,argsT,Opd.ev,Tm.get,put,ares,mapMo,ares1,snilP,bldParts,bslParts,putAt,AV.cells,AV.one,astore,aload,loadCs,callArgs,abin,abinInt,aapp,elems,appMore,appNone,preLen,aFa,aFld,apart,aExt,aPick,aNot,aLens,aEqa,cellsK,fitsA,LK.fitsA,leavesA,leafA,nilD,aNilc,aCint,aCid,alive,alen,alenOk,Rle,lePs,len_flat, h, hA, kx]
def varsS (o : List ByteArray) (s : Stm) : List ByteArray := addF (if s.kind = 6 then add1 o s.x else add1 (add1 o s.x) s.y) s.args
def varsF (o : List ByteArray) (f : Fn0) : List ByteArray := add1 (addF o f.params) f.ret
def varsOf (p : Pg) : List ByteArray := p.l.foldl varsS (p.funs.foldl varsF [])
theorem addF_one (o : List ByteArray) (s : ByteArray) : addF o [s] = add1 o s := rfl
theorem foldl_next {α β : Type} [Inhabited α] {f : β → α → β} {b : β} {l : List α} {i : Nat} (h : i < l.length) : (l.take (i + 1)).foldl f b = f ((l.take i).foldl f b) (gi l i) := by
 rw [take_next h, List.foldl_append]
 rfl
/-- How much there is of a program. -/
structure Fits (p : Pg) : Prop where
 funs : p.funs.length ≤ 2000
 l : p.l.length ≤ 2000
 params : ∀ f ∈ p.funs, f.params.length ≤ 2000
 args : ∀ s ∈ p.l, s.args.length ≤ 2000
theorem gi_mem {α : Type} [Inhabited α] {l : List α} {i : Nat} (h : i < l.length) : gi l i ∈ l := by
 simp [gi, List.getD, h]
theorem varsF_len (fs : List Fn0) (h : ∀ f ∈ fs, f.params.length ≤ 2000) : ∀ o : List ByteArray, (fs.foldl varsF o).length ≤ o.length + fs.length * 2001 := by
 induction fs with
 | nil => intro o; simp
 | cons f fs ih =>
  intro o
  have h1 := ih (fun f hf => h f (by simp [hf])) (varsF o f)
  have h2 := add1_len (addF o f.params) f.ret
  have h3 := addF_len f.params o
  have h4 := h f (by simp)
  simp only [List.foldl_cons, List.length_cons]
  unfold varsF at h1
  unfold varsF
  omega
theorem varsS_len (ss : List Stm) (h : ∀ s ∈ ss, s.args.length ≤ 2000) : ∀ o : List ByteArray, (ss.foldl varsS o).length ≤ o.length + ss.length * 2002 := by
 induction ss with
 | nil => intro o; simp
 | cons f fs ih =>
  intro o
  have h1 := ih (fun f hf => h f (by simp [hf])) (varsS o f)
  have h2 := add1_len o f.x
  have h5 := add1_len (add1 o f.x) f.y
  have h3 := addF_len f.args (if f.kind = 6 then add1 o f.x else add1 (add1 o f.x) f.y)
  have h4 := h f (by simp)
  simp only [List.foldl_cons, List.length_cons]
  have : (varsS o f).length ≤ o.length + 2002 := by
   unfold varsS
   split at h3 <;> rename_i hk <;> simp only [hk, if_true, if_false] at h3 ⊢ <;> omega
  omega
theorem vars_PF (p : Pg) (hp : Fits p) : PF Tryz.prog 20 [.agg p.cs] (strs (varsOf p)) := by
 refine PFk 9 hm Tryz.func20 c20_ok (Nat.le_of_ble_eq_true rfl) (by simp) (by simp) ?_
 have hA : p.l.length ≤ maxA := by have := hp.l; unfold maxA; omega
 have hB : p.funs.length ≤ maxA := by have := hp.funs; unfold maxA; omega
 obtain ⟨R, hR⟩ : ∃ R, R = varsOf p := ⟨_, rfl⟩
 rw [← hR]
 simp (maxSteps := 3000000) [-List.length_flatten,-List.map_drop,-List.map_take,Function.comp_def,argsT,Opd.ev,Tm.get,put,ares,mapMo,ares1,snilP,bldParts,bslParts,putAt,AV.cells,AV.one,astore,aload,loadCs,callArgs,abin,abinInt,aapp,elems,appMore,appNone,preLen,aFa,aFld,apart,aExt,aPick,aNot,aLens,aEqa,cellsK,fitsA,LK.fitsA,leavesA,leafA,nilD,aNilc,aCint,aCid,alive,alen,alenOk,Rle,lePs,len_flat, c20]
 refine run_loopK (fun m T H => ∃ i g : Nat, m = p.funs.length - i ∧ i ≤ p.funs.length ∧ T = [(4, i64 i), (3, .loc 1 g 0 ((p.funs.take i).foldl varsF []).length 1 false), (1, .ptr 0 0 0)] ∧ H = [.cells 0 p.cs, .cells g (((p.funs.take i).foldl varsF []).map AV.str)]) p.funs.length
  [(4, i64 (0 : Nat)), (3, .loc 1 0 0 0 1 false), (1, .ptr 0 0 0)] [.cells 0 p.cs, .cells 0 []] ((Wk.nil 3 1 rfl).trans (Wk.tell 2 (by omega) (by simp [Tm.get]) (by simp) rfl (by simp [RLB]))) ⟨0, 0, rfl, by omega, rfl, rfl⟩ ?_
 rintro m T H ⟨i, g, rfl, hi, rfl, rfl⟩ KK kx kr kn
 by_cases h : i < p.funs.length
 ·have e := foldl_next (f := varsF) (b := []) h
  have hl2 := varsF_len (p.funs.take i) (fun f hf => hp.params f (List.mem_of_mem_take hf)) []
  have hl3 := hp.params _ (gi_mem h)
  have hl4 := hp.funs
  simp only [List.length_take, List.length_nil] at hl2
  generalize (p.funs.take i).foldl varsF [] = a at *
  simp (maxSteps := 3000000) [-List.length_flatten,-List.map_drop,-List.map_take,Function.comp_def,argsT,Opd.ev,Tm.get,put,ares,mapMo,ares1,snilP,bldParts,bslParts,putAt,AV.cells,AV.one,astore,aload,loadCs,callArgs,abin,abinInt,aapp,elems,appMore,appNone,preLen,aFa,aFld,apart,aExt,aPick,aNot,aLens,aEqa,cellsK,fitsA,LK.fitsA,leavesA,leafA,nilD,aNilc,aCint,aCid,alive,alen,alenOk,Rle,lePs,len_flat, h, hB]
  refine (add_FT _ (by simp [RLB]) g a (gi p.funs i).params (by omega)).mono ?_
  rintro _ _ ⟨g1, rfl, rfl⟩
  have hl5 := addF_len (gi p.funs i).params a
  simp (maxSteps := 3000000) [-List.length_flatten,-List.map_drop,-List.map_take,Function.comp_def,argsT,Opd.ev,Tm.get,put,ares,mapMo,ares1,snilP,bldParts,bslParts,putAt,AV.cells,AV.one,astore,aload,loadCs,callArgs,abin,abinInt,aapp,elems,appMore,appNone,preLen,aFa,aFld,apart,aExt,aPick,aNot,aLens,aEqa,cellsK,fitsA,LK.fitsA,leavesA,leafA,nilD,aNilc,aCint,aCid,alive,alen,alenOk,Rle,lePs,len_flat, Kc, h, hB]
  refine ((add_FT (.cells 0 p.cs) (by simp [RLB]) g1 (addF a (gi p.funs i).params) [(gi p.funs i).ret] (by simp; omega)).le 9 (by simp [lePs, -List.length_flatten, -List.map_drop, -List.map_take, Function.comp_def, len_flat])).mono ?_
  rintro _ _ ⟨g2, rfl, rfl⟩
  rw [addF_one, show add1 (addF a (gi p.funs i).params) (gi p.funs i).ret = (p.funs.take (i + 1)).foldl varsF [] from e.symm]
  simp (maxSteps := 3000000) [-List.length_flatten,-List.map_drop,-List.map_take,Function.comp_def,argsT,Opd.ev,Tm.get,put,ares,mapMo,ares1,snilP,bldParts,bslParts,putAt,AV.cells,AV.one,astore,aload,loadCs,callArgs,abin,abinInt,aapp,elems,appMore,appNone,preLen,aFa,aFld,apart,aExt,aPick,aNot,aLens,aEqa,cellsK,fitsA,LK.fitsA,leavesA,leafA,nilD,aNilc,aCint,aCid,alive,alen,alenOk,Rle,lePs,len_flat, Kc]
  exact kn _ _ (Kl_next (p.funs.length - (i + 1)) 2 (by simp) (T' := [(4, i64 (i + 1 : Nat)), (3, .loc 1 g2 0 ((p.funs.take (i + 1)).foldl varsF []).length 1 false), (1, .ptr 0 0 0)]) ⟨i + 1, g2, rfl, by omega, rfl, rfl⟩ (by simp [Tm.get, nxt h hB]) (by simp) rfl (by simp [RLB]) (by omega))
 ·have : p.funs.take i = p.funs := List.take_of_length_le (by omega)
  rw [this]
  have hl2 := varsF_len p.funs hp.params []
  simp only [List.length_nil] at hl2
  have hv : R = p.l.foldl varsS (p.funs.foldl varsF []) := hR
  clear hR
  generalize p.funs.foldl varsF [] = b at *
  simp (maxSteps := 3000000) [-List.length_flatten,-List.map_drop,-List.map_take,Function.comp_def,argsT,Opd.ev,Tm.get,put,ares,mapMo,ares1,snilP,bldParts,bslParts,putAt,AV.cells,AV.one,astore,aload,loadCs,callArgs,abin,abinInt,aapp,elems,appMore,appNone,preLen,aFa,aFld,apart,aExt,aPick,aNot,aLens,aEqa,cellsK,fitsA,LK.fitsA,leavesA,leafA,nilD,aNilc,aCint,aCid,alive,alen,alenOk,Rle,lePs,len_flat, h, hB, kx]
  refine run_loopK (fun m T H => ∃ i g : Nat, m = p.l.length - i ∧ i ≤ p.l.length ∧ T = [(5, i64 i), (3, .loc 1 g 0 ((p.l.take i).foldl varsS b).length 1 false), (1, .ptr 0 0 0)] ∧ H = [.cells 0 p.cs, .cells g (((p.l.take i).foldl varsS b).map AV.str)]) p.l.length
   [(5, i64 (0 : Nat)), (3, .loc 1 g 0 b.length 1 false), (1, .ptr 0 0 0)] [.cells 0 p.cs, .cells g (b.map AV.str)] (Wk.tell 2 (by omega) (by simp [Tm.get]) (by simp) rfl (by simp [RLB])) ⟨0, g, rfl, by omega, rfl, rfl⟩ ?_
  clear kx kr kn
  rintro m T H ⟨i, g, rfl, hi, rfl, rfl⟩ KK kx kr kn
  by_cases h : i < p.l.length
  ·have e := foldl_next (f := varsS) (b := b) h
   have hl3 := varsS_len (p.l.take i) (fun f hf => hp.args f (List.mem_of_mem_take hf)) b
   have hl4 := hp.args _ (gi_mem h)
   have hl5 := hp.l
   have hl6 := hp.funs
   simp only [List.length_take] at hl3
   generalize (p.l.take i).foldl varsS b = a at *
   have nx : ∀ (T : Tm) (g : Nat), al (fun q => T.get q.1 = q.2) [(5, i64 (i + 1 : Nat)), (3, .loc 1 g 0 (varsS a (gi p.l i)).length 1 false), (1, .ptr 0 0 0)] → KK .normal T [.cells 0 p.cs, .cells g ((varsS a (gi p.l i)).map AV.str)] := fun T g ht =>
    kn _ _ (Kl_next (p.l.length - (i + 1)) 2 (by simp) (T' := [(5, i64 (i + 1 : Nat)), (3, .loc 1 g 0 (varsS a (gi p.l i)).length 1 false), (1, .ptr 0 0 0)]) (H' := [.cells 0 p.cs, .cells g ((varsS a (gi p.l i)).map AV.str)]) ⟨i + 1, g, rfl, by omega, by rw [e], by rw [e]⟩ ht (by simp) rfl (by simp [RLB]) (by omega))
   have hl7 := add1_len a (gi p.l i).x
   have hl8 := add1_len (add1 a (gi p.l i).x) (gi p.l i).y
   simp (maxSteps := 3000000) [-List.length_flatten,-List.map_drop,-List.map_take,Function.comp_def,argsT,Opd.ev,Tm.get,put,ares,mapMo,ares1,snilP,bldParts,bslParts,putAt,AV.cells,AV.one,astore,aload,loadCs,callArgs,abin,abinInt,aapp,elems,appMore,appNone,preLen,aFa,aFld,apart,aExt,aPick,aNot,aLens,aEqa,cellsK,fitsA,LK.fitsA,leavesA,leafA,nilD,aNilc,aCint,aCid,alive,alen,alenOk,Rle,lePs,len_flat, h, hA]
   refine ((add_FT (.cells 0 p.cs) (by simp [RLB]) g a [(gi p.l i).x] (by simp; omega)).le 9 (by simp [lePs, -List.length_flatten, -List.map_drop, -List.map_take, Function.comp_def, len_flat])).mono ?_
   rintro _ _ ⟨g1, rfl, rfl⟩
   rw [addF_one]
   unfold varsS at nx
   by_cases hk : (gi p.l i).kind = 6
   ·rw [if_pos hk] at nx
    simp (maxSteps := 3000000) [-List.length_flatten,-List.map_drop,-List.map_take,Function.comp_def,argsT,Opd.ev,Tm.get,put,ares,mapMo,ares1,snilP,bldParts,bslParts,putAt,AV.cells,AV.one,astore,aload,loadCs,callArgs,abin,abinInt,aapp,elems,appMore,appNone,preLen,aFa,aFld,apart,aExt,aPick,aNot,aLens,aEqa,cellsK,fitsA,LK.fitsA,leavesA,leafA,nilD,aNilc,aCint,aCid,alive,alen,alenOk,Rle,lePs,len_flat, Kc, h, hA, hk]
    refine (add_FT (.cells 0 p.cs) (by simp [RLB]) g1 (add1 a (gi p.l i).x) (gi p.l i).args (by omega)).mono ?_
    rintro _ _ ⟨g2, rfl, rfl⟩
    simp (maxSteps := 3000000) [-List.length_flatten,-List.map_drop,-List.map_take,Function.comp_def,argsT,Opd.ev,Tm.get,put,ares,mapMo,ares1,snilP,bldParts,bslParts,putAt,AV.cells,AV.one,astore,aload,loadCs,callArgs,abin,abinInt,aapp,elems,appMore,appNone,preLen,aFa,aFld,apart,aExt,aPick,aNot,aLens,aEqa,cellsK,fitsA,LK.fitsA,leavesA,leafA,nilD,aNilc,aCint,aCid,alive,alen,alenOk,Rle,lePs,len_flat, Kc]
    exact nx _ g2 (by simp [Tm.get, nxt h hA])
   ·rw [if_neg hk] at nx
    simp (maxSteps := 3000000) [-List.length_flatten,-List.map_drop,-List.map_take,Function.comp_def,argsT,Opd.ev,Tm.get,put,ares,mapMo,ares1,snilP,bldParts,bslParts,putAt,AV.cells,AV.one,astore,aload,loadCs,callArgs,abin,abinInt,aapp,elems,appMore,appNone,preLen,aFa,aFld,apart,aExt,aPick,aNot,aLens,aEqa,cellsK,fitsA,LK.fitsA,leavesA,leafA,nilD,aNilc,aCint,aCid,alive,alen,alenOk,Rle,lePs,len_flat, Kc, h, hA, hk]
    refine ((add_FT (.cells 0 p.cs) (by simp [RLB]) g1 (add1 a (gi p.l i).x) [(gi p.l i).y] (by simp; omega)).le 9 (by simp [lePs, -List.length_flatten, -List.map_drop, -List.map_take, Function.comp_def, len_flat])).mono ?_
    rintro _ _ ⟨g2, rfl, rfl⟩
    rw [addF_one]
    simp (maxSteps := 3000000) [-List.length_flatten,-List.map_drop,-List.map_take,Function.comp_def,argsT,Opd.ev,Tm.get,put,ares,mapMo,ares1,snilP,bldParts,bslParts,putAt,AV.cells,AV.one,astore,aload,loadCs,callArgs,abin,abinInt,aapp,elems,appMore,appNone,preLen,aFa,aFld,apart,aExt,aPick,aNot,aLens,aEqa,cellsK,fitsA,LK.fitsA,leavesA,leafA,nilD,aNilc,aCint,aCid,alive,alen,alenOk,Rle,lePs,len_flat, Kc, h, hA]
    refine (add_FT (.cells 0 p.cs) (by simp [RLB]) g2 (add1 (add1 a (gi p.l i).x) (gi p.l i).y) (gi p.l i).args (by omega)).mono ?_
    rintro _ _ ⟨g3, rfl, rfl⟩
    simp (maxSteps := 3000000) [-List.length_flatten,-List.map_drop,-List.map_take,Function.comp_def,argsT,Opd.ev,Tm.get,put,ares,mapMo,ares1,snilP,bldParts,bslParts,putAt,AV.cells,AV.one,astore,aload,loadCs,callArgs,abin,abinInt,aapp,elems,appMore,appNone,preLen,aFa,aFld,apart,aExt,aPick,aNot,aLens,aEqa,cellsK,fitsA,LK.fitsA,leavesA,leafA,nilD,aNilc,aCint,aCid,alive,alen,alenOk,Rle,lePs,len_flat, Kc]
    exact nx _ g3 (by simp [Tm.get, nxt h hA])
  ·have : p.l.take i = p.l := List.take_of_length_le (by omega)
   rw [this, ← hv]
   simp (maxSteps := 3000000) [-List.length_flatten,-List.map_drop,-List.map_take,Function.comp_def,argsT,Opd.ev,Tm.get,put,ares,mapMo,ares1,snilP,bldParts,bslParts,putAt,AV.cells,AV.one,astore,aload,loadCs,callArgs,abin,abinInt,aapp,elems,appMore,appNone,preLen,aFa,aFld,apart,aExt,aPick,aNot,aLens,aEqa,cellsK,fitsA,LK.fitsA,leavesA,leafA,nilD,aNilc,aCint,aCid,alive,alen,alenOk,Rle,lePs,len_flat, h, hA, kx]
   simp [chunk_one]
end Go.AM

namespace Go.AM
open Go.Proofs
set_option maxRecDepth 100000
set_option linter.unusedVariables false
set_option linter.unusedSimpArgs false
theorem isB_flat : ∀ r, isB r → flatV r = true := by rintro r ⟨b, rfl⟩; rfl
theorem twice_E (l : List ByteArray) (hl : l.length ≤ 1048576) : PFE Tryz.prog 75 [strs l] isB := by
 refine PFEk 9 hm Tryz.func75 c75_ok (Nat.le_of_ble_eq_true rfl) (by simp) isB_RL ?_
 have hA : l.length ≤ maxA := by unfold maxA; omega
 simp (maxSteps := 3000000) [-List.length_flatten,-List.map_drop,-List.map_take,Function.comp_def,argsT,Opd.ev,Tm.get,put,ares,mapMo,ares1,snilP,bldParts,bslParts,putAt,AV.cells,AV.one,astore,aload,loadCs,callArgs,abin,abinInt,aapp,elems,appMore,appNone,preLen,aFa,aFld,apart,aExt,aPick,aNot,aLens,aEqa,cellsK,fitsA,LK.fitsA,leavesA,leafA,nilD,aNilc,aCint,aCid,alive,alen,alenOk,Rle,lePs,len_flat, c75]
 refine run_countK l.length 3 [(0, strs l)] [] (fun _ => True) (Wk.tell 0 (Nat.le_refl _) (by simp [Tm.get]) (by simp) rfl (by simp)) trivial ?_
 intro i hi _ KK kx kr kn
 by_cases h : i < l.length
 ·simp (maxSteps := 3000000) [-List.length_flatten,-List.map_drop,-List.map_take,Function.comp_def,argsT,Opd.ev,Tm.get,put,ares,mapMo,ares1,snilP,bldParts,bslParts,putAt,AV.cells,AV.one,astore,aload,loadCs,callArgs,abin,abinInt,aapp,elems,appMore,appNone,preLen,aFa,aFld,apart,aExt,aPick,aNot,aLens,aEqa,cellsK,fitsA,LK.fitsA,leavesA,leafA,nilD,aNilc,aCint,aCid,alive,alen,alenOk,Rle,lePs,len_flat, h, hA]
  refine PF.call (at_PF l (gi l i)) 9 (by simp [lePs, -List.length_flatten, -List.map_drop, -List.map_take, Function.comp_def, len_flat]) ?_
  simp (maxSteps := 3000000) [-List.length_flatten,-List.map_drop,-List.map_take,Function.comp_def,argsT,Opd.ev,Tm.get,put,ares,mapMo,ares1,snilP,bldParts,bslParts,putAt,AV.cells,AV.one,astore,aload,loadCs,callArgs,abin,abinInt,aapp,elems,appMore,appNone,preLen,aFa,aFld,apart,aExt,aPick,aNot,aLens,aEqa,cellsK,fitsA,LK.fitsA,leavesA,leafA,nilD,aNilc,aCint,aCid,alive,alen,alenOk,Rle,lePs,len_flat, Kc]
  refine ⟨fun _ => ?_, fun _ => ?_⟩
  ·simp (maxSteps := 3000000) [-List.length_flatten,-List.map_drop,-List.map_take,Function.comp_def,argsT,Opd.ev,Tm.get,put,ares,mapMo,ares1,snilP,bldParts,bslParts,putAt,AV.cells,AV.one,astore,aload,loadCs,callArgs,abin,abinInt,aapp,elems,appMore,appNone,preLen,aFa,aFld,apart,aExt,aPick,aNot,aLens,aEqa,cellsK,fitsA,LK.fitsA,leavesA,leafA,nilD,aNilc,aCint,aCid,alive,alen,alenOk,Rle,lePs,len_flat, kr]
   exact .of (.bool true) ⟨_, rfl⟩ (by simp [lePs, -List.length_flatten, -List.map_drop, -List.map_take, Function.comp_def, len_flat])
  ·exact kn _ _ (Kn_next 0 (by omega) (by omega) trivial (by simp [Tm.get, nxt h hA]) (by simp) rfl (by simp))
 ·simp (maxSteps := 3000000) [-List.length_flatten,-List.map_drop,-List.map_take,Function.comp_def,argsT,Opd.ev,Tm.get,put,ares,mapMo,ares1,snilP,bldParts,bslParts,putAt,AV.cells,AV.one,astore,aload,loadCs,callArgs,abin,abinInt,aapp,elems,appMore,appNone,preLen,aFa,aFld,apart,aExt,aPick,aNot,aLens,aEqa,cellsK,fitsA,LK.fitsA,leavesA,leafA,nilD,aNilc,aCint,aCid,alive,alen,alenOk,Rle,lePs,len_flat, h, hA, kx]
  exact .of (.bool false) ⟨_, rfl⟩ (by simp [lePs, -List.length_flatten, -List.map_drop, -List.map_take, Function.comp_def, len_flat])
/-- What a program is that nothing is wrong with. -/
structure Neat (p : Pg) : Prop where
 funs : p.funs.length ≤ 8
 l : p.l.length ≤ 60
 locs : (varsOf p).length + sitesN p.l ≤ 40
 params : ∀ f ∈ p.funs, f.params.length ≤ 4
 args : ∀ s ∈ p.l, s.args.length ≤ 4
 known : ∀ s ∈ p.l, s.kind = 6 → s.y ∈ p.funs.map Fn0.name
def q44 (p : Pg) (r : AV) : Prop := ∃ w : Int, r = i64 w ∧ (w = 0 → Neat p)
abbrev names (l : List Fn0) : List AV := l.map fun f => .str f.name
theorem names_RL (n : Nat) (l : List Fn0) : ∀ y ∈ names l, RL n y := by
 intro y hy
 obtain ⟨f, _, rfl⟩ := List.mem_map.1 hy
 simp
theorem wrong_E (p : Pg) (hp : Fits p) : PFE Tryz.prog 44 [.agg p.cs] (q44 p) := by
 refine PFEk 9 hm Tryz.func44 c44_ok (Nat.le_of_ble_eq_true rfl) (by simp) (by rintro r ⟨w, rfl, _⟩; simp) ?_
 have hA : p.l.length ≤ maxA := by have := hp.l; unfold maxA; omega
 have hB : p.funs.length ≤ maxA := by have := hp.funs; unfold maxA; omega
 have hC : (varsOf p).length ≤ 9000000 := by
  have h1 := varsS_len p.l hp.args (p.funs.foldl varsF [])
  have h2 := varsF_len p.funs hp.params []
  have := hp.l
  have := hp.funs
  simp only [List.length_nil] at h2
  unfold varsOf
  omega
 have hS := sitesN_le p.l
 have hl := hp.l
 have hV := vars_PF p hp
 have hI := sites_PF p (by omega)
 have hC' : (varsOf p).length ≤ maxA := by unfold maxA; omega
 have wv : IntKind.i64.wrap (((varsOf p).length : Int) + (sitesN p.l : Int)) = (varsOf p).length + sitesN p.l := by rw [w64 (by omega) (by omega)]
 refine by_run Tryz.prog 0 ?c ?K (fun T H => ∃ full : Bool, (full = false → p.funs.length ≤ 8 ∧ p.l.length ≤ 60 ∧ (varsOf p).length + sitesN p.l ≤ 40) ∧ (T.get 3 = .nilS ∧ T.get 1 = .ptr 0 0 0 ∧ T.get 4 = .bool full ∧ T.get 5 = .bool false ∧ T.get 6 = i64 (0 : Nat)) ∧ H = [.cells 0 p.cs]) (fun key => ?main) ?sub
 case main =>
  by_cases h1 : 8 < (p.funs.length : Int)
  ·simp (maxSteps := 3000000) [-List.length_flatten,-List.map_drop,-List.map_take,Function.comp_def,argsT,Opd.ev,Tm.get,put,ares,mapMo,ares1,snilP,bldParts,bslParts,putAt,AV.cells,AV.one,astore,aload,loadCs,callArgs,abin,abinInt,aapp,elems,appMore,appNone,preLen,aFa,aFld,apart,aExt,aPick,aNot,aLens,aEqa,cellsK,fitsA,LK.fitsA,leavesA,leafA,nilD,aNilc,aCint,aCid,alive,alen,alenOk,Rle,lePs,len_flat, c44, hA, hB, h1]
   refine key _ _ ?_
   exact ⟨true, by simp, ⟨rfl, rfl, rfl, rfl, rfl⟩, rfl⟩
  by_cases h2 : 60 < (p.l.length : Int)
  ·simp (maxSteps := 3000000) [-List.length_flatten,-List.map_drop,-List.map_take,Function.comp_def,argsT,Opd.ev,Tm.get,put,ares,mapMo,ares1,snilP,bldParts,bslParts,putAt,AV.cells,AV.one,astore,aload,loadCs,callArgs,abin,abinInt,aapp,elems,appMore,appNone,preLen,aFa,aFld,apart,aExt,aPick,aNot,aLens,aEqa,cellsK,fitsA,LK.fitsA,leavesA,leafA,nilD,aNilc,aCint,aCid,alive,alen,alenOk,Rle,lePs,len_flat, c44, hA, hB, h1, h2]
   refine key _ _ ?_
   exact ⟨true, by simp, ⟨rfl, rfl, rfl, rfl, rfl⟩, rfl⟩
  simp (maxSteps := 3000000) [-List.length_flatten,-List.map_drop,-List.map_take,Function.comp_def,argsT,Opd.ev,Tm.get,put,ares,mapMo,ares1,snilP,bldParts,bslParts,putAt,AV.cells,AV.one,astore,aload,loadCs,callArgs,abin,abinInt,aapp,elems,appMore,appNone,preLen,aFa,aFld,apart,aExt,aPick,aNot,aLens,aEqa,cellsK,fitsA,LK.fitsA,leavesA,leafA,nilD,aNilc,aCint,aCid,alive,alen,alenOk,Rle,lePs,len_flat, c44, hA, hB, h1, h2]
  refine ⟨_, hV, ?_⟩
  simp (maxSteps := 3000000) [-List.length_flatten,-List.map_drop,-List.map_take,Function.comp_def,argsT,Opd.ev,Tm.get,put,ares,mapMo,ares1,snilP,bldParts,bslParts,putAt,AV.cells,AV.one,astore,aload,loadCs,callArgs,abin,abinInt,aapp,elems,appMore,appNone,preLen,aFa,aFld,apart,aExt,aPick,aNot,aLens,aEqa,cellsK,fitsA,LK.fitsA,leavesA,leafA,nilD,aNilc,aCint,aCid,alive,alen,alenOk,Rle,lePs,len_flat, Kc, hC']
  refine ⟨_, hI, ?_⟩
  simp (maxSteps := 3000000) [-List.length_flatten,-List.map_drop,-List.map_take,Function.comp_def,argsT,Opd.ev,Tm.get,put,ares,mapMo,ares1,snilP,bldParts,bslParts,putAt,AV.cells,AV.one,astore,aload,loadCs,callArgs,abin,abinInt,aapp,elems,appMore,appNone,preLen,aFa,aFld,apart,aExt,aPick,aNot,aLens,aEqa,cellsK,fitsA,LK.fitsA,leavesA,leafA,nilD,aNilc,aCint,aCid,alive,alen,alenOk,Rle,lePs,len_flat, Kc, wv]
  refine key _ _ ?_
  refine ⟨_, fun h => ?_, ⟨rfl, rfl, rfl, rfl, rfl⟩, rfl⟩
  have := of_decide_eq_false h
  omega
 case sub =>
  rintro T _ ⟨full, hf, ⟨t3, t1, t4, t5, t6⟩, rfl⟩
  refine run_loopK (fun m T H => ∃ (i g : Nat) (full dbl : Bool), m = p.funs.length - i ∧ i ≤ p.funs.length ∧ (full = false → (p.funs.length ≤ 8 ∧ p.l.length ≤ 60 ∧ (varsOf p).length + sitesN p.l ≤ 40) ∧ ∀ f ∈ p.funs.take i, f.params.length ≤ 4) ∧
    T = [(6, i64 i), (3, .loc 1 g 0 i 1 false), (1, .ptr 0 0 0), (4, .bool full), (5, .bool dbl)] ∧ H = [.cells 0 p.cs, .cells g (names (p.funs.take i))]) p.funs.length
   [(6, i64 (0 : Nat)), (3, .loc 1 0 0 0 1 false), (1, .ptr 0 0 0), (4, .bool full), (5, .bool false)] [.cells 0 p.cs, .cells 0 []] ((Wk.nil 3 1 t3).trans (Wk.tell 2 (by omega) (by simp [Tm.get, t1, t4, t5, t6]) (by simp) rfl (by simp [RLB])))
   ⟨0, 0, full, false, rfl, by omega, fun h => ⟨hf h, by simp⟩, rfl, rfl⟩ ?_
  rintro m T H ⟨i, g, full, dbl, rfl, hi, hf, rfl, rfl⟩ KK kx kr kn
  by_cases h : i < p.funs.length
  ·have hm : i + 1 ≤ maxA := by unfold maxA at *; omega
   have tk : List.take i (names (p.funs.take i)) = names (p.funs.take i) := List.take_of_length_le (by simp; omega)
   have hn : names (p.funs.take (i + 1)) = names (p.funs.take i) ++ [.str (gi p.funs i).name] := by rw [take_next h]; simp [names]
   have hlen : (names (p.funs.take i)).length = i := by simp; omega
   have hpl := hp.params _ (gi_mem h)
   have hpl' : (gi p.funs i).params.length ≤ maxA := by unfold maxA; omega
   have nx : ∀ (T : Tm) (fl db : Bool), (fl = false → full = false ∧ (gi p.funs i).params.length ≤ 4) → al (fun q => T.get q.1 = q.2) [(6, i64 (i + 1 : Nat)), (3, .loc 1 (g + 1) 0 (i + 1) 1 false), (1, .ptr 0 0 0), (4, .bool fl), (5, .bool db)] → KK .normal T [.cells 0 p.cs, .cells (g + 1) (names (p.funs.take i) ++ [.str (gi p.funs i).name])] := fun T fl db hfl ht =>
    kn _ _ (Kl_next (p.funs.length - (i + 1)) 2 (by simp) (T' := [(6, i64 (i + 1 : Nat)), (3, .loc 1 (g + 1) 0 (i + 1) 1 false), (1, .ptr 0 0 0), (4, .bool fl), (5, .bool db)]) (H' := [.cells 0 p.cs, .cells (g + 1) (names (p.funs.take (i + 1)))]) ⟨i + 1, g + 1, fl, db, rfl, by omega, fun hh => ⟨(hf (hfl hh).1).1, fun f hfm => by
     rw [take_next h] at hfm
     simp at hfm
     rcases hfm with hfm | rfl
     ·exact (hf (hfl hh).1).2 f hfm
     ·exact (hfl hh).2⟩, rfl, rfl⟩ ht (by simp) (by rw [hn]; rfl) ⟨by simp [RLB], names_RL 2 _, trivial⟩ (by omega))
   generalize names (p.funs.take i) = nm at *
   cases full with
   | true =>
    simp (maxSteps := 3000000) [-List.length_flatten,-List.map_drop,-List.map_take,Function.comp_def,argsT,Opd.ev,Tm.get,put,ares,mapMo,ares1,snilP,bldParts,bslParts,putAt,AV.cells,AV.one,astore,aload,loadCs,callArgs,abin,abinInt,aapp,elems,appMore,appNone,preLen,aFa,aFld,apart,aExt,aPick,aNot,aLens,aEqa,cellsK,fitsA,LK.fitsA,leavesA,leafA,nilD,aNilc,aCint,aCid,alive,alen,alenOk,Rle,lePs,len_flat, h, hB, hm, tk, hlen]
    intro _ _
    refine PFE.call (twice_E (gi p.funs i).params (by omega)) 9 (by simp [lePs, -List.length_flatten, -List.map_drop, -List.map_take, Function.comp_def, len_flat]) ?_
    rintro _ ⟨b, rfl⟩
    cases dbl with
    | true =>
     simp (maxSteps := 3000000) [-List.length_flatten,-List.map_drop,-List.map_take,Function.comp_def,argsT,Opd.ev,Tm.get,put,ares,mapMo,ares1,snilP,bldParts,bslParts,putAt,AV.cells,AV.one,astore,aload,loadCs,callArgs,abin,abinInt,aapp,elems,appMore,appNone,preLen,aFa,aFld,apart,aExt,aPick,aNot,aLens,aEqa,cellsK,fitsA,LK.fitsA,leavesA,leafA,nilD,aNilc,aCint,aCid,alive,alen,alenOk,Rle,lePs,len_flat, Kc]
     exact nx _ true true (by simp) (by simp [Tm.get, nxt h hB])
    | false =>
     simp (maxSteps := 3000000) [-List.length_flatten,-List.map_drop,-List.map_take,Function.comp_def,argsT,Opd.ev,Tm.get,put,ares,mapMo,ares1,snilP,bldParts,bslParts,putAt,AV.cells,AV.one,astore,aload,loadCs,callArgs,abin,abinInt,aapp,elems,appMore,appNone,preLen,aFa,aFld,apart,aExt,aPick,aNot,aLens,aEqa,cellsK,fitsA,LK.fitsA,leavesA,leafA,nilD,aNilc,aCint,aCid,alive,alen,alenOk,Rle,lePs,len_flat, Kc]
     exact nx _ true b (by simp) (by simp [Tm.get, nxt h hB])
   | false =>
    simp (maxSteps := 3000000) [-List.length_flatten,-List.map_drop,-List.map_take,Function.comp_def,argsT,Opd.ev,Tm.get,put,ares,mapMo,ares1,snilP,bldParts,bslParts,putAt,AV.cells,AV.one,astore,aload,loadCs,callArgs,abin,abinInt,aapp,elems,appMore,appNone,preLen,aFa,aFld,apart,aExt,aPick,aNot,aLens,aEqa,cellsK,fitsA,LK.fitsA,leavesA,leafA,nilD,aNilc,aCint,aCid,alive,alen,alenOk,Rle,lePs,len_flat, h, hB, hm, tk, hlen, hpl']
    intro _ _
    refine PFE.call (twice_E (gi p.funs i).params (by omega)) 9 (by simp [lePs, -List.length_flatten, -List.map_drop, -List.map_take, Function.comp_def, len_flat]) ?_
    rintro _ ⟨b, rfl⟩
    cases dbl with
    | true =>
     simp (maxSteps := 3000000) [-List.length_flatten,-List.map_drop,-List.map_take,Function.comp_def,argsT,Opd.ev,Tm.get,put,ares,mapMo,ares1,snilP,bldParts,bslParts,putAt,AV.cells,AV.one,astore,aload,loadCs,callArgs,abin,abinInt,aapp,elems,appMore,appNone,preLen,aFa,aFld,apart,aExt,aPick,aNot,aLens,aEqa,cellsK,fitsA,LK.fitsA,leavesA,leafA,nilD,aNilc,aCint,aCid,alive,alen,alenOk,Rle,lePs,len_flat, Kc]
     exact nx _ (decide (4 < ((gi p.funs i).params.length : Int))) true (by simp; omega) (by simp [Tm.get, nxt h hB])
    | false =>
     simp (maxSteps := 3000000) [-List.length_flatten,-List.map_drop,-List.map_take,Function.comp_def,argsT,Opd.ev,Tm.get,put,ares,mapMo,ares1,snilP,bldParts,bslParts,putAt,AV.cells,AV.one,astore,aload,loadCs,callArgs,abin,abinInt,aapp,elems,appMore,appNone,preLen,aFa,aFld,apart,aExt,aPick,aNot,aLens,aEqa,cellsK,fitsA,LK.fitsA,leavesA,leafA,nilD,aNilc,aCint,aCid,alive,alen,alenOk,Rle,lePs,len_flat, Kc]
     exact nx _ (decide (4 < ((gi p.funs i).params.length : Int))) b (by simp; omega) (by simp [Tm.get, nxt h hB])
  ·have : p.funs.take i = p.funs := List.take_of_length_le (by omega)
   have hii : i = p.funs.length := by omega
   rw [this] at hf ⊢
   subst hii
   simp (maxSteps := 3000000) [-List.length_flatten,-List.map_drop,-List.map_take,Function.comp_def,argsT,Opd.ev,Tm.get,put,ares,mapMo,ares1,snilP,bldParts,bslParts,putAt,AV.cells,AV.one,astore,aload,loadCs,callArgs,abin,abinInt,aapp,elems,appMore,appNone,preLen,aFa,aFld,apart,aExt,aPick,aNot,aLens,aEqa,cellsK,fitsA,LK.fitsA,leavesA,leafA,nilD,aNilc,aCint,aCid,alive,alen,alenOk,Rle,lePs,len_flat, hB, kx]
   have hNl : (names p.funs).length = p.funs.length := by simp
   refine run_loopK (fun m T H => ∃ (i : Nat) (full unk : Bool), m = p.l.length - i ∧ i ≤ p.l.length ∧ (full = false → (p.funs.length ≤ 8 ∧ p.l.length ≤ 60 ∧ (varsOf p).length + sitesN p.l ≤ 40) ∧ (∀ f ∈ p.funs, f.params.length ≤ 4) ∧ ∀ s ∈ p.l.take i, s.args.length ≤ 4) ∧
     (unk = false → ∀ s ∈ p.l.take i, s.kind = 6 → s.y ∈ p.funs.map Fn0.name) ∧
     T = [(9, i64 i), (3, .loc 1 g 0 p.funs.length 1 false), (1, .ptr 0 0 0), (4, .bool full), (5, .bool dbl), (8, .bool unk)] ∧ H = [.cells 0 p.cs, .cells g (names p.funs)]) p.l.length
    [(9, i64 (0 : Nat)), (3, .loc 1 g 0 p.funs.length 1 false), (1, .ptr 0 0 0), (4, .bool full), (5, .bool dbl), (8, .bool false)] [.cells 0 p.cs, .cells g (names p.funs)] (Wk.tell 2 (by omega) (by simp [Tm.get]) (by simp) rfl ⟨by simp [RLB], names_RL 2 _, trivial⟩)
    ⟨0, full, false, rfl, by omega, fun h => ⟨(hf h).1, (hf h).2, by simp⟩, by simp, rfl, rfl⟩ ?_
   clear hf kx kr kn
   rintro m T H ⟨i, full, unk, rfl, hi, hf, hu, rfl, rfl⟩ KK kx kr kn
   by_cases h : i < p.l.length
   ·have hal := hp.args _ (gi_mem h)
    have hal' : (gi p.l i).args.length ≤ maxA := by unfold maxA; omega
    have nx : ∀ (T : Tm) (fl un : Bool), (fl = false → full = false ∧ (gi p.l i).args.length ≤ 4) → (un = false → unk = false ∧ ((gi p.l i).kind = 6 → (gi p.l i).y ∈ p.funs.map Fn0.name)) →
      al (fun q => T.get q.1 = q.2) [(9, i64 (i + 1 : Nat)), (3, .loc 1 g 0 p.funs.length 1 false), (1, .ptr 0 0 0), (4, .bool fl), (5, .bool dbl), (8, .bool un)] → KK .normal T [.cells 0 p.cs, .cells g (names p.funs)] := fun T fl un hfl hun ht =>
     kn _ _ (Kl_next (p.l.length - (i + 1)) 2 (by simp) (T' := [(9, i64 (i + 1 : Nat)), (3, .loc 1 g 0 p.funs.length 1 false), (1, .ptr 0 0 0), (4, .bool fl), (5, .bool dbl), (8, .bool un)]) (H' := [.cells 0 p.cs, .cells g (names p.funs)]) ⟨i + 1, fl, un, rfl, by omega, fun hh => ⟨(hf (hfl hh).1).1, (hf (hfl hh).1).2.1, fun f hfm => by
      rw [take_next h] at hfm
      simp at hfm
      rcases hfm with hfm | rfl
      ·exact (hf (hfl hh).1).2.2 f hfm
      ·exact (hfl hh).2⟩, fun hh f hfm hk => by
      rw [take_next h] at hfm
      simp only [List.mem_append, List.mem_singleton] at hfm
      rcases hfm with hfm | rfl
      ·exact hu (hun hh).1 f hfm hk
      ·exact (hun hh).2 hk, rfl, rfl⟩ ht (by simp) rfl ⟨by simp [RLB], names_RL 2 _, trivial⟩ (by omega))
    have e8 : (gi p.l i).kind = 6 ∨ (gi p.l i).kind ≠ 6 := by omega
    cases full with
    | true =>
     cases unk with
     | true =>
      simp (maxSteps := 3000000) [-List.length_flatten,-List.map_drop,-List.map_take,Function.comp_def,argsT,Opd.ev,Tm.get,put,ares,mapMo,ares1,snilP,bldParts,bslParts,putAt,AV.cells,AV.one,astore,aload,loadCs,callArgs,abin,abinInt,aapp,elems,appMore,appNone,preLen,aFa,aFld,apart,aExt,aPick,aNot,aLens,aEqa,cellsK,fitsA,LK.fitsA,leavesA,leafA,nilD,aNilc,aCint,aCid,alive,alen,alenOk,Rle,lePs,len_flat, h, hA]
      exact nx _ true true (by simp) (by simp) (by simp [Tm.get, nxt h hA])
     | false =>
      rcases e8 with e8 | e8
      ·simp (maxSteps := 3000000) [-List.length_flatten,-List.map_drop,-List.map_take,Function.comp_def,argsT,Opd.ev,Tm.get,put,ares,mapMo,ares1,snilP,bldParts,bslParts,putAt,AV.cells,AV.one,astore,aload,loadCs,callArgs,abin,abinInt,aapp,elems,appMore,appNone,preLen,aFa,aFld,apart,aExt,aPick,aNot,aLens,aEqa,cellsK,fitsA,LK.fitsA,leavesA,leafA,nilD,aNilc,aCint,aCid,alive,alen,alenOk,Rle,lePs,len_flat, h, hA, e8]
       refine PF.borrow (at_PF (p.funs.map Fn0.name) (gi p.l i).y) 9 9 rfl (by simp [lePs, chunk_one]) ?_
       simp (maxSteps := 3000000) [-List.length_flatten,-List.map_drop,-List.map_take,Function.comp_def,argsT,Opd.ev,Tm.get,put,ares,mapMo,ares1,snilP,bldParts,bslParts,putAt,AV.cells,AV.one,astore,aload,loadCs,callArgs,abin,abinInt,aapp,elems,appMore,appNone,preLen,aFa,aFld,apart,aExt,aPick,aNot,aLens,aEqa,cellsK,fitsA,LK.fitsA,leavesA,leafA,nilD,aNilc,aCint,aCid,alive,alen,alenOk,Rle,lePs,len_flat, Kc]
       refine nx _ true (decide (fstAt (fun x => decide (x = (gi p.l i).y)) (p.funs.map Fn0.name) < 0)) (by simp) (fun hh => ⟨rfl, fun _ => ?_⟩) (by simp [Tm.get, nxt h hA])
       have := of_decide_eq_false hh
       exact Classical.byContradiction fun hno => this (fstAt_mem.2 hno)
      ·simp (maxSteps := 3000000) [-List.length_flatten,-List.map_drop,-List.map_take,Function.comp_def,argsT,Opd.ev,Tm.get,put,ares,mapMo,ares1,snilP,bldParts,bslParts,putAt,AV.cells,AV.one,astore,aload,loadCs,callArgs,abin,abinInt,aapp,elems,appMore,appNone,preLen,aFa,aFld,apart,aExt,aPick,aNot,aLens,aEqa,cellsK,fitsA,LK.fitsA,leavesA,leafA,nilD,aNilc,aCint,aCid,alive,alen,alenOk,Rle,lePs,len_flat, h, hA, e8]
       exact nx _ true false (by simp) (fun _ => ⟨rfl, fun hk => absurd hk e8⟩) (by simp [Tm.get, nxt h hA])
    | false =>
     cases unk with
     | true =>
      simp (maxSteps := 3000000) [-List.length_flatten,-List.map_drop,-List.map_take,Function.comp_def,argsT,Opd.ev,Tm.get,put,ares,mapMo,ares1,snilP,bldParts,bslParts,putAt,AV.cells,AV.one,astore,aload,loadCs,callArgs,abin,abinInt,aapp,elems,appMore,appNone,preLen,aFa,aFld,apart,aExt,aPick,aNot,aLens,aEqa,cellsK,fitsA,LK.fitsA,leavesA,leafA,nilD,aNilc,aCint,aCid,alive,alen,alenOk,Rle,lePs,len_flat, h, hA, hal']
      exact nx _ (decide (4 < ((gi p.l i).args.length : Int))) true (by simp; omega) (by simp) (by simp [Tm.get, nxt h hA])
     | false =>
      rcases e8 with e8 | e8
      ·simp (maxSteps := 3000000) [-List.length_flatten,-List.map_drop,-List.map_take,Function.comp_def,argsT,Opd.ev,Tm.get,put,ares,mapMo,ares1,snilP,bldParts,bslParts,putAt,AV.cells,AV.one,astore,aload,loadCs,callArgs,abin,abinInt,aapp,elems,appMore,appNone,preLen,aFa,aFld,apart,aExt,aPick,aNot,aLens,aEqa,cellsK,fitsA,LK.fitsA,leavesA,leafA,nilD,aNilc,aCint,aCid,alive,alen,alenOk,Rle,lePs,len_flat, h, hA, e8, hal']
       refine PF.borrow (at_PF (p.funs.map Fn0.name) (gi p.l i).y) 9 9 rfl (by simp [lePs, chunk_one]) ?_
       simp (maxSteps := 3000000) [-List.length_flatten,-List.map_drop,-List.map_take,Function.comp_def,argsT,Opd.ev,Tm.get,put,ares,mapMo,ares1,snilP,bldParts,bslParts,putAt,AV.cells,AV.one,astore,aload,loadCs,callArgs,abin,abinInt,aapp,elems,appMore,appNone,preLen,aFa,aFld,apart,aExt,aPick,aNot,aLens,aEqa,cellsK,fitsA,LK.fitsA,leavesA,leafA,nilD,aNilc,aCint,aCid,alive,alen,alenOk,Rle,lePs,len_flat, Kc]
       refine nx _ (decide (4 < ((gi p.l i).args.length : Int))) (decide (fstAt (fun x => decide (x = (gi p.l i).y)) (p.funs.map Fn0.name) < 0)) (by simp; omega) (fun hh => ⟨rfl, fun _ => ?_⟩) (by simp [Tm.get, nxt h hA])
       have := of_decide_eq_false hh
       exact Classical.byContradiction fun hno => this (fstAt_mem.2 hno)
      ·simp (maxSteps := 3000000) [-List.length_flatten,-List.map_drop,-List.map_take,Function.comp_def,argsT,Opd.ev,Tm.get,put,ares,mapMo,ares1,snilP,bldParts,bslParts,putAt,AV.cells,AV.one,astore,aload,loadCs,callArgs,abin,abinInt,aapp,elems,appMore,appNone,preLen,aFa,aFld,apart,aExt,aPick,aNot,aLens,aEqa,cellsK,fitsA,LK.fitsA,leavesA,leafA,nilD,aNilc,aCint,aCid,alive,alen,alenOk,Rle,lePs,len_flat, h, hA, e8, hal']
       exact nx _ (decide (4 < ((gi p.l i).args.length : Int))) false (by simp; omega) (fun _ => ⟨rfl, fun hk => absurd hk e8⟩) (by simp [Tm.get, nxt h hA])
   ·have : p.l.take i = p.l := List.take_of_length_le (by omega)
    rw [this] at hf hu
    simp (maxSteps := 3000000) [-List.length_flatten,-List.map_drop,-List.map_take,Function.comp_def,argsT,Opd.ev,Tm.get,put,ares,mapMo,ares1,snilP,bldParts,bslParts,putAt,AV.cells,AV.one,astore,aload,loadCs,callArgs,abin,abinInt,aapp,elems,appMore,appNone,preLen,aFa,aFld,apart,aExt,aPick,aNot,aLens,aEqa,cellsK,fitsA,LK.fitsA,leavesA,leafA,nilD,aNilc,aCint,aCid,alive,alen,alenOk,Rle,lePs,len_flat, h, hA, kx]
    refine PFE.borrow (twice_E (p.funs.map Fn0.name) (by simp; have := hp.funs; omega)) 9 9 isB_flat (by simp [lePs, chunk_one]) ?_
    rintro _ ⟨b, rfl⟩
    cases full with
    | true =>
     simp (maxSteps := 3000000) [-List.length_flatten,-List.map_drop,-List.map_take,Function.comp_def,argsT,Opd.ev,Tm.get,put,ares,mapMo,ares1,snilP,bldParts,bslParts,putAt,AV.cells,AV.one,astore,aload,loadCs,callArgs,abin,abinInt,aapp,elems,appMore,appNone,preLen,aFa,aFld,apart,aExt,aPick,aNot,aLens,aEqa,cellsK,fitsA,LK.fitsA,leavesA,leafA,nilD,aNilc,aCint,aCid,alive,alen,alenOk,Rle,lePs,len_flat, Kc]
     exact .of (i64 7) ⟨7, rfl, by simp⟩ (by simp [lePs, -List.length_flatten, -List.map_drop, -List.map_take, Function.comp_def, len_flat])
    | false =>
     have hN : unk = false → Neat p := fun h => ⟨(hf rfl).1.1, (hf rfl).1.2.1, (hf rfl).1.2.2, (hf rfl).2.1, (hf rfl).2.2, hu h⟩
     cases dbl with
     | true =>
      simp (maxSteps := 3000000) [-List.length_flatten,-List.map_drop,-List.map_take,Function.comp_def,argsT,Opd.ev,Tm.get,put,ares,mapMo,ares1,snilP,bldParts,bslParts,putAt,AV.cells,AV.one,astore,aload,loadCs,callArgs,abin,abinInt,aapp,elems,appMore,appNone,preLen,aFa,aFld,apart,aExt,aPick,aNot,aLens,aEqa,cellsK,fitsA,LK.fitsA,leavesA,leafA,nilD,aNilc,aCint,aCid,alive,alen,alenOk,Rle,lePs,len_flat, Kc]
      exact .of (i64 4) ⟨4, rfl, by simp⟩ (by simp [lePs, -List.length_flatten, -List.map_drop, -List.map_take, Function.comp_def, len_flat])
     | false =>
      cases b with
      | true =>
       simp (maxSteps := 3000000) [-List.length_flatten,-List.map_drop,-List.map_take,Function.comp_def,argsT,Opd.ev,Tm.get,put,ares,mapMo,ares1,snilP,bldParts,bslParts,putAt,AV.cells,AV.one,astore,aload,loadCs,callArgs,abin,abinInt,aapp,elems,appMore,appNone,preLen,aFa,aFld,apart,aExt,aPick,aNot,aLens,aEqa,cellsK,fitsA,LK.fitsA,leavesA,leafA,nilD,aNilc,aCint,aCid,alive,alen,alenOk,Rle,lePs,len_flat, Kc]
       exact .of (i64 4) ⟨4, rfl, by simp⟩ (by simp [lePs, -List.length_flatten, -List.map_drop, -List.map_take, Function.comp_def, len_flat])
      | false =>
       cases unk with
       | true =>
        simp (maxSteps := 3000000) [-List.length_flatten,-List.map_drop,-List.map_take,Function.comp_def,argsT,Opd.ev,Tm.get,put,ares,mapMo,ares1,snilP,bldParts,bslParts,putAt,AV.cells,AV.one,astore,aload,loadCs,callArgs,abin,abinInt,aapp,elems,appMore,appNone,preLen,aFa,aFld,apart,aExt,aPick,aNot,aLens,aEqa,cellsK,fitsA,LK.fitsA,leavesA,leafA,nilD,aNilc,aCint,aCid,alive,alen,alenOk,Rle,lePs,len_flat, Kc]
        exact .of (i64 3) ⟨3, rfl, by simp⟩ (by simp [lePs, -List.length_flatten, -List.map_drop, -List.map_take, Function.comp_def, len_flat])
       | false =>
        simp (maxSteps := 3000000) [-List.length_flatten,-List.map_drop,-List.map_take,Function.comp_def,argsT,Opd.ev,Tm.get,put,ares,mapMo,ares1,snilP,bldParts,bslParts,putAt,AV.cells,AV.one,astore,aload,loadCs,callArgs,abin,abinInt,aapp,elems,appMore,appNone,preLen,aFa,aFld,apart,aExt,aPick,aNot,aLens,aEqa,cellsK,fitsA,LK.fitsA,leavesA,leafA,nilD,aNilc,aCint,aCid,alive,alen,alenOk,Rle,lePs,len_flat, Kc]
        exact .of (i64 0) ⟨0, rfl, fun _ => hN rfl⟩ (by simp [lePs, -List.length_flatten, -List.map_drop, -List.map_take, Function.comp_def, len_flat])
end Go.AM

namespace Go.AM
open Go.Proofs
set_option maxRecDepth 100000
set_option linter.unusedVariables false
set_option linter.unusedSimpArgs false
theorem rowF_len (l : List Tok) : ∀ (n i : Nat) (o : List ByteArray), (rowF l n i o).1.length ≤ o.length + (l.length - i)
 | 0, i, o => by simp [rowF]
 | n + 1, i, o => by
  unfold rowF
  split
  ·rename_i h
   have := (nameK_var h).1
   split
   ·simp; omega
   ·split
    ·have h1 := rowF_len l n (i + 1 + 1) (o ++ [(gi l i).text])
     simp at h1
     omega
    ·simp
  ·simp
theorem rowR_len (l : List Tok) (i : Nat) : (rowR l i).1.length ≤ l.length := by
 unfold rowR
 split
 ·simp
 ·have := rowF_len l (l.length + 1) i []
  simp at this
  omega
/-- A statement that was read. -/
structure SOk (sites : Nat) (inn : Int) (s : Stm) : Prop where
 kind : 1 ≤ s.kind ∧ s.kind ≤ 7
 inn : s.inn = inn
 x : s.x ≠ ⟨#[]⟩
 y : s.kind ≠ 2 → s.kind ≠ 6 → s.y ≠ ⟨#[]⟩
 new : s.kind = 2 → s.n = sites ∧ s.y = ⟨#[]⟩
 args : ∀ a ∈ s.args, a ≠ ⟨#[]⟩
 noargs : s.kind ≠ 7 → s.args = []
 few : s.args.length ≤ 2000
theorem ne_empty {s : ByteArray} (h : s.size ≠ 0) : s ≠ ⟨#[]⟩ := by
 rintro rfl
 exact h rfl
theorem rightF_ok (l : List Tok) (i : Nat) (s : Stm) (n : Nat) (hl : l.length ≤ 2000) (hi : i ≤ l.length) (hx : s.x ≠ ⟨#[]⟩) (ha : s.args = []) (hy : s.y = ⟨#[]⟩) :
  (rightF l i s n).2.2 = true → i < (rightF l i s n).2.1 ∧ (rightF l i s n).2.1 ≤ l.length ∧ SOk n s.inn (rightF l i s n).1 := by
 unfold rightF
 split
 ·rename_i h
  have hin : (i : Int) < l.length := by rcases h with h | h <;> exact signAt_in h
  split
  ·rename_i h2
   obtain ⟨h3, h4⟩ := nameK_var h2
   intro _
   refine ⟨by simp; omega, by simp; omega, ?_⟩
   by_cases hq : (gi l i).text = ⟨#[38]⟩
   ·simp only [hq, if_true]
    exact ⟨by simp, rfl, hx, fun _ _ => ne_empty h4, by simp, by simp [ha], fun _ => ha, by simp [ha]⟩
   ·simp only [hq, if_false]
    exact ⟨by simp, rfl, hx, fun _ _ => ne_empty h4, by simp, by simp [ha], fun _ => ha, by simp [ha]⟩
  ·intro h; cases h
 ·split
  ·rename_i h3
   have := nameK_in (l := l) (at' := i) (by rw [h3]; decide)
   intro _
   exact ⟨by simp, by simp; omega, by simp, rfl, hx, by simp, by simp [hy], by simp [ha], fun _ => ha, by simp [ha]⟩
  ·split
   ·rename_i h3
    have := nameK_in (l := l) (at' := i) (by rw [h3]; decide)
    intro _
    exact ⟨by simp, by simp; omega, by simp, rfl, hx, by simp, by simp, by simp [ha], fun _ => ha, by simp [ha]⟩
   ·split
    ·intro h; cases h
    ·rename_i n3 n2 n0
     have h1 : nameK l i = 1 := by rcases nameK_cases l i with h | h | h | h <;> first | exact h | exact absurd h n3 | exact absurd h n2 | exact absurd h n0
     obtain ⟨h3, h4⟩ := nameK_var h1
     split
     ·rename_i h5
      have := signAt_in h5
      intro h
      obtain ⟨a, b⟩ := rowR_spec (l := l) (i := i + 1 + 1) (by omega)
      have hlen := rowR_len l (i + 1 + 1)
      exact ⟨by have := (b h).1; simp only; omega, a, by simp, rfl, hx, fun _ _ => ne_empty h4, by simp, fun z hz => ne_empty ((b h).2 z hz), by simp, by simp only; omega⟩
     ·intro _
      exact ⟨by simp, by simp; omega, by simp, rfl, hx, fun _ _ => ne_empty h4, by simp, by simp [ha], fun _ => ha, by simp [ha]⟩
abbrev Pg.rd (p : Pg) (i : Int) (b : Bool) : AV := .agg [fns p.funs, stms p.l, i64 i, .bool b]
def q43 (l : List Tok) (p : Pg) (i : Nat) (inn : Int) (r : AV) : Prop := ∃ (p' : Pg) (j : Nat) (b : Bool), r = p'.rd j b ∧ (b = false → i < j ∧ j ≤ l.length ∧ ∃ s, p' = { p with l := p.l ++ [s] } ∧ SOk (sitesN p.l) inn s)
theorem stmt_E (l : List Tok) (p : Pg) (i : Nat) (bd : Bool) (inn : Int) (hl : l.length ≤ 2000) (hi : i ≤ l.length) (hp : p.l.length ≤ 2000) : PFE Tryz.prog 43 [toks l, p.rd i bd, i64 inn] (q43 l p i inn) := by
 refine PFEk 9 hm Tryz.func43 c43_ok (Nat.le_of_ble_eq_true rfl) (by simp) (by rintro r ⟨p', j, b, rfl, _⟩; simp) ?_
 have hA : l.length ≤ maxA := by unfold maxA; omega
 have bad : ∀ (e : Nat) H, RleE 9 (q43 l p i inn) (p.rd e true) H := fun e H => .of (p.rd e true) ⟨p, e, true, rfl, fun h => by cases h⟩ (by simp [lePs, -List.length_flatten, -List.map_drop, -List.map_take, Function.comp_def, len_flat])
 have w1 : ∀ j : Nat, j < l.length → IntKind.i64.wrap ((j : Int) + 1) = ((j + 1 : Nat) : Int) := fun j h => nxt h hA
 have w2 : ∀ j : Nat, j < l.length → IntKind.i64.wrap ((j : Int) + 2) = ((j + 1 + 1 : Nat) : Int) := fun j h => by rw [w64 (by omega) (by omega)]; simp; omega
 refine by_run Tryz.prog 0 ?c ?K (fun T H => ∃ (s : Stm) (j : Nat) (a : AV) (H2 : AHeap), i < j ∧ j ≤ l.length ∧ SOk (sitesN p.l) inn s ∧ leP 9 a (strs s.args) ∧ (T.get 0 = toks l ∧ T.get 4 = .ptr 0 0 0 ∧ T.get 6 = .ptr 1 0 0 ∧ T.get 7 = .ptr 2 0 0 ∧ T.get 8 = i64 j) ∧
  H = .cells 0 [fns p.funs, stms p.l, i64 i, .bool bd] :: .cells 0 [.nilS, .nilS, i64 0, .bool false] :: .cells 0 [i64 s.kind, i64 s.inn, .str s.x, .str s.y, a, i64 s.n] :: H2 ∧ H2.length ≤ 1) (fun key => ?main) ?sub
 case main =>
  simp (maxSteps := 3000000) [-List.length_flatten,-List.map_drop,-List.map_take,Function.comp_def,argsT,Opd.ev,Tm.get,put,ares,mapMo,ares1,snilP,bldParts,bslParts,putAt,AV.cells,AV.one,astore,aload,loadCs,callArgs,abin,abinInt,aapp,elems,appMore,appNone,preLen,aFa,aFld,apart,aExt,aPick,aNot,aLens,aEqa,cellsK,fitsA,LK.fitsA,leavesA,leafA,nilD,aNilc,aCint,aCid,alive,alen,alenOk,Rle,lePs,len_flat, c43]
  refine PF.call (sign_PF l i ⟨#[42]⟩ (by omega) hl) 9 (by simp [lePs, -List.length_flatten, -List.map_drop, -List.map_take, Function.comp_def, len_flat]) ?_
  cases h1 : signAt l i ⟨#[42]⟩ with
  | true =>
   have hin : i < l.length := by have := signAt_in h1; omega
   simp (maxSteps := 3000000) [-List.length_flatten,-List.map_drop,-List.map_take,Function.comp_def,argsT,Opd.ev,Tm.get,put,ares,mapMo,ares1,snilP,bldParts,bslParts,putAt,AV.cells,AV.one,astore,aload,loadCs,callArgs,abin,abinInt,aapp,elems,appMore,appNone,preLen,aFa,aFld,apart,aExt,aPick,aNot,aLens,aEqa,cellsK,fitsA,LK.fitsA,leavesA,leafA,nilD,aNilc,aCint,aCid,alive,alen,alenOk,Rle,lePs,len_flat, Kc, h1, w1 i hin]
   refine PF.call (nameK_PF l (i + 1 : Nat) (by omega) hl) 9 (by simp [lePs, -List.length_flatten, -List.map_drop, -List.map_take, Function.comp_def, len_flat]) ?_
   by_cases h2 : nameK l (i + 1 : Nat) = 1
   ·obtain ⟨h3, h4⟩ := nameK_var h2
    have h2' : nameK l ((i : Int) + 1) = 1 := h2
    have h3' : (i : Int) + 1 < l.length := by omega
    have e0 : (0 : Int) ≤ (i : Int) + 1 := by omega
    have w3 := w1 (i + 1) (by omega)
    have w4 := w2 (i + 1) (by omega)
    rw [show (((i + 1 : Nat) : Int)) = (i : Int) + 1 from rfl] at w3 w4
    simp (maxSteps := 3000000) [-List.length_flatten,-List.map_drop,-List.map_take,Function.comp_def,argsT,Opd.ev,Tm.get,put,ares,mapMo,ares1,snilP,bldParts,bslParts,putAt,AV.cells,AV.one,astore,aload,loadCs,callArgs,abin,abinInt,aapp,elems,appMore,appNone,preLen,aFa,aFld,apart,aExt,aPick,aNot,aLens,aEqa,cellsK,fitsA,LK.fitsA,leavesA,leafA,nilD,aNilc,aCint,aCid,alive,alen,alenOk,Rle,lePs,len_flat, Kc, h2', h3', e0, w3, w4]
    refine PF.call (sign_PF l (i + 1 + 1 : Nat) ⟨#[61]⟩ (by omega) hl) 9 (by simp [lePs, -List.length_flatten, -List.map_drop, -List.map_take, Function.comp_def, len_flat]) ?_
    cases h5 : signAt l (i + 1 + 1 : Nat) ⟨#[61]⟩ with
    | true =>
     have := signAt_in h5
     simp (maxSteps := 3000000) [-List.length_flatten,-List.map_drop,-List.map_take,Function.comp_def,argsT,Opd.ev,Tm.get,put,ares,mapMo,ares1,snilP,bldParts,bslParts,putAt,AV.cells,AV.one,astore,aload,loadCs,callArgs,abin,abinInt,aapp,elems,appMore,appNone,preLen,aFa,aFld,apart,aExt,aPick,aNot,aLens,aEqa,cellsK,fitsA,LK.fitsA,leavesA,leafA,nilD,aNilc,aCint,aCid,alive,alen,alenOk,Rle,lePs,len_flat, Kc, h5, w4]
     refine PF.call (nameK_PF l (i + 1 + 1 + 1 : Nat) (by omega) hl) 9 (by simp [lePs, -List.length_flatten, -List.map_drop, -List.map_take, Function.comp_def, len_flat]) ?_
     by_cases h6 : nameK l (i + 1 + 1 + 1 : Nat) = 1
     ·obtain ⟨h7, h8⟩ := nameK_var h6
      have h6' : nameK l ((i : Int) + 1 + 1 + 1) = 1 := h6
      have h7' : (i : Int) + 1 + 1 + 1 < l.length := by omega
      have e1 : (0 : Int) ≤ (i : Int) + 1 + 1 + 1 := by omega
      have w5 := w1 (i + 1 + 1 + 1) (by omega)
      rw [show (((i + 1 + 1 + 1 : Nat) : Int)) = (i : Int) + 1 + 1 + 1 from rfl] at w5
      simp (maxSteps := 3000000) [-List.length_flatten,-List.map_drop,-List.map_take,Function.comp_def,argsT,Opd.ev,Tm.get,put,ares,mapMo,ares1,snilP,bldParts,bslParts,putAt,AV.cells,AV.one,astore,aload,loadCs,callArgs,abin,abinInt,aapp,elems,appMore,appNone,preLen,aFa,aFld,apart,aExt,aPick,aNot,aLens,aEqa,cellsK,fitsA,LK.fitsA,leavesA,leafA,nilD,aNilc,aCint,aCid,alive,alen,alenOk,Rle,lePs,len_flat, Kc, h6', h7', e1, w5]
      refine key _ _ ?_
      exact ⟨⟨5, inn, (gi l (i + 1 : Nat)).text, (gi l (i + 1 + 1 + 1 : Nat)).text, [], 0⟩, i + 1 + 1 + 1 + 1, .nilS, [], by omega, by omega,
       ⟨by simp, rfl, ne_empty h4, fun _ _ => ne_empty h8, by simp, by simp, by simp, by simp⟩, (by simp [lePs, -List.length_flatten, -List.map_drop, -List.map_take, Function.comp_def, len_flat]), ⟨rfl, rfl, rfl, rfl, rfl⟩, rfl, by simp⟩
     ·have h6' : ¬ nameK l ((i : Int) + 1 + 1 + 1) = 1 := h6
      simp (maxSteps := 3000000) [-List.length_flatten,-List.map_drop,-List.map_take,Function.comp_def,argsT,Opd.ev,Tm.get,put,ares,mapMo,ares1,snilP,bldParts,bslParts,putAt,AV.cells,AV.one,astore,aload,loadCs,callArgs,abin,abinInt,aapp,elems,appMore,appNone,preLen,aFa,aFld,apart,aExt,aPick,aNot,aLens,aEqa,cellsK,fitsA,LK.fitsA,leavesA,leafA,nilD,aNilc,aCint,aCid,alive,alen,alenOk,Rle,lePs,len_flat, Kc, h6']
      exact bad (i + 1 + 1 + 1) _
    | false =>
     simp (maxSteps := 3000000) [-List.length_flatten,-List.map_drop,-List.map_take,Function.comp_def,argsT,Opd.ev,Tm.get,put,ares,mapMo,ares1,snilP,bldParts,bslParts,putAt,AV.cells,AV.one,astore,aload,loadCs,callArgs,abin,abinInt,aapp,elems,appMore,appNone,preLen,aFa,aFld,apart,aExt,aPick,aNot,aLens,aEqa,cellsK,fitsA,LK.fitsA,leavesA,leafA,nilD,aNilc,aCint,aCid,alive,alen,alenOk,Rle,lePs,len_flat, Kc, h5, w3]
     exact bad (i + 1 + 1) _
   ·have h2' : ¬ nameK l ((i : Int) + 1) = 1 := h2
    simp (maxSteps := 3000000) [-List.length_flatten,-List.map_drop,-List.map_take,Function.comp_def,argsT,Opd.ev,Tm.get,put,ares,mapMo,ares1,snilP,bldParts,bslParts,putAt,AV.cells,AV.one,astore,aload,loadCs,callArgs,abin,abinInt,aapp,elems,appMore,appNone,preLen,aFa,aFld,apart,aExt,aPick,aNot,aLens,aEqa,cellsK,fitsA,LK.fitsA,leavesA,leafA,nilD,aNilc,aCint,aCid,alive,alen,alenOk,Rle,lePs,len_flat, Kc, h2']
    exact bad (i + 1) _
  | false =>
   simp (maxSteps := 3000000) [-List.length_flatten,-List.map_drop,-List.map_take,Function.comp_def,argsT,Opd.ev,Tm.get,put,ares,mapMo,ares1,snilP,bldParts,bslParts,putAt,AV.cells,AV.one,astore,aload,loadCs,callArgs,abin,abinInt,aapp,elems,appMore,appNone,preLen,aFa,aFld,apart,aExt,aPick,aNot,aLens,aEqa,cellsK,fitsA,LK.fitsA,leavesA,leafA,nilD,aNilc,aCint,aCid,alive,alen,alenOk,Rle,lePs,len_flat, Kc, h1]
   refine PF.call (nameK_PF l i (by omega) hl) 9 (by simp [lePs, -List.length_flatten, -List.map_drop, -List.map_take, Function.comp_def, len_flat]) ?_
   by_cases h2 : nameK l i = 1
   ·obtain ⟨h3, h4⟩ := nameK_var h2
    have h3' : i < l.length := by omega
    simp (maxSteps := 3000000) [-List.length_flatten,-List.map_drop,-List.map_take,Function.comp_def,argsT,Opd.ev,Tm.get,put,ares,mapMo,ares1,snilP,bldParts,bslParts,putAt,AV.cells,AV.one,astore,aload,loadCs,callArgs,abin,abinInt,aapp,elems,appMore,appNone,preLen,aFa,aFld,apart,aExt,aPick,aNot,aLens,aEqa,cellsK,fitsA,LK.fitsA,leavesA,leafA,nilD,aNilc,aCint,aCid,alive,alen,alenOk,Rle,lePs,len_flat, Kc, h2, h3', w1 i h3', w2 i h3']
    refine PF.call (sign_PF l (i + 1 : Nat) ⟨#[61]⟩ (by omega) hl) 9 (by simp [lePs, -List.length_flatten, -List.map_drop, -List.map_take, Function.comp_def, len_flat]) ?_
    cases h5 : signAt l (i + 1 : Nat) ⟨#[61]⟩ with
    | true =>
     have := signAt_in h5
     simp (maxSteps := 3000000) [-List.length_flatten,-List.map_drop,-List.map_take,Function.comp_def,argsT,Opd.ev,Tm.get,put,ares,mapMo,ares1,snilP,bldParts,bslParts,putAt,AV.cells,AV.one,astore,aload,loadCs,callArgs,abin,abinInt,aapp,elems,appMore,appNone,preLen,aFa,aFld,apart,aExt,aPick,aNot,aLens,aEqa,cellsK,fitsA,LK.fitsA,leavesA,leafA,nilD,aNilc,aCint,aCid,alive,alen,alenOk,Rle,lePs,len_flat, Kc, h5, w2 i h3']
     refine ⟨_, sites_PF p (by omega), _, (right_PF l (i + 1 + 1) ⟨0, inn, (gi l i).text, ⟨#[]⟩, [], 0⟩ (sitesN p.l) hl (by omega)).le 9 (by simp [lePs, -List.length_flatten, -List.map_drop, -List.map_take, Function.comp_def, len_flat]) (by simp), ?_⟩
     have hr := rightF_ok l (i + 1 + 1) ⟨0, inn, (gi l i).text, ⟨#[]⟩, [], 0⟩ (sitesN p.l) hl (by omega) (ne_empty h4) rfl rfl
     generalize rightF l (i + 1 + 1) ⟨0, inn, (gi l i).text, ⟨#[]⟩, [], 0⟩ (sitesN p.l) = R at *
     obtain ⟨s, j, ok⟩ := R
     cases ok with
     | true =>
      obtain ⟨r1, r2, r3⟩ := hr rfl
      simp (maxSteps := 3000000) [-List.length_flatten,-List.map_drop,-List.map_take,Function.comp_def,argsT,Opd.ev,Tm.get,put,ares,mapMo,ares1,snilP,bldParts,bslParts,putAt,AV.cells,AV.one,astore,aload,loadCs,callArgs,abin,abinInt,aapp,elems,appMore,appNone,preLen,aFa,aFld,apart,aExt,aPick,aNot,aLens,aEqa,cellsK,fitsA,LK.fitsA,leavesA,leafA,nilD,aNilc,aCint,aCid,alive,alen,alenOk,Rle,lePs,len_flat, Kc]
      refine key _ _ ?_
      exact ⟨s, j, strs s.args, [.cells 0 s.cs], by simp at r1; omega, r2, r3, (by simp [lePs, -List.length_flatten, -List.map_drop, -List.map_take, Function.comp_def, len_flat]), ⟨rfl, rfl, rfl, rfl, rfl⟩, rfl, by simp⟩
     | false =>
      simp (maxSteps := 3000000) [-List.length_flatten,-List.map_drop,-List.map_take,Function.comp_def,argsT,Opd.ev,Tm.get,put,ares,mapMo,ares1,snilP,bldParts,bslParts,putAt,AV.cells,AV.one,astore,aload,loadCs,callArgs,abin,abinInt,aapp,elems,appMore,appNone,preLen,aFa,aFld,apart,aExt,aPick,aNot,aLens,aEqa,cellsK,fitsA,LK.fitsA,leavesA,leafA,nilD,aNilc,aCint,aCid,alive,alen,alenOk,Rle,lePs,len_flat, Kc]
      exact bad j _
    | false =>
     simp (maxSteps := 3000000) [-List.length_flatten,-List.map_drop,-List.map_take,Function.comp_def,argsT,Opd.ev,Tm.get,put,ares,mapMo,ares1,snilP,bldParts,bslParts,putAt,AV.cells,AV.one,astore,aload,loadCs,callArgs,abin,abinInt,aapp,elems,appMore,appNone,preLen,aFa,aFld,apart,aExt,aPick,aNot,aLens,aEqa,cellsK,fitsA,LK.fitsA,leavesA,leafA,nilD,aNilc,aCint,aCid,alive,alen,alenOk,Rle,lePs,len_flat, Kc, h5, w1 i h3']
     exact bad (i + 1) _
   ·simp (maxSteps := 3000000) [-List.length_flatten,-List.map_drop,-List.map_take,Function.comp_def,argsT,Opd.ev,Tm.get,put,ares,mapMo,ares1,snilP,bldParts,bslParts,putAt,AV.cells,AV.one,astore,aload,loadCs,callArgs,abin,abinInt,aapp,elems,appMore,appNone,preLen,aFa,aFld,apart,aExt,aPick,aNot,aLens,aEqa,cellsK,fitsA,LK.fitsA,leavesA,leafA,nilD,aNilc,aCint,aCid,alive,alen,alenOk,Rle,lePs,len_flat, Kc, h2]
    exact bad i _
 case sub =>
  rintro T H ⟨s, j, a, H2, hij, hjl, hs, ha, ⟨t0, t4, t6, t7, t8⟩, rfl, h2⟩
  refine run_markT _ _ (Wk.leH 9 2 (cs' := s.cs) rfl (by simp [lePs]; exact ha)) ?_
  have hH2 : H2 = [] ∨ ∃ x, H2 = [x] := by
   match H2, h2 with
   | [], _ => exact .inl rfl
   | [x], _ => exact .inr ⟨x, rfl⟩
  have hm : p.l.length + 1 ≤ maxA := by unfold maxA; omega
  rcases hH2 with rfl | ⟨x, rfl⟩
  all_goals
   simp (maxSteps := 3000000) [-List.length_flatten,-List.map_drop,-List.map_take,Function.comp_def,argsT,Opd.ev,Tm.get,put,ares,mapMo,ares1,snilP,bldParts,bslParts,putAt,AV.cells,AV.one,astore,aload,loadCs,callArgs,abin,abinInt,aapp,elems,appMore,appNone,preLen,aFa,aFld,apart,aExt,aPick,aNot,aLens,aEqa,cellsK,fitsA,LK.fitsA,leavesA,leafA,nilD,aNilc,aCint,aCid,alive,alen,alenOk,Rle,lePs,len_flat, t0, t4, t6, t7, t8]
   refine PF.call (sign_PF l j ⟨#[59]⟩ (by omega) hl) 9 (by simp [lePs, -List.length_flatten, -List.map_drop, -List.map_take, Function.comp_def, len_flat]) ?_
   cases h5 : signAt l j ⟨#[59]⟩ with
   | true =>
    have := signAt_in h5
    have good : q43 l p i inn (({ p with l := p.l ++ [s] } : Pg).rd (j + 1 : Nat) false) := ⟨{ p with l := p.l ++ [s] }, j + 1, false, rfl, fun _ => ⟨by omega, by omega, s, rfl, hs⟩⟩
    have hc := chunk_flat (sz := 6) (f := Stm.cs) (l := p.l ++ [s]) (by simp)
    have hlen := len_flat (sz := 6) (f := Stm.cs) (l := p.l ++ [s]) (by simp)
    have tk := app_one (f := Stm.cs) (l := p.l) (sz := 6) (by simp) s rfl
    by_cases hpl : p.l = []
    ·simp (maxSteps := 3000000) [-List.length_flatten,-List.map_drop,-List.map_take,Function.comp_def,argsT,Opd.ev,Tm.get,put,ares,mapMo,ares1,snilP,bldParts,bslParts,putAt,AV.cells,AV.one,astore,aload,loadCs,callArgs,abin,abinInt,aapp,elems,appMore,appNone,preLen,aFa,aFld,apart,aExt,aPick,aNot,aLens,aEqa,cellsK,fitsA,LK.fitsA,leavesA,leafA,nilD,aNilc,aCint,aCid,alive,alen,alenOk,Rle,lePs,len_flat, Kc, h5, t0, t4, t6, t7, t8, w1 j (by omega), hm, hpl, indB, apartS, refA]
     refine fun h => ⟨h, .of _ good ?_⟩
     simp [lePs, hpl, chunk]
    ·simp (maxSteps := 3000000) [-List.length_flatten,-List.map_drop,-List.map_take,Function.comp_def,argsT,Opd.ev,Tm.get,put,ares,mapMo,ares1,snilP,bldParts,bslParts,putAt,AV.cells,AV.one,astore,aload,loadCs,callArgs,abin,abinInt,aapp,elems,appMore,appNone,preLen,aFa,aFld,apart,aExt,aPick,aNot,aLens,aEqa,cellsK,fitsA,LK.fitsA,leavesA,leafA,nilD,aNilc,aCint,aCid,alive,alen,alenOk,Rle,lePs,len_flat, Kc, h5, t0, t4, t6, t7, t8, w1 j (by omega), hm, hpl, indB, apartS, refA]
     refine fun h => ⟨h, fun _ _ => .of _ good ?_⟩
     rw [tk]
     generalize hq : ((p.l ++ [s]).map Stm.cs).flatten = fl at *
     rw [show (p.l ++ [s]).length = p.l.length + 1 by simp] at hc hlen
     simp [lePs, hc, hlen]
   | false =>
    simp (maxSteps := 3000000) [-List.length_flatten,-List.map_drop,-List.map_take,Function.comp_def,argsT,Opd.ev,Tm.get,put,ares,mapMo,ares1,snilP,bldParts,bslParts,putAt,AV.cells,AV.one,astore,aload,loadCs,callArgs,abin,abinInt,aapp,elems,appMore,appNone,preLen,aFa,aFld,apart,aExt,aPick,aNot,aLens,aEqa,cellsK,fitsA,LK.fitsA,leavesA,leafA,nilD,aNilc,aCint,aCid,alive,alen,alenOk,Rle,lePs,len_flat, Kc, h5, t0, t4, t6, t7, t8]
    exact bad j _
end Go.AM

namespace Go.AM
open Go.Proofs
set_option maxRecDepth 100000
set_option linter.unusedVariables false
set_option linter.unusedSimpArgs false
structure FOk (f : Fn0) : Prop where
 ret : f.ret ≠ ⟨#[]⟩
 params : ∀ a ∈ f.params, a ≠ ⟨#[]⟩
 few : f.params.length ≤ 2000
/-- What is so of a program that was read. -/
structure PgOk (p : Pg) : Prop where
 funs : ∀ f ∈ p.funs, FOk f
 l : ∀ k : Nat, k < p.l.length → ∃ inn : Int, SOk (sitesN (p.l.take k)) inn (gi p.l k) ∧ -1 ≤ inn ∧ inn < p.funs.length
theorem gi_app_left {α : Type} [Inhabited α] {a b : List α} {k : Nat} (h : k < a.length) : gi (a ++ b) k = gi a k := by
 simp [gi, List.getD, h, List.getElem?_append_left]
theorem gi_app_mid {α : Type} [Inhabited α] {a : List α} {x : α} : gi (a ++ [x]) a.length = x := by
 simp [gi, List.getD]
theorem PgOk.stm {p : Pg} (h : PgOk p) {s : Stm} {inn : Int} (hs : SOk (sitesN p.l) inn s) (h1 : -1 ≤ inn) (h2 : inn < p.funs.length) : PgOk { p with l := p.l ++ [s] } := by
 refine ⟨h.funs, fun k hk => ?_⟩
 simp at hk
 by_cases hkl : k < p.l.length
 ·simp only [gi_app_left hkl, List.take_append_of_le_length (Nat.le_of_lt hkl)]
  exact h.l k hkl
 ·have : k = p.l.length := by omega
  subst this
  simp only [gi_app_mid, List.take_left]
  exact ⟨inn, hs, h1, h2⟩
theorem PgOk.fn {p : Pg} (h : PgOk p) {f : Fn0} (hf : FOk f) : PgOk { p with funs := p.funs ++ [f] } := by
 refine ⟨fun g hg => ?_, fun k hk => ?_⟩
 ·simp at hg
  rcases hg with hg | rfl
  ·exact h.funs g hg
  ·exact hf
 ·obtain ⟨inn, a, b, c⟩ := h.l k hk
  exact ⟨inn, a, b, by simp; omega⟩
def q42 (l : List Tok) (i : Nat) (r : AV) : Prop := ∃ (p' : Pg) (j : Nat) (b : Bool), r = p'.rd j b ∧ (b = false → i < j ∧ j ≤ l.length ∧ PgOk p' ∧ p'.funs.length + p'.l.length ≤ j)
theorem fun_E (l : List Tok) (p : Pg) (i : Nat) (bd : Bool) (hl : l.length ≤ 2000) (hi : i < l.length) (hp : PgOk p) (hn : p.funs.length + p.l.length ≤ i) : PFE Tryz.prog 42 [toks l, p.rd i bd] (q42 l i) := by
 refine PFEk 9 hm Tryz.func42 c42_ok (Nat.le_of_ble_eq_true rfl) (by simp) (by rintro r ⟨p', j, b, rfl, _⟩; simp) ?_
 have hA : l.length ≤ maxA := by unfold maxA; omega
 have bad : ∀ (e : Nat) H, RleE 9 (q42 l i) (p.rd e true) H := fun e H => .of (p.rd e true) ⟨p, e, true, rfl, fun h => by cases h⟩ (by simp [lePs, -List.length_flatten, -List.map_drop, -List.map_take, Function.comp_def, len_flat])
 have w1 : ∀ j : Nat, j < l.length → IntKind.i64.wrap ((j : Int) + 1) = ((j + 1 : Nat) : Int) := fun j h => nxt h hA
 have w2 : ∀ j : Nat, j < l.length → IntKind.i64.wrap ((j : Int) + 2) = ((j + 1 + 1 : Nat) : Int) := fun j h => by rw [w64 (by omega) (by omega)]; simp; omega
 have w3 : ∀ j : Nat, j < l.length → IntKind.i64.wrap ((j : Int) + 3) = ((j + 1 + 1 + 1 : Nat) : Int) := fun j h => by rw [w64 (by omega) (by omega)]; simp; omega
 have hm : p.funs.length + 1 ≤ maxA := by unfold maxA; omega
 refine by_run Tryz.prog 0 ?c ?K (fun T H => ∃ (f : Fn0) (j g : Nat) (b0 b2 : ABlk), i < j ∧ j ≤ l.length ∧ FOk f ∧ (T.get 0 = toks l ∧ T.get 4 = .ptr 1 0 0 ∧ T.get 10 = .ptr 3 0 0 ∧ T.get 11 = .ptr 5 0 0) ∧
  H = [b0, .cells 0 [.nilS, .nilS, i64 0, .bool false], b2, .cells 0 [.loc 4 g 0 (p.funs.length + 1) 3 false, stms p.l], .cells g ((p.funs ++ [f]).map Fn0.cs).flatten, .cells 0 [.loc 4 g 0 (p.funs.length + 1) 3 false, stms p.l, i64 j, .bool false]]) (fun key => ?main) ?sub
 case main =>
  simp (maxSteps := 3000000) [-List.length_flatten,-List.map_drop,-List.map_take,Function.comp_def,argsT,Opd.ev,Tm.get,put,ares,mapMo,ares1,snilP,bldParts,bslParts,putAt,AV.cells,AV.one,astore,aload,loadCs,callArgs,abin,abinInt,aapp,elems,appMore,appNone,preLen,aFa,aFld,apart,aExt,aPick,aNot,aLens,aEqa,cellsK,fitsA,LK.fitsA,leavesA,leafA,nilD,aNilc,aCint,aCid,alive,alen,alenOk,Rle,lePs,len_flat, c42, hi, w1 i hi]
  refine PF.call (sign_PF l (i + 1 : Nat) ⟨#[40]⟩ (by omega) hl) 9 (by simp [lePs, -List.length_flatten, -List.map_drop, -List.map_take, Function.comp_def, len_flat]) ?_
  cases h1 : signAt l (i + 1 : Nat) ⟨#[40]⟩ with
  | false =>
   simp (maxSteps := 3000000) [-List.length_flatten,-List.map_drop,-List.map_take,Function.comp_def,argsT,Opd.ev,Tm.get,put,ares,mapMo,ares1,snilP,bldParts,bslParts,putAt,AV.cells,AV.one,astore,aload,loadCs,callArgs,abin,abinInt,aapp,elems,appMore,appNone,preLen,aFa,aFld,apart,aExt,aPick,aNot,aLens,aEqa,cellsK,fitsA,LK.fitsA,leavesA,leafA,nilD,aNilc,aCint,aCid,alive,alen,alenOk,Rle,lePs,len_flat, Kc, h1, w1 i hi]
   exact bad (i + 1) _
  | true =>
   have := signAt_in h1
   simp (maxSteps := 3000000) [-List.length_flatten,-List.map_drop,-List.map_take,Function.comp_def,argsT,Opd.ev,Tm.get,put,ares,mapMo,ares1,snilP,bldParts,bslParts,putAt,AV.cells,AV.one,astore,aload,loadCs,callArgs,abin,abinInt,aapp,elems,appMore,appNone,preLen,aFa,aFld,apart,aExt,aPick,aNot,aLens,aEqa,cellsK,fitsA,LK.fitsA,leavesA,leafA,nilD,aNilc,aCint,aCid,alive,alen,alenOk,Rle,lePs,len_flat, Kc, h1, w2 i hi]
   refine PF.call (row_PF l (i + 1 + 1) hl (by omega)) 9 (by simp [lePs, -List.length_flatten, -List.map_drop, -List.map_take, Function.comp_def, len_flat]) ?_
   obtain ⟨ra, rb⟩ := rowR_spec (l := l) (i := i + 1 + 1) (by omega)
   have rc := rowR_len l (i + 1 + 1)
   generalize rowR l (i + 1 + 1) = R at *
   obtain ⟨ps, j, ok⟩ := R
   simp only at ra rb rc
   cases ok with
   | false =>
    simp (maxSteps := 3000000) [-List.length_flatten,-List.map_drop,-List.map_take,Function.comp_def,argsT,Opd.ev,Tm.get,put,ares,mapMo,ares1,snilP,bldParts,bslParts,putAt,AV.cells,AV.one,astore,aload,loadCs,callArgs,abin,abinInt,aapp,elems,appMore,appNone,preLen,aFa,aFld,apart,aExt,aPick,aNot,aLens,aEqa,cellsK,fitsA,LK.fitsA,leavesA,leafA,nilD,aNilc,aCint,aCid,alive,alen,alenOk,Rle,lePs,len_flat, Kc]
    exact bad j _
   | true =>
    obtain ⟨hj, hps⟩ := rb rfl
    simp (maxSteps := 3000000) [-List.length_flatten,-List.map_drop,-List.map_take,Function.comp_def,argsT,Opd.ev,Tm.get,put,ares,mapMo,ares1,snilP,bldParts,bslParts,putAt,AV.cells,AV.one,astore,aload,loadCs,callArgs,abin,abinInt,aapp,elems,appMore,appNone,preLen,aFa,aFld,apart,aExt,aPick,aNot,aLens,aEqa,cellsK,fitsA,LK.fitsA,leavesA,leafA,nilD,aNilc,aCint,aCid,alive,alen,alenOk,Rle,lePs,len_flat, Kc]
    refine PF.call (sign_PF l j ⟨#[58]⟩ (by omega) hl) 9 (by simp [lePs, -List.length_flatten, -List.map_drop, -List.map_take, Function.comp_def, len_flat]) ?_
    cases h2 : signAt l j ⟨#[58]⟩ with
    | false =>
     simp (maxSteps := 3000000) [-List.length_flatten,-List.map_drop,-List.map_take,Function.comp_def,argsT,Opd.ev,Tm.get,put,ares,mapMo,ares1,snilP,bldParts,bslParts,putAt,AV.cells,AV.one,astore,aload,loadCs,callArgs,abin,abinInt,aapp,elems,appMore,appNone,preLen,aFa,aFld,apart,aExt,aPick,aNot,aLens,aEqa,cellsK,fitsA,LK.fitsA,leavesA,leafA,nilD,aNilc,aCint,aCid,alive,alen,alenOk,Rle,lePs,len_flat, Kc, h2]
     exact bad j _
    | true =>
     have hjl : j < l.length := by have := signAt_in h2; omega
     simp (maxSteps := 3000000) [-List.length_flatten,-List.map_drop,-List.map_take,Function.comp_def,argsT,Opd.ev,Tm.get,put,ares,mapMo,ares1,snilP,bldParts,bslParts,putAt,AV.cells,AV.one,astore,aload,loadCs,callArgs,abin,abinInt,aapp,elems,appMore,appNone,preLen,aFa,aFld,apart,aExt,aPick,aNot,aLens,aEqa,cellsK,fitsA,LK.fitsA,leavesA,leafA,nilD,aNilc,aCint,aCid,alive,alen,alenOk,Rle,lePs,len_flat, Kc, h2, w1 j hjl]
     refine PF.call (nameK_PF l (j + 1 : Nat) (by omega) hl) 9 (by simp [lePs, -List.length_flatten, -List.map_drop, -List.map_take, Function.comp_def, len_flat]) ?_
     by_cases h3 : nameK l (j + 1 : Nat) = 1
     ·obtain ⟨h4, h5⟩ := nameK_var h3
      have h3' : nameK l ((j : Int) + 1) = 1 := h3
      have h4' : (j : Int) + 1 < l.length := by omega
      have e0 : (0 : Int) ≤ (j : Int) + 1 := by omega
      simp (maxSteps := 3000000) [-List.length_flatten,-List.map_drop,-List.map_take,Function.comp_def,argsT,Opd.ev,Tm.get,put,ares,mapMo,ares1,snilP,bldParts,bslParts,putAt,AV.cells,AV.one,astore,aload,loadCs,callArgs,abin,abinInt,aapp,elems,appMore,appNone,preLen,aFa,aFld,apart,aExt,aPick,aNot,aLens,aEqa,cellsK,fitsA,LK.fitsA,leavesA,leafA,nilD,aNilc,aCint,aCid,alive,alen,alenOk,Rle,lePs,len_flat, Kc, h3', h4', e0, w1 j hjl, w2 j hjl]
      refine PF.call (sign_PF l (j + 1 + 1 : Nat) ⟨#[123]⟩ (by omega) hl) 9 (by simp [lePs, -List.length_flatten, -List.map_drop, -List.map_take, Function.comp_def, len_flat]) ?_
      cases h6 : signAt l (j + 1 + 1 : Nat) ⟨#[123]⟩ with
      | false =>
       simp (maxSteps := 3000000) [-List.length_flatten,-List.map_drop,-List.map_take,Function.comp_def,argsT,Opd.ev,Tm.get,put,ares,mapMo,ares1,snilP,bldParts,bslParts,putAt,AV.cells,AV.one,astore,aload,loadCs,callArgs,abin,abinInt,aapp,elems,appMore,appNone,preLen,aFa,aFld,apart,aExt,aPick,aNot,aLens,aEqa,cellsK,fitsA,LK.fitsA,leavesA,leafA,nilD,aNilc,aCint,aCid,alive,alen,alenOk,Rle,lePs,len_flat, Kc, h6, w2 j hjl]
       exact bad (j + 1 + 1) _
      | true =>
       have := signAt_in h6
       have hf : FOk ⟨(gi l i).text, ps, (gi l (j + 1 : Nat)).text⟩ := ⟨ne_empty h5, fun a ha => ne_empty (hps a ha), by simp only; omega⟩
       have tk := app_one (f := Fn0.cs) (l := p.funs) (sz := 3) (by simp) ⟨(gi l i).text, ps, (gi l (j + 1 : Nat)).text⟩ rfl
       by_cases hpf : p.funs = []
       ·simp (maxSteps := 3000000) [-List.length_flatten,-List.map_drop,-List.map_take,Function.comp_def,argsT,Opd.ev,Tm.get,put,ares,mapMo,ares1,snilP,bldParts,bslParts,putAt,AV.cells,AV.one,astore,aload,loadCs,callArgs,abin,abinInt,aapp,elems,appMore,appNone,preLen,aFa,aFld,apart,aExt,aPick,aNot,aLens,aEqa,cellsK,fitsA,LK.fitsA,leavesA,leafA,nilD,aNilc,aCint,aCid,alive,alen,alenOk,Rle,lePs,len_flat, Kc, h6, w3 j hjl, hm, hpf, indB, apartS, refA]
        refine fun h => ⟨h, ?_⟩
        refine key _ _ ?_
        refine ⟨_, j + 1 + 1 + 1, 0, .cells 0 [fns p.funs, stms p.l, i64 i, .bool bd], .cells 0 [.str (gi l i).text, strs ps, .str (gi l (j + 1 : Nat)).text], by omega, by omega, hf, ⟨rfl, rfl, rfl, rfl⟩, ?_⟩
        rw [← tk]
        simp only [hpf]
        rfl
       ·simp (maxSteps := 3000000) [-List.length_flatten,-List.map_drop,-List.map_take,Function.comp_def,argsT,Opd.ev,Tm.get,put,ares,mapMo,ares1,snilP,bldParts,bslParts,putAt,AV.cells,AV.one,astore,aload,loadCs,callArgs,abin,abinInt,aapp,elems,appMore,appNone,preLen,aFa,aFld,apart,aExt,aPick,aNot,aLens,aEqa,cellsK,fitsA,LK.fitsA,leavesA,leafA,nilD,aNilc,aCint,aCid,alive,alen,alenOk,Rle,lePs,len_flat, Kc, h6, w3 j hjl, hm, hpf, indB, apartS, refA]
        refine fun h => ⟨h, fun _ _ => ?_⟩
        refine key _ _ ?_
        refine ⟨_, j + 1 + 1 + 1, 1, .cells 0 [fns p.funs, stms p.l, i64 i, .bool bd], .cells 0 [.str (gi l i).text, strs ps, .str (gi l (j + 1 : Nat)).text], by omega, by omega, hf, ⟨rfl, rfl, rfl, rfl⟩, ?_⟩
        rw [← tk]
        rfl
     ·have h3' : ¬ nameK l ((j : Int) + 1) = 1 := h3
      simp (maxSteps := 3000000) [-List.length_flatten,-List.map_drop,-List.map_take,Function.comp_def,argsT,Opd.ev,Tm.get,put,ares,mapMo,ares1,snilP,bldParts,bslParts,putAt,AV.cells,AV.one,astore,aload,loadCs,callArgs,abin,abinInt,aapp,elems,appMore,appNone,preLen,aFa,aFld,apart,aExt,aPick,aNot,aLens,aEqa,cellsK,fitsA,LK.fitsA,leavesA,leafA,nilD,aNilc,aCint,aCid,alive,alen,alenOk,Rle,lePs,len_flat, Kc, h3', w1 j hjl]
      exact bad (j + 1) _
 case sub =>
  rintro T _ ⟨f, j, g, b0, b2, hij, hjl, hf, ⟨t0, t4, t10, t11⟩, rfl⟩
  have hc := chunk_flat (sz := 3) (f := Fn0.cs) (l := p.funs ++ [f]) (by simp)
  have hlen := len_flat (sz := 3) (f := Fn0.cs) (l := p.funs ++ [f]) (by simp)
  have hf1 : ∀ n, fz 4 g ((p.funs ++ [f]).map Fn0.cs).flatten (n + 1) (.loc 4 g 0 (p.funs.length + 1) 3 false) = fns (p.funs ++ [f]) := fun n => by
   simp only [fz, hlen, if_pos, true_and, List.length_append, List.length_cons, List.length_nil]
   rw [if_pos (by omega)]
   simp only [List.drop_zero]
   rw [show p.funs.length + 1 = (p.funs ++ [f]).length by simp, hc]
  have hw : Wk 0 T [b0, .cells 0 [.nilS, .nilS, i64 0, .bool false], b2, .cells 0 [.loc 4 g 0 (p.funs.length + 1) 3 false, stms p.l], .cells g ((p.funs ++ [f]).map Fn0.cs).flatten, .cells 0 [.loc 4 g 0 (p.funs.length + 1) 3 false, stms p.l, i64 j, .bool false]]
    [(0, toks l), (4, .ptr 1 0 0), (10, .ptr 3 0 0), (11, .ptr 5 0 0)]
    [fzB 4 g ((p.funs ++ [f]).map Fn0.cs).flatten 9 b0, .cells 0 [.nilS, .nilS, i64 0, .bool false], fzB 4 g ((p.funs ++ [f]).map Fn0.cs).flatten 9 b2, .cells 0 [fns (p.funs ++ [f]), stms p.l], .dead g, .cells 0 [fns (p.funs ++ [f]), stms p.l, i64 j, .bool false]] := by
   have k1 : Wk 0 T [b0, .cells 0 [.nilS, .nilS, i64 0, .bool false], b2, .cells 0 [.loc 4 g 0 (p.funs.length + 1) 3 false, stms p.l], .cells g ((p.funs ++ [f]).map Fn0.cs).flatten, .cells 0 [.loc 4 g 0 (p.funs.length + 1) 3 false, stms p.l, i64 j, .bool false]]
    [(0, toks l), (4, .ptr 1 0 0), (10, .ptr 3 0 0), (11, .ptr 5 0 0)] _ := Wk.sub (by simp [t0, t4, t10, t11])
   have k2 := Wk.fz (lo := 0) (T := [(0, toks l), (4, .ptr 1 0 0), (10, .ptr 3 0 0), (11, .ptr 5 0 0)]) (H := [b0, .cells 0 [.nilS, .nilS, i64 0, .bool false], b2, .cells 0 [.loc 4 g 0 (p.funs.length + 1) 3 false, stms p.l], .cells g ((p.funs ++ [f]).map Fn0.cs).flatten, .cells 0 [.loc 4 g 0 (p.funs.length + 1) 3 false, stms p.l, i64 j, .bool false]]) 4 9 (g := g) rfl
   simp only [List.map_cons, List.map_nil, fzB, List.set_cons_succ, List.set_cons_zero, hf1 8] at k2
   exact k1.trans k2
  generalize fzB 4 g ((p.funs ++ [f]).map Fn0.cs).flatten 9 b0 = b0' at hw
  generalize fzB 4 g ((p.funs ++ [f]).map Fn0.cs).flatten 9 b2 = b2' at hw
  refine run_loopK (fun m T H => ∃ (p2 : Pg) (q : Nat) (b : Bool), m = (if b = true then 0 else l.length + 1 - q) ∧ (b = false → PgOk p2 ∧ q ≤ l.length ∧ i < q ∧ p2.funs.length + p2.l.length ≤ q ∧ p2.funs = p.funs ++ [f]) ∧
   T = [(0, toks l), (4, .ptr 1 0 0), (10, .ptr 3 0 0), (11, .ptr 5 0 0)] ∧ H = [b0', .cells 0 [.nilS, .nilS, i64 0, .bool false], b2', .cells 0 [fns (p.funs ++ [f]), stms p.l], .dead g, .cells 0 [fns p2.funs, stms p2.l, i64 q, .bool b]]) (l.length + 1 - j) _ _ hw
   ⟨⟨p.funs ++ [f], p.l⟩, j, false, rfl, fun _ => ⟨hp.fn hf, hjl, hij, by simp; omega, rfl⟩, rfl, rfl⟩ ?_
  clear hw
  rintro m T H ⟨p2, q, b, rfl, hq, rfl, rfl⟩ KK kx kr kn
  cases b with
  | true =>
   simp (maxSteps := 3000000) [-List.length_flatten,-List.map_drop,-List.map_take,Function.comp_def,argsT,Opd.ev,Tm.get,put,ares,mapMo,ares1,snilP,bldParts,bslParts,putAt,AV.cells,AV.one,astore,aload,loadCs,callArgs,abin,abinInt,aapp,elems,appMore,appNone,preLen,aFa,aFld,apart,aExt,aPick,aNot,aLens,aEqa,cellsK,fitsA,LK.fitsA,leavesA,leafA,nilD,aNilc,aCint,aCid,alive,alen,alenOk,Rle,lePs,len_flat, kx]
   exact .of (p2.rd q true) ⟨p2, q, true, rfl, fun h => by cases h⟩ (by simp [lePs, -List.length_flatten, -List.map_drop, -List.map_take, Function.comp_def, len_flat])
  | false =>
   obtain ⟨q1, q2, q3, q4, q5⟩ := hq rfl
   simp (maxSteps := 3000000) [-List.length_flatten,-List.map_drop,-List.map_take,Function.comp_def,argsT,Opd.ev,Tm.get,put,ares,mapMo,ares1,snilP,bldParts,bslParts,putAt,AV.cells,AV.one,astore,aload,loadCs,callArgs,abin,abinInt,aapp,elems,appMore,appNone,preLen,aFa,aFld,apart,aExt,aPick,aNot,aLens,aEqa,cellsK,fitsA,LK.fitsA,leavesA,leafA,nilD,aNilc,aCint,aCid,alive,alen,alenOk,Rle,lePs,len_flat]
   refine PF.call (sign_PF l q ⟨#[125]⟩ (by omega) hl) 9 (by simp [lePs, -List.length_flatten, -List.map_drop, -List.map_take, Function.comp_def, len_flat]) ?_
   cases h7 : signAt l q ⟨#[125]⟩ with
   | true =>
    have := signAt_in h7
    simp (maxSteps := 3000000) [-List.length_flatten,-List.map_drop,-List.map_take,Function.comp_def,argsT,Opd.ev,Tm.get,put,ares,mapMo,ares1,snilP,bldParts,bslParts,putAt,AV.cells,AV.one,astore,aload,loadCs,callArgs,abin,abinInt,aapp,elems,appMore,appNone,preLen,aFa,aFld,apart,aExt,aPick,aNot,aLens,aEqa,cellsK,fitsA,LK.fitsA,leavesA,leafA,nilD,aNilc,aCint,aCid,alive,alen,alenOk,Rle,lePs,len_flat, Kc, h7, kx, w1 q (by omega)]
    exact .of (p2.rd (q + 1 : Nat) false) ⟨p2, q + 1, false, rfl, fun _ => ⟨by omega, by omega, q1, by omega⟩⟩ (by simp [lePs, -List.length_flatten, -List.map_drop, -List.map_take, Function.comp_def, len_flat])
   | false =>
    have hfl : p.funs.length + 1 ≤ maxA := hm
    have wm : IntKind.i64.wrap (p.funs.length : Int) = p.funs.length := by rw [w64 (by omega) (by omega)]
    simp (maxSteps := 3000000) [-List.length_flatten,-List.map_drop,-List.map_take,Function.comp_def,argsT,Opd.ev,Tm.get,put,ares,mapMo,ares1,snilP,bldParts,bslParts,putAt,AV.cells,AV.one,astore,aload,loadCs,callArgs,abin,abinInt,aapp,elems,appMore,appNone,preLen,aFa,aFld,apart,aExt,aPick,aNot,aLens,aEqa,cellsK,fitsA,LK.fitsA,leavesA,leafA,nilD,aNilc,aCint,aCid,alive,alen,alenOk,Rle,lePs,len_flat, Kc, h7, hfl, wm]
    refine PFE.call (stmt_E l p2 q false p.funs.length hl q2 (by omega)) 9 (by simp [lePs, -List.length_flatten, -List.map_drop, -List.map_take, Function.comp_def, len_flat]) ?_
    rintro _ ⟨p3, q', b, rfl, h8⟩
    simp (maxSteps := 3000000) [-List.length_flatten,-List.map_drop,-List.map_take,Function.comp_def,argsT,Opd.ev,Tm.get,put,ares,mapMo,ares1,snilP,bldParts,bslParts,putAt,AV.cells,AV.one,astore,aload,loadCs,callArgs,abin,abinInt,aapp,elems,appMore,appNone,preLen,aFa,aFld,apart,aExt,aPick,aNot,aLens,aEqa,cellsK,fitsA,LK.fitsA,leavesA,leafA,nilD,aNilc,aCint,aCid,alive,alen,alenOk,Rle,lePs,len_flat, Kc]
    have hnext : b = false → PgOk p3 ∧ q' ≤ l.length ∧ i < q' ∧ p3.funs.length + p3.l.length ≤ q' ∧ p3.funs = p.funs ++ [f] := fun h => by
     obtain ⟨a1, a2, s, rfl, a3⟩ := h8 h
     refine ⟨q1.stm a3 (by omega) (by rw [q5]; simp; omega), a2, by omega, by simp only [List.length_append, List.length_cons, List.length_nil]; omega, q5⟩
    exact kn _ _ (Kl_sub (if b = true then 0 else l.length + 1 - q') (T' := [(0, toks l), (4, .ptr 1 0 0), (10, .ptr 3 0 0), (11, .ptr 5 0 0)]) ⟨p3, q', b, rfl, hnext, rfl, rfl⟩ (by simp [Tm.get]) (by
     simp
     split
     ·omega
     ·rename_i hb
      have := (h8 (by simpa using hb)).1
      omega))
end Go.AM

namespace Go.AM
open Go.Proofs
set_option maxRecDepth 100000
set_option linter.unusedVariables false
set_option linter.unusedSimpArgs false
def q22 (r : AV) : Prop := ∃ (p : Pg) (e w : Int), r = .tuple [.agg p.cs, i64 e, i64 w] ∧ (w = 0 → PgOk p ∧ Neat p)
theorem PgOk.nil : PgOk ⟨[], []⟩ := ⟨by simp, fun k hk => by simp at hk⟩
theorem PgOk.fits {p : Pg} (h : PgOk p) (hn : p.funs.length + p.l.length ≤ 2000) : Fits p := by
 refine ⟨by omega, by omega, fun f hf => (h.funs f hf).few, fun s hs => ?_⟩
 obtain ⟨k, hk, rfl⟩ := List.getElem_of_mem hs
 obtain ⟨inn, a, _⟩ := h.l k hk
 have := a.few
 simpa [gi, List.getD, hk] using this
theorem parse_E (s : ByteArray) : PFE Tryz.prog 16 [.str s] q22 := by
 refine PFEk 9 hm Tryz.func16 c16_ok (Nat.le_of_ble_eq_true rfl) (by simp) (by rintro r ⟨p', j, b, rfl, _⟩; simp) ?_
 have bad : ∀ (e w : Int) H, w ≠ 0 → RleE 9 q22 (.tuple [.agg [.nilS, .nilS], i64 e, i64 w]) H := fun e w H h => .of (.tuple [.agg (⟨[], []⟩ : Pg).cs, i64 e, i64 w]) ⟨⟨[], []⟩, e, w, rfl, fun h' => absurd h' h⟩ (by simp [lePs, -List.length_flatten, -List.map_drop, -List.map_take, Function.comp_def, len_flat])
 simp (maxSteps := 3000000) [-List.length_flatten,-List.map_drop,-List.map_take,Function.comp_def,argsT,Opd.ev,Tm.get,put,ares,mapMo,ares1,snilP,bldParts,bslParts,putAt,AV.cells,AV.one,astore,aload,loadCs,callArgs,abin,abinInt,aapp,elems,appMore,appNone,preLen,aFa,aFld,apart,aExt,aPick,aNot,aLens,aEqa,cellsK,fitsA,LK.fitsA,leavesA,leafA,nilD,aNilc,aCint,aCid,alive,alen,alenOk,Rle,lePs,len_flat, c16]
 refine PFE.call (e40 s) 9 (by simp [lePs, -List.length_flatten, -List.map_drop, -List.map_take, Function.comp_def, len_flat]) ?_
 rintro _ ⟨l, e, w, rfl, hl⟩
 by_cases hw : w = 0
 ·subst hw
  have hA : l.length ≤ maxA := by unfold maxA; omega
  refine by_run Tryz.prog 0 ?c ?K (fun T H => ∃ (p2 : Pg) (q : Nat) (b : Bool), (b = false → PgOk p2 ∧ q ≤ l.length ∧ p2.funs.length + p2.l.length ≤ q) ∧
   (T.get 0 = .str s ∧ T.get 5 = toks l ∧ T.get 2 = .ptr 0 0 0 ∧ T.get 8 = .ptr 1 0 0) ∧ H = [.cells 0 [.nilS, .nilS], .cells 0 [fns p2.funs, stms p2.l, i64 q, .bool b]]) (fun key => ?main) ?sub
  case main =>
   simp (maxSteps := 3000000) [-List.length_flatten,-List.map_drop,-List.map_take,Function.comp_def,argsT,Opd.ev,Tm.get,put,ares,mapMo,ares1,snilP,bldParts,bslParts,putAt,AV.cells,AV.one,astore,aload,loadCs,callArgs,abin,abinInt,aapp,elems,appMore,appNone,preLen,aFa,aFld,apart,aExt,aPick,aNot,aLens,aEqa,cellsK,fitsA,LK.fitsA,leavesA,leafA,nilD,aNilc,aCint,aCid,alive,alen,alenOk,Rle,lePs,len_flat, Kc]
   refine run_loopK (fun m T H => ∃ (p2 : Pg) (q : Nat) (b : Bool), m = (if b = true then 0 else l.length + 1 - q) ∧ (b = false → PgOk p2 ∧ q ≤ l.length ∧ p2.funs.length + p2.l.length ≤ q) ∧
    T = [(0, .str s), (5, toks l), (2, .ptr 0 0 0), (8, .ptr 1 0 0)] ∧ H = [.cells 0 [.nilS, .nilS], .cells 0 [fns p2.funs, stms p2.l, i64 q, .bool b]]) (l.length + 1) [(0, .str s), (5, toks l), (2, .ptr 0 0 0), (8, .ptr 1 0 0)] [.cells 0 [.nilS, .nilS], .cells 0 [fns [], stms [], i64 (0 : Nat), .bool false]]
    ((Wk.sub (by simp [Tm.get])).trans (Wk.leH 9 1 (cs' := [fns [], stms [], i64 (0 : Nat), .bool false]) rfl (by simp [lePs, -List.length_flatten, -List.map_drop, -List.map_take, Function.comp_def, len_flat]))) ⟨⟨[], []⟩, 0, false, rfl, fun _ => ⟨PgOk.nil, by omega, by simp⟩, rfl, rfl⟩ ?_
   rintro m T H ⟨p2, q, b, rfl, hq, rfl, rfl⟩ KK kx kr kn
   cases b with
   | true =>
    simp (maxSteps := 3000000) [-List.length_flatten,-List.map_drop,-List.map_take,Function.comp_def,argsT,Opd.ev,Tm.get,put,ares,mapMo,ares1,snilP,bldParts,bslParts,putAt,AV.cells,AV.one,astore,aload,loadCs,callArgs,abin,abinInt,aapp,elems,appMore,appNone,preLen,aFa,aFld,apart,aExt,aPick,aNot,aLens,aEqa,cellsK,fitsA,LK.fitsA,leavesA,leafA,nilD,aNilc,aCint,aCid,alive,alen,alenOk,Rle,lePs,len_flat, kx]
    refine key _ _ ?_
    exact ⟨p2, q, true, hq, ⟨rfl, rfl, rfl, rfl⟩, rfl⟩
   | false =>
    obtain ⟨q1, q2, q3⟩ := hq rfl
    simp (maxSteps := 3000000) [-List.length_flatten,-List.map_drop,-List.map_take,Function.comp_def,argsT,Opd.ev,Tm.get,put,ares,mapMo,ares1,snilP,bldParts,bslParts,putAt,AV.cells,AV.one,astore,aload,loadCs,callArgs,abin,abinInt,aapp,elems,appMore,appNone,preLen,aFa,aFld,apart,aExt,aPick,aNot,aLens,aEqa,cellsK,fitsA,LK.fitsA,leavesA,leafA,nilD,aNilc,aCint,aCid,alive,alen,alenOk,Rle,lePs,len_flat]
    refine PF.call (nameK_PF l q (by omega) hl) 9 (by simp [lePs, -List.length_flatten, -List.map_drop, -List.map_take, Function.comp_def, len_flat]) ?_
    by_cases h2 : nameK l q = 2
    ·have := nameK_in (l := l) (at' := q) (by rw [h2]; decide)
     simp (maxSteps := 3000000) [-List.length_flatten,-List.map_drop,-List.map_take,Function.comp_def,argsT,Opd.ev,Tm.get,put,ares,mapMo,ares1,snilP,bldParts,bslParts,putAt,AV.cells,AV.one,astore,aload,loadCs,callArgs,abin,abinInt,aapp,elems,appMore,appNone,preLen,aFa,aFld,apart,aExt,aPick,aNot,aLens,aEqa,cellsK,fitsA,LK.fitsA,leavesA,leafA,nilD,aNilc,aCint,aCid,alive,alen,alenOk,Rle,lePs,len_flat, Kc, h2]
     refine PFE.call (fun_E l p2 q false hl (by omega) q1 q3) 9 (by simp [lePs, -List.length_flatten, -List.map_drop, -List.map_take, Function.comp_def, len_flat]) ?_
     rintro _ ⟨p3, q', b, rfl, h8⟩
     simp (maxSteps := 3000000) [-List.length_flatten,-List.map_drop,-List.map_take,Function.comp_def,argsT,Opd.ev,Tm.get,put,ares,mapMo,ares1,snilP,bldParts,bslParts,putAt,AV.cells,AV.one,astore,aload,loadCs,callArgs,abin,abinInt,aapp,elems,appMore,appNone,preLen,aFa,aFld,apart,aExt,aPick,aNot,aLens,aEqa,cellsK,fitsA,LK.fitsA,leavesA,leafA,nilD,aNilc,aCint,aCid,alive,alen,alenOk,Rle,lePs,len_flat, Kc]
     exact kn _ _ (Kl_sub (if b = true then 0 else l.length + 1 - q') (T' := [(0, .str s), (5, toks l), (2, .ptr 0 0 0), (8, .ptr 1 0 0)]) ⟨p3, q', b, rfl, fun h => ⟨(h8 h).2.2.1, (h8 h).2.1, (h8 h).2.2.2⟩, rfl, rfl⟩ (by simp [Tm.get]) (by
      simp
      split
      ·omega
      ·rename_i hb
       have := (h8 (by simpa using hb)).1
       omega))
    ·simp (maxSteps := 3000000) [-List.length_flatten,-List.map_drop,-List.map_take,Function.comp_def,argsT,Opd.ev,Tm.get,put,ares,mapMo,ares1,snilP,bldParts,bslParts,putAt,AV.cells,AV.one,astore,aload,loadCs,callArgs,abin,abinInt,aapp,elems,appMore,appNone,preLen,aFa,aFld,apart,aExt,aPick,aNot,aLens,aEqa,cellsK,fitsA,LK.fitsA,leavesA,leafA,nilD,aNilc,aCint,aCid,alive,alen,alenOk,Rle,lePs,len_flat, Kc, h2, kx]
     refine key _ _ ?_
     exact ⟨p2, q, false, hq, ⟨rfl, rfl, rfl, rfl⟩, rfl⟩
  case sub =>
   rintro T _ ⟨p2, q, b, hq, ⟨t0, t5, t2, t8⟩, rfl⟩
   refine run_loopK (fun m T H => ∃ (p2 : Pg) (q : Nat) (b : Bool), m = (if b = true then 0 else l.length + 1 - q) ∧ (b = false → PgOk p2 ∧ q ≤ l.length ∧ p2.funs.length + p2.l.length ≤ q) ∧
    T = [(0, .str s), (5, toks l), (2, .ptr 0 0 0), (8, .ptr 1 0 0)] ∧ H = [.cells 0 [.nilS, .nilS], .cells 0 [fns p2.funs, stms p2.l, i64 q, .bool b]]) (if b = true then 0 else l.length + 1 - q) [(0, .str s), (5, toks l), (2, .ptr 0 0 0), (8, .ptr 1 0 0)] _
    (Wk.sub (by simp [t0, t5, t2, t8])) ⟨p2, q, b, rfl, hq, rfl, rfl⟩ ?_
   clear t0 t5 t2 t8 hq
   rintro m T H ⟨p2, q, b, rfl, hq, rfl, rfl⟩ KK kx kr kn
   cases b with
   | true =>
    by_cases h2 : q < l.length
    ·simp (maxSteps := 3000000) [-List.length_flatten,-List.map_drop,-List.map_take,Function.comp_def,argsT,Opd.ev,Tm.get,put,ares,mapMo,ares1,snilP,bldParts,bslParts,putAt,AV.cells,AV.one,astore,aload,loadCs,callArgs,abin,abinInt,aapp,elems,appMore,appNone,preLen,aFa,aFld,apart,aExt,aPick,aNot,aLens,aEqa,cellsK,fitsA,LK.fitsA,leavesA,leafA,nilD,aNilc,aCint,aCid,alive,alen,alenOk,Rle,lePs,len_flat, kx, hA, h2, indB, apartB, aliveRd]
     exact bad _ _ _ (by decide)
    ·simp (maxSteps := 3000000) [-List.length_flatten,-List.map_drop,-List.map_take,Function.comp_def,argsT,Opd.ev,Tm.get,put,ares,mapMo,ares1,snilP,bldParts,bslParts,putAt,AV.cells,AV.one,astore,aload,loadCs,callArgs,abin,abinInt,aapp,elems,appMore,appNone,preLen,aFa,aFld,apart,aExt,aPick,aNot,aLens,aEqa,cellsK,fitsA,LK.fitsA,leavesA,leafA,nilD,aNilc,aCint,aCid,alive,alen,alenOk,Rle,lePs,len_flat, kx, hA, h2, indB, apartB, aliveRd]
     exact fun _ => bad _ _ _ (by decide)
   | false =>
    obtain ⟨q1, q2, q3⟩ := hq rfl
    by_cases h2 : q < l.length
    ·simp (maxSteps := 3000000) [-List.length_flatten,-List.map_drop,-List.map_take,Function.comp_def,argsT,Opd.ev,Tm.get,put,ares,mapMo,ares1,snilP,bldParts,bslParts,putAt,AV.cells,AV.one,astore,aload,loadCs,callArgs,abin,abinInt,aapp,elems,appMore,appNone,preLen,aFa,aFld,apart,aExt,aPick,aNot,aLens,aEqa,cellsK,fitsA,LK.fitsA,leavesA,leafA,nilD,aNilc,aCint,aCid,alive,alen,alenOk,Rle,lePs,len_flat, hA, h2]
     refine PFE.call (stmt_E l p2 q false (-1) hl q2 (by omega)) 9 (by simp [lePs, -List.length_flatten, -List.map_drop, -List.map_take, Function.comp_def, len_flat]) ?_
     rintro _ ⟨p3, q', b, rfl, h8⟩
     simp (maxSteps := 3000000) [-List.length_flatten,-List.map_drop,-List.map_take,Function.comp_def,argsT,Opd.ev,Tm.get,put,ares,mapMo,ares1,snilP,bldParts,bslParts,putAt,AV.cells,AV.one,astore,aload,loadCs,callArgs,abin,abinInt,aapp,elems,appMore,appNone,preLen,aFa,aFld,apart,aExt,aPick,aNot,aLens,aEqa,cellsK,fitsA,LK.fitsA,leavesA,leafA,nilD,aNilc,aCint,aCid,alive,alen,alenOk,Rle,lePs,len_flat, Kc]
     exact kn _ _ (Kl_sub (if b = true then 0 else l.length + 1 - q') (T' := [(0, .str s), (5, toks l), (2, .ptr 0 0 0), (8, .ptr 1 0 0)]) ⟨p3, q', b, rfl, fun h => by
      obtain ⟨a1, a2, s, rfl, a3⟩ := h8 h
      exact ⟨q1.stm a3 (by omega) (by omega), a2, by simp only [List.length_append, List.length_cons, List.length_nil]; omega⟩, rfl, rfl⟩ (by simp [Tm.get]) (by
      simp
      split
      ·omega
      ·rename_i hb
       have := (h8 (by simpa using hb)).1
       omega))
    ·simp (maxSteps := 3000000) [-List.length_flatten,-List.map_drop,-List.map_take,Function.comp_def,argsT,Opd.ev,Tm.get,put,ares,mapMo,ares1,snilP,bldParts,bslParts,putAt,AV.cells,AV.one,astore,aload,loadCs,callArgs,abin,abinInt,aapp,elems,appMore,appNone,preLen,aFa,aFld,apart,aExt,aPick,aNot,aLens,aEqa,cellsK,fitsA,LK.fitsA,leavesA,leafA,nilD,aNilc,aCint,aCid,alive,alen,alenOk,Rle,lePs,len_flat, hA, h2, kx]
     refine PFE.call (wrong_E p2 (q1.fits (by omega))) 9 (by simp [lePs, -List.length_flatten, -List.map_drop, -List.map_take, Function.comp_def, len_flat]) ?_
     rintro _ ⟨w, rfl, hw⟩
     by_cases hw0 : w = 0
     ·simp (maxSteps := 3000000) [-List.length_flatten,-List.map_drop,-List.map_take,Function.comp_def,argsT,Opd.ev,Tm.get,put,ares,mapMo,ares1,snilP,bldParts,bslParts,putAt,AV.cells,AV.one,astore,aload,loadCs,callArgs,abin,abinInt,aapp,elems,appMore,appNone,preLen,aFa,aFld,apart,aExt,aPick,aNot,aLens,aEqa,cellsK,fitsA,LK.fitsA,leavesA,leafA,nilD,aNilc,aCint,aCid,alive,alen,alenOk,Rle,lePs,len_flat, Kc, hw0]
      exact .of (.tuple [.agg p2.cs, i64 0, i64 0]) ⟨p2, 0, 0, rfl, fun _ => ⟨q1, hw hw0⟩⟩ (by simp [lePs, -List.length_flatten, -List.map_drop, -List.map_take, Function.comp_def, len_flat])
     ·simp (maxSteps := 3000000) [-List.length_flatten,-List.map_drop,-List.map_take,Function.comp_def,argsT,Opd.ev,Tm.get,put,ares,mapMo,ares1,snilP,bldParts,bslParts,putAt,AV.cells,AV.one,astore,aload,loadCs,callArgs,abin,abinInt,aapp,elems,appMore,appNone,preLen,aFa,aFld,apart,aExt,aPick,aNot,aLens,aEqa,cellsK,fitsA,LK.fitsA,leavesA,leafA,nilD,aNilc,aCint,aCid,alive,alen,alenOk,Rle,lePs,len_flat, Kc, hw0]
      exact bad _ _ _ hw0
 ·simp (maxSteps := 3000000) [-List.length_flatten,-List.map_drop,-List.map_take,Function.comp_def,argsT,Opd.ev,Tm.get,put,ares,mapMo,ares1,snilP,bldParts,bslParts,putAt,AV.cells,AV.one,astore,aload,loadCs,callArgs,abin,abinInt,aapp,elems,appMore,appNone,preLen,aFa,aFld,apart,aExt,aPick,aNot,aLens,aEqa,cellsK,fitsA,LK.fitsA,leavesA,leafA,nilD,aNilc,aCint,aCid,alive,alen,alenOk,Rle,lePs,len_flat, Kc, hw]
  exact bad _ _ _ hw
end Go.AM

namespace Go.AM
open Go.Proofs
set_option maxRecDepth 100000
set_option linter.unusedVariables false
set_option linter.unusedSimpArgs false
def joinN (l : List ByteArray) : Nat → ByteArray
 | 0 => ⟨#[]⟩
 | i + 1 => (if i = 0 then joinN l i else joinN l i ++ ⟨#[44]⟩) ++ gi l i
def joinF (l : List ByteArray) : ByteArray := joinN l l.length
abbrev lm : Nat := 1048576
def smallL (l : List ByteArray) : Prop := l.length ≤ lm ∧ ∀ a ∈ l, a.size ≤ lm
theorem joinN_size {l : List ByteArray} (h : smallL l) : ∀ i : Nat, i ≤ l.length → (joinN l i).size ≤ i * 1048577
 | 0, _ => by simp [joinN]; rfl
 | i + 1, hi => by
  have ih := joinN_size h i (by omega)
  have h1 := h.2 _ (gi_mem (l := l) (i := i) (by omega))
  unfold joinN
  split
  ·rw [ByteArray.size_append]
   unfold lm at h1
   omega
  ·rw [ByteArray.size_append, ByteArray.size_append]
   have : (⟨#[44]⟩ : ByteArray).size = 1 := rfl
   unfold lm at h1
   omega
theorem join_PF (l : List ByteArray) (h : smallL l) : PF Tryz.prog 45 [strs l] (.str (joinF l)) := by
 refine PFk 9 hm Tryz.func45 c45_ok (Nat.le_of_ble_eq_true rfl) (by simp) (by simp) ?_
 have hl := h.1
 have hA : l.length ≤ maxA := by unfold maxA; unfold lm at hl; omega
 simp (maxSteps := 3000000) [-List.length_flatten,-List.map_drop,-List.map_take,Function.comp_def,argsT,Opd.ev,Tm.get,put,ares,mapMo,ares1,snilP,bldParts,bslParts,putAt,AV.cells,AV.one,astore,aload,loadCs,callArgs,abin,abinInt,aapp,elems,appMore,appNone,preLen,aFa,aFld,apart,aExt,aPick,aNot,aLens,aEqa,cellsK,fitsA,LK.fitsA,leavesA,leafA,nilD,aNilc,aCint,aCid,alive,alen,alenOk,Rle,lePs,len_flat, c45]
 obtain ⟨R, hR⟩ : ∃ R, R = joinF l := ⟨_, rfl⟩
 rw [← hR]
 refine run_loopK (fun m T H => ∃ i : Nat, m = l.length - i ∧ i ≤ l.length ∧ T = [(4, i64 i), (3, .str (joinN l i)), (0, strs l)] ∧ H = []) l.length
  [(4, i64 (0 : Nat)), (3, .str (joinN l 0)), (0, strs l)] [] (Wk.sub (by simp [Tm.get, joinN])) ⟨0, rfl, by omega, rfl, rfl⟩ ?_
 rintro m T H ⟨i, rfl, hi, rfl, rfl⟩ KK kx kr kn
 by_cases h1 : i < l.length
 ·have h2 := h.2 _ (gi_mem h1)
  have h3 := joinN_size h i hi
  have nx : ∀ T : Tm, al (fun q => T.get q.1 = q.2) [(4, i64 (i + 1 : Nat)), (3, .str (joinN l (i + 1))), (0, strs l)] → KK .normal T [] := fun T ht =>
   kn _ _ (Kl_sub (l.length - (i + 1)) (T' := [(4, i64 (i + 1 : Nat)), (3, .str (joinN l (i + 1))), (0, strs l)]) ⟨i + 1, rfl, by omega, rfl, rfl⟩ ht (by omega))
  have s1 : (joinN l i).size + 1 ≤ 9223372036854775807 := by unfold lm at hl h2; omega
  have s1' : (⟨#[44]⟩ : ByteArray).size = 1 := rfl
  have s2 : (joinN l i).size + 1 + (gi l i).size ≤ 9223372036854775807 := by unfold lm at hl h2; omega
  have s3 : (joinN l i).size + (gi l i).size ≤ 9223372036854775807 := by omega
  by_cases h0 : i = 0
  ·subst h0
   simp (maxSteps := 3000000) [-List.length_flatten,-List.map_drop,-List.map_take,Function.comp_def,argsT,Opd.ev,Tm.get,put,ares,mapMo,ares1,snilP,bldParts,bslParts,putAt,AV.cells,AV.one,astore,aload,loadCs,callArgs,abin,abinInt,aapp,elems,appMore,appNone,preLen,aFa,aFld,apart,aExt,aPick,aNot,aLens,aEqa,cellsK,fitsA,LK.fitsA,leavesA,leafA,nilD,aNilc,aCint,aCid,alive,alen,alenOk,Rle,lePs,len_flat, h1, hA, s3]
   refine ⟨s3, nx _ ?_⟩
   have : IntKind.i64.wrap 1 = 1 := by rw [w64 (by omega) (by omega)]
   simp [Tm.get, joinN, this]
  ·have h0' : 0 < i := by omega
   simp (maxSteps := 3000000) [-List.length_flatten,-List.map_drop,-List.map_take,Function.comp_def,argsT,Opd.ev,Tm.get,put,ares,mapMo,ares1,snilP,bldParts,bslParts,putAt,AV.cells,AV.one,astore,aload,loadCs,callArgs,abin,abinInt,aapp,elems,appMore,appNone,preLen,aFa,aFld,apart,aExt,aPick,aNot,aLens,aEqa,cellsK,fitsA,LK.fitsA,leavesA,leafA,nilD,aNilc,aCint,aCid,alive,alen,alenOk,Rle,lePs,len_flat, h1, hA, h0, h0', s1, s1', s2, ByteArray.size_append]
   exact nx _ (by simp [Tm.get, joinN, h0, nxt h1 hA])
 ·have : i = l.length := by omega
  subst this
  simp (maxSteps := 3000000) [-List.length_flatten,-List.map_drop,-List.map_take,Function.comp_def,argsT,Opd.ev,Tm.get,put,ares,mapMo,ares1,snilP,bldParts,bslParts,putAt,AV.cells,AV.one,astore,aload,loadCs,callArgs,abin,abinInt,aapp,elems,appMore,appNone,preLen,aFa,aFld,apart,aExt,aPick,aNot,aLens,aEqa,cellsK,fitsA,LK.fitsA,leavesA,leafA,nilD,aNilc,aCint,aCid,alive,alen,alenOk,Rle,lePs,len_flat, h1, hA, kx]
  rw [hR]
  rfl
def wrF (s : Stm) : ByteArray :=
 if s.kind = 1 then s.x ++ ⟨#[61, 38]⟩ ++ s.y ++ ⟨#[59]⟩
 else if s.kind = 2 then s.x ++ ⟨#[61, 110, 101, 119, 59]⟩
 else if s.kind = 4 then s.x ++ ⟨#[61, 42]⟩ ++ s.y ++ ⟨#[59]⟩
 else if s.kind = 5 then ⟨#[42]⟩ ++ s.x ++ ⟨#[61]⟩ ++ s.y ++ ⟨#[59]⟩
 else if s.kind = 7 then s.x ++ ⟨#[61]⟩ ++ s.y ++ ⟨#[40]⟩ ++ joinF s.args ++ ⟨#[41, 59]⟩
 else s.x ++ ⟨#[61]⟩ ++ s.y ++ ⟨#[59]⟩
/-- What is short of a statement. -/
structure FewS (s : Stm) : Prop where
 x : s.x.size ≤ 2000
 y : s.y.size ≤ 2000
 args : (joinF s.args).size ≤ 2000
structure FewF (f : Fn0) : Prop where
 name : f.name.size ≤ 2000
 ret : f.ret.size ≤ 2000
 params : (joinF f.params).size ≤ 2000
theorem wrF_size {s : Stm} (h : FewS s) : (wrF s).size ≤ 6010 := by
 have h1 := h.x
 have h2 := h.y
 have h3 := h.args
 have a1 : (⟨#[61, 38]⟩ : ByteArray).size = 2 := rfl
 have a2 : (⟨#[59]⟩ : ByteArray).size = 1 := rfl
 have a3 : (⟨#[61, 110, 101, 119, 59]⟩ : ByteArray).size = 5 := rfl
 have a4 : (⟨#[61, 42]⟩ : ByteArray).size = 2 := rfl
 have a5 : (⟨#[42]⟩ : ByteArray).size = 1 := rfl
 have a6 : (⟨#[61]⟩ : ByteArray).size = 1 := rfl
 have a7 : (⟨#[40]⟩ : ByteArray).size = 1 := rfl
 have a8 : (⟨#[41, 59]⟩ : ByteArray).size = 2 := rfl
 unfold wrF
 (repeat' split) <;> simp only [ByteArray.size_append, a1, a2, a3, a4, a5, a6, a7, a8] <;> omega
theorem written_PF (s : Stm) (h : FewS s) (ha : smallL s.args) : PF Tryz.prog 103 [.agg s.cs] (.str (wrF s)) := by
 refine PFk 9 hm Tryz.func103 c103_ok (Nat.le_of_ble_eq_true rfl) (by simp) (by simp) ?_
 have h1 := h.x
 have h2 := h.y
 have h3 := h.args
 have a1 : (⟨#[61, 38]⟩ : ByteArray).size = 2 := rfl
 have a2 : (⟨#[59]⟩ : ByteArray).size = 1 := rfl
 have a3 : (⟨#[61, 110, 101, 119, 59]⟩ : ByteArray).size = 5 := rfl
 have a4 : (⟨#[61, 42]⟩ : ByteArray).size = 2 := rfl
 have a5 : (⟨#[42]⟩ : ByteArray).size = 1 := rfl
 have a6 : (⟨#[61]⟩ : ByteArray).size = 1 := rfl
 have a7 : (⟨#[40]⟩ : ByteArray).size = 1 := rfl
 have a8 : (⟨#[41, 59]⟩ : ByteArray).size = 2 := rfl
 have b1 : s.x.size + 2 ≤ 9223372036854775807 := by omega
 have b2 : s.x.size + 2 + s.y.size ≤ 9223372036854775807 := by omega
 have b3 : s.x.size + 2 + s.y.size + 1 ≤ 9223372036854775807 := by omega
 have b4 : s.x.size + 5 ≤ 9223372036854775807 := by omega
 have b5 : 1 + s.x.size ≤ 9223372036854775807 := by omega
 have b6 : 1 + s.x.size + 1 ≤ 9223372036854775807 := by omega
 have b7 : 1 + s.x.size + 1 + s.y.size ≤ 9223372036854775807 := by omega
 have b8 : 1 + s.x.size + 1 + s.y.size + 1 ≤ 9223372036854775807 := by omega
 have b9 : s.x.size + 1 ≤ 9223372036854775807 := by omega
 have b10 : s.x.size + 1 + s.y.size ≤ 9223372036854775807 := by omega
 have b11 : s.x.size + 1 + s.y.size + 1 ≤ 9223372036854775807 := by omega
 have b12 : s.x.size + 1 + s.y.size + 1 + (joinF s.args).size ≤ 9223372036854775807 := by omega
 have b13 : s.x.size + 1 + s.y.size + 1 + (joinF s.args).size + 2 ≤ 9223372036854775807 := by omega
 have hc : s.kind = 1 ∨ s.kind = 2 ∨ s.kind = 4 ∨ s.kind = 5 ∨ s.kind = 7 ∨ (¬ s.kind = 1 ∧ ¬ s.kind = 2 ∧ ¬ s.kind = 4 ∧ ¬ s.kind = 5 ∧ ¬ s.kind = 7) := by omega
 unfold wrF
 rcases hc with hk | hk | hk | hk | hk | ⟨k1, k2, k4, k5, k7⟩
 ·simp (maxSteps := 3000000) [-List.length_flatten,-List.map_drop,-List.map_take,Function.comp_def,argsT,Opd.ev,Tm.get,put,ares,mapMo,ares1,snilP,bldParts,bslParts,putAt,AV.cells,AV.one,astore,aload,loadCs,callArgs,abin,abinInt,aapp,elems,appMore,appNone,preLen,aFa,aFld,apart,aExt,aPick,aNot,aLens,aEqa,cellsK,fitsA,LK.fitsA,leavesA,leafA,nilD,aNilc,aCint,aCid,alive,alen,alenOk,Rle,lePs,len_flat, c103, hk, a1, a2, b1, b2, b3, ByteArray.size_append]
 ·simp (maxSteps := 3000000) [-List.length_flatten,-List.map_drop,-List.map_take,Function.comp_def,argsT,Opd.ev,Tm.get,put,ares,mapMo,ares1,snilP,bldParts,bslParts,putAt,AV.cells,AV.one,astore,aload,loadCs,callArgs,abin,abinInt,aapp,elems,appMore,appNone,preLen,aFa,aFld,apart,aExt,aPick,aNot,aLens,aEqa,cellsK,fitsA,LK.fitsA,leavesA,leafA,nilD,aNilc,aCint,aCid,alive,alen,alenOk,Rle,lePs,len_flat, c103, hk, a3, b4, ByteArray.size_append]
 ·simp (maxSteps := 3000000) [-List.length_flatten,-List.map_drop,-List.map_take,Function.comp_def,argsT,Opd.ev,Tm.get,put,ares,mapMo,ares1,snilP,bldParts,bslParts,putAt,AV.cells,AV.one,astore,aload,loadCs,callArgs,abin,abinInt,aapp,elems,appMore,appNone,preLen,aFa,aFld,apart,aExt,aPick,aNot,aLens,aEqa,cellsK,fitsA,LK.fitsA,leavesA,leafA,nilD,aNilc,aCint,aCid,alive,alen,alenOk,Rle,lePs,len_flat, c103, hk, a2, a4, b1, b2, b3, ByteArray.size_append]
 ·simp (maxSteps := 3000000) [-List.length_flatten,-List.map_drop,-List.map_take,Function.comp_def,argsT,Opd.ev,Tm.get,put,ares,mapMo,ares1,snilP,bldParts,bslParts,putAt,AV.cells,AV.one,astore,aload,loadCs,callArgs,abin,abinInt,aapp,elems,appMore,appNone,preLen,aFa,aFld,apart,aExt,aPick,aNot,aLens,aEqa,cellsK,fitsA,LK.fitsA,leavesA,leafA,nilD,aNilc,aCint,aCid,alive,alen,alenOk,Rle,lePs,len_flat, c103, hk, a2, a5, a6, b5, b6, b7, b8, ByteArray.size_append]
 ·simp (maxSteps := 3000000) [-List.length_flatten,-List.map_drop,-List.map_take,Function.comp_def,argsT,Opd.ev,Tm.get,put,ares,mapMo,ares1,snilP,bldParts,bslParts,putAt,AV.cells,AV.one,astore,aload,loadCs,callArgs,abin,abinInt,aapp,elems,appMore,appNone,preLen,aFa,aFld,apart,aExt,aPick,aNot,aLens,aEqa,cellsK,fitsA,LK.fitsA,leavesA,leafA,nilD,aNilc,aCint,aCid,alive,alen,alenOk,Rle,lePs,len_flat, c103, hk, a6, a7, a8, b9, b10, b11, ByteArray.size_append]
  refine ⟨_, join_PF _ ha, ?_⟩
  simp (maxSteps := 3000000) [-List.length_flatten,-List.map_drop,-List.map_take,Function.comp_def,argsT,Opd.ev,Tm.get,put,ares,mapMo,ares1,snilP,bldParts,bslParts,putAt,AV.cells,AV.one,astore,aload,loadCs,callArgs,abin,abinInt,aapp,elems,appMore,appNone,preLen,aFa,aFld,apart,aExt,aPick,aNot,aLens,aEqa,cellsK,fitsA,LK.fitsA,leavesA,leafA,nilD,aNilc,aCint,aCid,alive,alen,alenOk,Rle,lePs,len_flat, Kc, a6, a7, a8, b12, b13, ByteArray.size_append]
 ·simp (maxSteps := 3000000) [-List.length_flatten,-List.map_drop,-List.map_take,Function.comp_def,argsT,Opd.ev,Tm.get,put,ares,mapMo,ares1,snilP,bldParts,bslParts,putAt,AV.cells,AV.one,astore,aload,loadCs,callArgs,abin,abinInt,aapp,elems,appMore,appNone,preLen,aFa,aFld,apart,aExt,aPick,aNot,aLens,aEqa,cellsK,fitsA,LK.fitsA,leavesA,leafA,nilD,aNilc,aCint,aCid,alive,alen,alenOk,Rle,lePs,len_flat, c103, k1, k2, k4, k5, k7, a2, a6, b9, b10, b11, ByteArray.size_append]
def withN (l : List Stm) (inn : Int) : Nat → ByteArray
 | 0 => ⟨#[]⟩
 | i + 1 => if (gi l i).inn = inn then withN l inn i ++ wrF (gi l i) else withN l inn i
theorem withN_size {l : List Stm} {inn : Int} (h : ∀ s ∈ l, FewS s) : ∀ i : Nat, i ≤ l.length → (withN l inn i).size ≤ i * 6010
 | 0, _ => by simp [withN]; rfl
 | i + 1, hi => by
  have ih := withN_size (inn := inn) h i (by omega)
  have h1 := wrF_size (h _ (gi_mem (l := l) (i := i) (by omega)))
  unfold withN
  split
  ·rw [ByteArray.size_append]
   omega
  ·omega
theorem within_PF (p : Pg) (inn : Int) (hl : p.l.length ≤ 2000) (h : ∀ s ∈ p.l, FewS s) (hs : ∀ s ∈ p.l, smallL s.args) : PF Tryz.prog 76 [.agg p.cs, i64 inn] (.str (withN p.l inn p.l.length)) := by
 refine PFk 9 hm Tryz.func76 c76_ok (Nat.le_of_ble_eq_true rfl) (by simp) (by simp) ?_
 have hA : p.l.length ≤ maxA := by unfold maxA; omega
 simp (maxSteps := 3000000) [-List.length_flatten,-List.map_drop,-List.map_take,Function.comp_def,argsT,Opd.ev,Tm.get,put,ares,mapMo,ares1,snilP,bldParts,bslParts,putAt,AV.cells,AV.one,astore,aload,loadCs,callArgs,abin,abinInt,aapp,elems,appMore,appNone,preLen,aFa,aFld,apart,aExt,aPick,aNot,aLens,aEqa,cellsK,fitsA,LK.fitsA,leavesA,leafA,nilD,aNilc,aCint,aCid,alive,alen,alenOk,Rle,lePs,len_flat, c76]
 obtain ⟨R, hR⟩ : ∃ R, R = withN p.l inn p.l.length := ⟨_, rfl⟩
 rw [← hR]
 refine run_loopK (fun m T H => ∃ i : Nat, m = p.l.length - i ∧ i ≤ p.l.length ∧ T = [(6, i64 i), (5, .str (withN p.l inn i)), (1, i64 inn), (2, .ptr 0 0 0)] ∧ H = [.cells 0 p.cs]) p.l.length
  [(6, i64 (0 : Nat)), (5, .str (withN p.l inn 0)), (1, i64 inn), (2, .ptr 0 0 0)] [.cells 0 p.cs] (Wk.sub (by simp [Tm.get, withN])) ⟨0, rfl, by omega, rfl, rfl⟩ ?_
 rintro m T H ⟨i, rfl, hi, rfl, rfl⟩ KK kx kr kn
 by_cases h1 : i < p.l.length
 ·have h2 := withN_size (inn := inn) h i hi
  have h3 := wrF_size (h _ (gi_mem h1))
  have nx : ∀ T : Tm, al (fun q => T.get q.1 = q.2) [(6, i64 (i + 1 : Nat)), (5, .str (withN p.l inn (i + 1))), (1, i64 inn), (2, .ptr 0 0 0)] → KK .normal T [.cells 0 p.cs] := fun T ht =>
   kn _ _ (Kl_sub (p.l.length - (i + 1)) (T' := [(6, i64 (i + 1 : Nat)), (5, .str (withN p.l inn (i + 1))), (1, i64 inn), (2, .ptr 0 0 0)]) ⟨i + 1, rfl, by omega, rfl, rfl⟩ ht (by omega))
  by_cases hk : (gi p.l i).inn = inn
  ·have e : withN p.l inn (i + 1) = withN p.l inn i ++ wrF (gi p.l i) := by rw [withN, if_pos hk]
   rw [e] at nx
   simp (maxSteps := 3000000) [-List.length_flatten,-List.map_drop,-List.map_take,Function.comp_def,argsT,Opd.ev,Tm.get,put,ares,mapMo,ares1,snilP,bldParts,bslParts,putAt,AV.cells,AV.one,astore,aload,loadCs,callArgs,abin,abinInt,aapp,elems,appMore,appNone,preLen,aFa,aFld,apart,aExt,aPick,aNot,aLens,aEqa,cellsK,fitsA,LK.fitsA,leavesA,leafA,nilD,aNilc,aCint,aCid,alive,alen,alenOk,Rle,lePs,len_flat, h1, hA, hk]
   refine PF.call (written_PF _ (h _ (gi_mem h1)) (hs _ (gi_mem h1))) 9 (by simp [lePs, hk]) ?_
   have hz : (withN p.l inn i).size + (wrF (gi p.l i)).size ≤ 9223372036854775807 := by omega
   simp (maxSteps := 3000000) [-List.length_flatten,-List.map_drop,-List.map_take,Function.comp_def,argsT,Opd.ev,Tm.get,put,ares,mapMo,ares1,snilP,bldParts,bslParts,putAt,AV.cells,AV.one,astore,aload,loadCs,callArgs,abin,abinInt,aapp,elems,appMore,appNone,preLen,aFa,aFld,apart,aExt,aPick,aNot,aLens,aEqa,cellsK,fitsA,LK.fitsA,leavesA,leafA,nilD,aNilc,aCint,aCid,alive,alen,alenOk,Rle,lePs,len_flat, Kc, hz]
   exact nx _ (by simp [Tm.get, nxt h1 hA])
  ·have e : withN p.l inn (i + 1) = withN p.l inn i := by rw [withN, if_neg hk]
   rw [e] at nx
   simp (maxSteps := 3000000) [-List.length_flatten,-List.map_drop,-List.map_take,Function.comp_def,argsT,Opd.ev,Tm.get,put,ares,mapMo,ares1,snilP,bldParts,bslParts,putAt,AV.cells,AV.one,astore,aload,loadCs,callArgs,abin,abinInt,aapp,elems,appMore,appNone,preLen,aFa,aFld,apart,aExt,aPick,aNot,aLens,aEqa,cellsK,fitsA,LK.fitsA,leavesA,leafA,nilD,aNilc,aCint,aCid,alive,alen,alenOk,Rle,lePs,len_flat, h1, hA, hk]
   exact nx _ (by simp [Tm.get, nxt h1 hA])
 ·have : i = p.l.length := by omega
  subst this
  simp (maxSteps := 3000000) [-List.length_flatten,-List.map_drop,-List.map_take,Function.comp_def,argsT,Opd.ev,Tm.get,put,ares,mapMo,ares1,snilP,bldParts,bslParts,putAt,AV.cells,AV.one,astore,aload,loadCs,callArgs,abin,abinInt,aapp,elems,appMore,appNone,preLen,aFa,aFld,apart,aExt,aPick,aNot,aLens,aEqa,cellsK,fitsA,LK.fitsA,leavesA,leafA,nilD,aNilc,aCint,aCid,alive,alen,alenOk,Rle,lePs,len_flat, h1, hA, kx]
  exact hR.symm
def textN (p : Pg) : Nat → ByteArray
 | 0 => ⟨#[]⟩
 | i + 1 => textN p i ++ (gi p.funs i).name ++ ⟨#[40]⟩ ++ joinF (gi p.funs i).params ++ ⟨#[41, 58]⟩ ++ (gi p.funs i).ret ++ ⟨#[123]⟩ ++ withN p.l i p.l.length ++ ⟨#[125]⟩
def textF (p : Pg) : ByteArray := textN p p.funs.length ++ withN p.l (-1) p.l.length
structure FewP (p : Pg) : Prop where
 n : p.funs.length + p.l.length ≤ 2000
 f : ∀ f ∈ p.funs, FewF f
 s : ∀ s ∈ p.l, FewS s
theorem textN_size {p : Pg} (h : FewP p) : ∀ i : Nat, i ≤ p.funs.length → (textN p i).size ≤ i * 12026010
 | 0, _ => by simp [textN]; rfl
 | i + 1, hi => by
  have ih := textN_size h i (by omega)
  have hn := h.n
  have h1 := h.f _ (gi_mem (l := p.funs) (i := i) (by omega))
  have h2 := withN_size (inn := i) h.s p.l.length (by omega)
  have := h1.name
  have := h1.ret
  have := h1.params
  have a1 : (⟨#[40]⟩ : ByteArray).size = 1 := rfl
  have a2 : (⟨#[41, 58]⟩ : ByteArray).size = 2 := rfl
  have a3 : (⟨#[123]⟩ : ByteArray).size = 1 := rfl
  have a4 : (⟨#[125]⟩ : ByteArray).size = 1 := rfl
  unfold textN
  simp only [ByteArray.size_append, a1, a2, a3, a4]
  omega
theorem text_PF (p : Pg) (h : FewP p) (hs : ∀ s ∈ p.l, smallL s.args) (hf : ∀ f ∈ p.funs, smallL f.params) : PF Tryz.prog 46 [.agg p.cs] (.str (textF p)) := by
 refine PFk 9 hm Tryz.func46 c46_ok (Nat.le_of_ble_eq_true rfl) (by simp) (by simp) ?_
 have hn := h.n
 have hA : p.funs.length ≤ maxA := by unfold maxA; omega
 simp (maxSteps := 3000000) [-List.length_flatten,-List.map_drop,-List.map_take,Function.comp_def,argsT,Opd.ev,Tm.get,put,ares,mapMo,ares1,snilP,bldParts,bslParts,putAt,AV.cells,AV.one,astore,aload,loadCs,callArgs,abin,abinInt,aapp,elems,appMore,appNone,preLen,aFa,aFld,apart,aExt,aPick,aNot,aLens,aEqa,cellsK,fitsA,LK.fitsA,leavesA,leafA,nilD,aNilc,aCint,aCid,alive,alen,alenOk,Rle,lePs,len_flat, c46]
 obtain ⟨R, hR⟩ : ∃ R, R = textF p := ⟨_, rfl⟩
 rw [← hR]
 refine run_loopK (fun m T H => ∃ i : Nat, m = p.funs.length - i ∧ i ≤ p.funs.length ∧ T = [(4, i64 i), (3, .str (textN p i)), (1, .ptr 0 0 0)] ∧ H = [.cells 0 p.cs]) p.funs.length
  [(4, i64 (0 : Nat)), (3, .str (textN p 0)), (1, .ptr 0 0 0)] [.cells 0 p.cs] (Wk.sub (by simp [Tm.get, textN])) ⟨0, rfl, by omega, rfl, rfl⟩ ?_
 rintro m T H ⟨i, rfl, hi, rfl, rfl⟩ KK kx kr kn
 by_cases h1 : i < p.funs.length
 ·have h2 := textN_size h i hi
  have h3 := h.f _ (gi_mem h1)
  have h4 := withN_size (inn := i) h.s p.l.length (by omega)
  have h5 := h3.name
  have h6 := h3.ret
  have h7 := h3.params
  have a1 : (⟨#[40]⟩ : ByteArray).size = 1 := rfl
  have a2 : (⟨#[41, 58]⟩ : ByteArray).size = 2 := rfl
  have a3 : (⟨#[123]⟩ : ByteArray).size = 1 := rfl
  have a4 : (⟨#[125]⟩ : ByteArray).size = 1 := rfl
  have nx : ∀ (T : Tm) (x : ABlk), al (fun q => T.get q.1 = q.2) [(4, i64 (i + 1 : Nat)), (3, .str (textN p (i + 1))), (1, .ptr 0 0 0)] → KK .normal T [.cells 0 p.cs, x] := fun T x ht =>
   kn _ _ (Kl_next (p.funs.length - (i + 1)) 1 (by omega) (T' := [(4, i64 (i + 1 : Nat)), (3, .str (textN p (i + 1))), (1, .ptr 0 0 0)]) ⟨i + 1, rfl, by omega, rfl, rfl⟩ ht (by simp) rfl (by simp [RLB]) (by omega))
  have b1 : (textN p i).size + (gi p.funs i).name.size ≤ 9223372036854775807 := by omega
  have b2 : (textN p i).size + (gi p.funs i).name.size + 1 ≤ 9223372036854775807 := by omega
  have b3 : (textN p i).size + (gi p.funs i).name.size + 1 + (joinF (gi p.funs i).params).size ≤ 9223372036854775807 := by omega
  have b4 : (textN p i).size + (gi p.funs i).name.size + 1 + (joinF (gi p.funs i).params).size + 2 ≤ 9223372036854775807 := by omega
  have b5 : (textN p i).size + (gi p.funs i).name.size + 1 + (joinF (gi p.funs i).params).size + 2 + (gi p.funs i).ret.size ≤ 9223372036854775807 := by omega
  have b6 : (textN p i).size + (gi p.funs i).name.size + 1 + (joinF (gi p.funs i).params).size + 2 + (gi p.funs i).ret.size + 1 ≤ 9223372036854775807 := by omega
  have b7 : (textN p i).size + (gi p.funs i).name.size + 1 + (joinF (gi p.funs i).params).size + 2 + (gi p.funs i).ret.size + 1 + (withN p.l i p.l.length).size ≤ 9223372036854775807 := by omega
  have b8 : (textN p i).size + (gi p.funs i).name.size + 1 + (joinF (gi p.funs i).params).size + 2 + (gi p.funs i).ret.size + 1 + (withN p.l i p.l.length).size + 1 ≤ 9223372036854775807 := by omega
  simp (maxSteps := 3000000) [-List.length_flatten,-List.map_drop,-List.map_take,Function.comp_def,argsT,Opd.ev,Tm.get,put,ares,mapMo,ares1,snilP,bldParts,bslParts,putAt,AV.cells,AV.one,astore,aload,loadCs,callArgs,abin,abinInt,aapp,elems,appMore,appNone,preLen,aFa,aFld,apart,aExt,aPick,aNot,aLens,aEqa,cellsK,fitsA,LK.fitsA,leavesA,leafA,nilD,aNilc,aCint,aCid,alive,alen,alenOk,Rle,lePs,len_flat, h1, hA, a1, a2, a3, a4, b1, b2, ByteArray.size_append]
  refine ⟨_, join_PF _ (hf _ (gi_mem h1)), ?_⟩
  simp (maxSteps := 3000000) [-List.length_flatten,-List.map_drop,-List.map_take,Function.comp_def,argsT,Opd.ev,Tm.get,put,ares,mapMo,ares1,snilP,bldParts,bslParts,putAt,AV.cells,AV.one,astore,aload,loadCs,callArgs,abin,abinInt,aapp,elems,appMore,appNone,preLen,aFa,aFld,apart,aExt,aPick,aNot,aLens,aEqa,cellsK,fitsA,LK.fitsA,leavesA,leafA,nilD,aNilc,aCint,aCid,alive,alen,alenOk,Rle,lePs,len_flat, Kc, a1, a2, a3, a4, b3, b4, b5, b6, ByteArray.size_append]
  refine ⟨_, within_PF p i (by omega) h.s hs, ?_⟩
  simp (maxSteps := 3000000) [-List.length_flatten,-List.map_drop,-List.map_take,Function.comp_def,argsT,Opd.ev,Tm.get,put,ares,mapMo,ares1,snilP,bldParts,bslParts,putAt,AV.cells,AV.one,astore,aload,loadCs,callArgs,abin,abinInt,aapp,elems,appMore,appNone,preLen,aFa,aFld,apart,aExt,aPick,aNot,aLens,aEqa,cellsK,fitsA,LK.fitsA,leavesA,leafA,nilD,aNilc,aCint,aCid,alive,alen,alenOk,Rle,lePs,len_flat, Kc, a1, a2, a3, a4, b7, b8, ByteArray.size_append]
  exact nx _ _ (by simp [Tm.get, nxt h1 hA, textN])
 ·have : i = p.funs.length := by omega
  subst this
  have h2 := textN_size h _ hi
  have h4 := withN_size (inn := -1) h.s p.l.length (by omega)
  have b1 : (textN p p.funs.length).size + (withN p.l (-1) p.l.length).size ≤ 9223372036854775807 := by omega
  simp (maxSteps := 3000000) [-List.length_flatten,-List.map_drop,-List.map_take,Function.comp_def,argsT,Opd.ev,Tm.get,put,ares,mapMo,ares1,snilP,bldParts,bslParts,putAt,AV.cells,AV.one,astore,aload,loadCs,callArgs,abin,abinInt,aapp,elems,appMore,appNone,preLen,aFa,aFld,apart,aExt,aPick,aNot,aLens,aEqa,cellsK,fitsA,LK.fitsA,leavesA,leafA,nilD,aNilc,aCint,aCid,alive,alen,alenOk,Rle,lePs,len_flat, h1, hA, kx]
  refine PF.call (within_PF p (-1) (by omega) h.s hs) 9 (by simp [lePs, -List.length_flatten, -List.map_drop, -List.map_take, Function.comp_def, len_flat]) ?_
  simp (maxSteps := 3000000) [-List.length_flatten,-List.map_drop,-List.map_take,Function.comp_def,argsT,Opd.ev,Tm.get,put,ares,mapMo,ares1,snilP,bldParts,bslParts,putAt,AV.cells,AV.one,astore,aload,loadCs,callArgs,abin,abinInt,aapp,elems,appMore,appNone,preLen,aFa,aFld,apart,aExt,aPick,aNot,aLens,aEqa,cellsK,fitsA,LK.fitsA,leavesA,leafA,nilD,aNilc,aCint,aCid,alive,alen,alenOk,Rle,lePs,len_flat, Kc, b1]
  exact hR.symm
end Go.AM

namespace Go.AM
open Go.Proofs
set_option maxRecDepth 100000
set_option linter.unusedVariables false
set_option linter.unusedSimpArgs false
theorem texts_PF (a b : List ByteArray) (h : a.length ≤ lm) (h' : b.length ≤ lm) : PF Tryz.prog 77 [strs a, strs b] (.bool (decide (a = b))) := by
 refine PFk 9 hm Tryz.func77 c77_ok (Nat.le_of_ble_eq_true rfl) (by simp) (by simp) ?_
 have hA : a.length ≤ maxA := by unfold maxA; unfold lm at h; omega
 have hB : b.length ≤ maxA := by unfold maxA; unfold lm at h'; omega
 by_cases hl : a.length = b.length
 ·simp (maxSteps := 3000000) [-List.length_flatten,-List.map_drop,-List.map_take,Function.comp_def,argsT,Opd.ev,Tm.get,put,ares,mapMo,ares1,snilP,bldParts,bslParts,putAt,AV.cells,AV.one,astore,aload,loadCs,callArgs,abin,abinInt,aapp,elems,appMore,appNone,preLen,aFa,aFld,apart,aExt,aPick,aNot,aLens,aEqa,cellsK,fitsA,LK.fitsA,leavesA,leafA,nilD,aNilc,aCint,aCid,alive,alen,alenOk,Rle,lePs,len_flat, c77, hA, hB, hl]
  refine run_countK a.length 5 [(0, strs a), (1, strs b)] [] (fun i => ∀ j : Nat, j < i → gi a j = gi b j) (Wk.sub (by simp [Tm.get])) (fun j hj => by omega) ?_
  intro i hi hj KK kx kr kn
  by_cases h1 : i < a.length
  ·have h2 : i < b.length := by omega
   by_cases he : gi a i = gi b i
   ·simp (maxSteps := 3000000) [-List.length_flatten,-List.map_drop,-List.map_take,Function.comp_def,argsT,Opd.ev,Tm.get,put,ares,mapMo,ares1,snilP,bldParts,bslParts,putAt,AV.cells,AV.one,astore,aload,loadCs,callArgs,abin,abinInt,aapp,elems,appMore,appNone,preLen,aFa,aFld,apart,aExt,aPick,aNot,aLens,aEqa,cellsK,fitsA,LK.fitsA,leavesA,leafA,nilD,aNilc,aCint,aCid,alive,alen,alenOk,Rle,lePs,len_flat, h1, h2, hA, he]
    refine kn _ _ (Kn_next 0 (by omega) (by omega) (fun j hl => ?_) (by simp [Tm.get, nxt h1 hA]) (by simp) rfl (by simp))
    rcases Nat.lt_or_ge j i with h3 | h3
    ·exact hj j h3
    ·have : j = i := by omega
     subst this
     exact he
   ·have hne : ¬ a = b := fun e => he (by rw [e])
    simp (maxSteps := 3000000) [-List.length_flatten,-List.map_drop,-List.map_take,Function.comp_def,argsT,Opd.ev,Tm.get,put,ares,mapMo,ares1,snilP,bldParts,bslParts,putAt,AV.cells,AV.one,astore,aload,loadCs,callArgs,abin,abinInt,aapp,elems,appMore,appNone,preLen,aFa,aFld,apart,aExt,aPick,aNot,aLens,aEqa,cellsK,fitsA,LK.fitsA,leavesA,leafA,nilD,aNilc,aCint,aCid,alive,alen,alenOk,Rle,lePs,len_flat, h1, h2, hA, he, kr]
    simp [hne]
  ·have : a = b := eq_gi hl (fun j hjl => hj j (by omega))
   simp (maxSteps := 3000000) [-List.length_flatten,-List.map_drop,-List.map_take,Function.comp_def,argsT,Opd.ev,Tm.get,put,ares,mapMo,ares1,snilP,bldParts,bslParts,putAt,AV.cells,AV.one,astore,aload,loadCs,callArgs,abin,abinInt,aapp,elems,appMore,appNone,preLen,aFa,aFld,apart,aExt,aPick,aNot,aLens,aEqa,cellsK,fitsA,LK.fitsA,leavesA,leafA,nilD,aNilc,aCint,aCid,alive,alen,alenOk,Rle,lePs,len_flat, h1, hA, kx]
   simp [this]
 ·have hne : ¬ a = b := fun e => hl (by rw [e])
  have hl' : ¬ (a.length : Int) = b.length := by omega
  simp (maxSteps := 3000000) [-List.length_flatten,-List.map_drop,-List.map_take,Function.comp_def,argsT,Opd.ev,Tm.get,put,ares,mapMo,ares1,snilP,bldParts,bslParts,putAt,AV.cells,AV.one,astore,aload,loadCs,callArgs,abin,abinInt,aapp,elems,appMore,appNone,preLen,aFa,aFld,apart,aExt,aPick,aNot,aLens,aEqa,cellsK,fitsA,LK.fitsA,leavesA,leafA,nilD,aNilc,aCint,aCid,alive,alen,alenOk,Rle,lePs,len_flat, c77, hA, hB, hl']
  simp [hne]
def q47 (p q : Pg) (r : AV) : Prop := ∃ b, r = .bool b ∧ (b = true → p = q)
theorem same_E (p q : Pg) (hp : p.funs.length ≤ lm ∧ p.l.length ≤ lm ∧ (∀ f ∈ p.funs, f.params.length ≤ lm) ∧ ∀ s ∈ p.l, s.args.length ≤ lm) (hq : q.funs.length ≤ lm ∧ q.l.length ≤ lm ∧ (∀ f ∈ q.funs, f.params.length ≤ lm) ∧ ∀ s ∈ q.l, s.args.length ≤ lm) : PFE Tryz.prog 47 [.agg p.cs, .agg q.cs] (q47 p q) := by
 refine PFEk 9 hm Tryz.func47 c47_ok (Nat.le_of_ble_eq_true rfl) (by simp) (by rintro r ⟨b, rfl, _⟩; simp) ?_
 obtain ⟨p1, p2, p3, p4⟩ := hp
 obtain ⟨q1, q2, q3, q4⟩ := hq
 have no : ∀ H, RleE 9 (q47 p q) (.bool false) H := fun H => .of (.bool false) ⟨false, rfl, fun h => by cases h⟩ (by simp [lePs, -List.length_flatten, -List.map_drop, -List.map_take, Function.comp_def, len_flat])
 have a1 : p.funs.length ≤ maxA := by unfold maxA; unfold lm at p1; omega
 have a2 : p.l.length ≤ maxA := by unfold maxA; unfold lm at p2; omega
 have b1 : q.funs.length ≤ maxA := by unfold maxA; unfold lm at q1; omega
 have b2 : q.l.length ≤ maxA := by unfold maxA; unfold lm at q2; omega
 by_cases h1 : p.funs.length = q.funs.length
 ·by_cases h2 : p.l.length = q.l.length
  ·simp (maxSteps := 3000000) [-List.length_flatten,-List.map_drop,-List.map_take,Function.comp_def,argsT,Opd.ev,Tm.get,put,ares,mapMo,ares1,snilP,bldParts,bslParts,putAt,AV.cells,AV.one,astore,aload,loadCs,callArgs,abin,abinInt,aapp,elems,appMore,appNone,preLen,aFa,aFld,apart,aExt,aPick,aNot,aLens,aEqa,cellsK,fitsA,LK.fitsA,leavesA,leafA,nilD,aNilc,aCint,aCid,alive,alen,alenOk,Rle,lePs,len_flat, c47, a1, a2, b1, b2, h1, h2]
   refine run_countK p.funs.length 5 [(2, .ptr 0 0 0), (3, .ptr 1 0 0)] [.cells 0 p.cs, .cells 0 q.cs] (fun i => ∀ j : Nat, j < i → gi p.funs j = gi q.funs j) (Wk.sub (by simp [Tm.get])) (fun j hj => by omega) ?_
   intro i hi hj KK kx kr kn
   by_cases h3 : i < p.funs.length
   ·have h4 : i < q.funs.length := by omega
    simp (maxSteps := 3000000) [-List.length_flatten,-List.map_drop,-List.map_take,Function.comp_def,argsT,Opd.ev,Tm.get,put,ares,mapMo,ares1,snilP,bldParts,bslParts,putAt,AV.cells,AV.one,astore,aload,loadCs,callArgs,abin,abinInt,aapp,elems,appMore,appNone,preLen,aFa,aFld,apart,aExt,aPick,aNot,aLens,aEqa,cellsK,fitsA,LK.fitsA,leavesA,leafA,nilD,aNilc,aCint,aCid,alive,alen,alenOk,Rle,lePs,len_flat, a1, b1, h3, h4]
    refine ⟨_, texts_PF _ _ (p3 _ (gi_mem h3)) (q3 _ (gi_mem h4)), ?_⟩
    by_cases he : (gi p.funs i).params = (gi q.funs i).params
    ·by_cases he2 : (gi p.funs i).name = (gi q.funs i).name
     ·by_cases he3 : (gi p.funs i).ret = (gi q.funs i).ret
      ·simp (maxSteps := 3000000) [-List.length_flatten,-List.map_drop,-List.map_take,Function.comp_def,argsT,Opd.ev,Tm.get,put,ares,mapMo,ares1,snilP,bldParts,bslParts,putAt,AV.cells,AV.one,astore,aload,loadCs,callArgs,abin,abinInt,aapp,elems,appMore,appNone,preLen,aFa,aFld,apart,aExt,aPick,aNot,aLens,aEqa,cellsK,fitsA,LK.fitsA,leavesA,leafA,nilD,aNilc,aCint,aCid,alive,alen,alenOk,Rle,lePs,len_flat, Kc, a1, b1, h3, h4, he, he2, he3]
       refine kn _ _ (Kn_next 2 (by omega) (by omega) (fun j hl => ?_) (by simp [Tm.get, nxt h3 a1]) (by simp) rfl (by simp [RLB]))
       rcases Nat.lt_or_ge j i with h5 | h5
       ·exact hj j h5
       ·have : j = i := by omega
        subst this
        generalize gi p.funs j = x at *
        generalize gi q.funs j = y at *
        cases x; cases y
        simp_all
      ·simp (maxSteps := 3000000) [-List.length_flatten,-List.map_drop,-List.map_take,Function.comp_def,argsT,Opd.ev,Tm.get,put,ares,mapMo,ares1,snilP,bldParts,bslParts,putAt,AV.cells,AV.one,astore,aload,loadCs,callArgs,abin,abinInt,aapp,elems,appMore,appNone,preLen,aFa,aFld,apart,aExt,aPick,aNot,aLens,aEqa,cellsK,fitsA,LK.fitsA,leavesA,leafA,nilD,aNilc,aCint,aCid,alive,alen,alenOk,Rle,lePs,len_flat, Kc, a1, b1, h3, h4, he, he2, he3, kr]
       exact no _
     ·simp (maxSteps := 3000000) [-List.length_flatten,-List.map_drop,-List.map_take,Function.comp_def,argsT,Opd.ev,Tm.get,put,ares,mapMo,ares1,snilP,bldParts,bslParts,putAt,AV.cells,AV.one,astore,aload,loadCs,callArgs,abin,abinInt,aapp,elems,appMore,appNone,preLen,aFa,aFld,apart,aExt,aPick,aNot,aLens,aEqa,cellsK,fitsA,LK.fitsA,leavesA,leafA,nilD,aNilc,aCint,aCid,alive,alen,alenOk,Rle,lePs,len_flat, Kc, a1, b1, h3, h4, he, he2, kr]
      exact no _
    ·simp (maxSteps := 3000000) [-List.length_flatten,-List.map_drop,-List.map_take,Function.comp_def,argsT,Opd.ev,Tm.get,put,ares,mapMo,ares1,snilP,bldParts,bslParts,putAt,AV.cells,AV.one,astore,aload,loadCs,callArgs,abin,abinInt,aapp,elems,appMore,appNone,preLen,aFa,aFld,apart,aExt,aPick,aNot,aLens,aEqa,cellsK,fitsA,LK.fitsA,leavesA,leafA,nilD,aNilc,aCint,aCid,alive,alen,alenOk,Rle,lePs,len_flat, Kc, a1, b1, h3, h4, he, kr]
     exact no _
   ·have hF : p.funs = q.funs := eq_gi h1 (fun j hjl => hj j (by omega))
    simp (maxSteps := 3000000) [-List.length_flatten,-List.map_drop,-List.map_take,Function.comp_def,argsT,Opd.ev,Tm.get,put,ares,mapMo,ares1,snilP,bldParts,bslParts,putAt,AV.cells,AV.one,astore,aload,loadCs,callArgs,abin,abinInt,aapp,elems,appMore,appNone,preLen,aFa,aFld,apart,aExt,aPick,aNot,aLens,aEqa,cellsK,fitsA,LK.fitsA,leavesA,leafA,nilD,aNilc,aCint,aCid,alive,alen,alenOk,Rle,lePs,len_flat, a1, b1, h3, kx]
    refine run_countK p.l.length 7 [(2, .ptr 0 0 0), (3, .ptr 1 0 0)] [.cells 0 p.cs, .cells 0 q.cs] (fun i => ∀ j : Nat, j < i → gi p.l j = gi q.l j) (Wk.sub (by simp [Tm.get])) (fun j hj => by omega) ?_
    clear hj kx kr kn
    intro i hi hj KK kx kr kn
    by_cases h3 : i < p.l.length
    ·have h4 : i < q.l.length := by omega
     simp (maxSteps := 3000000) [-List.length_flatten,-List.map_drop,-List.map_take,Function.comp_def,argsT,Opd.ev,Tm.get,put,ares,mapMo,ares1,snilP,bldParts,bslParts,putAt,AV.cells,AV.one,astore,aload,loadCs,callArgs,abin,abinInt,aapp,elems,appMore,appNone,preLen,aFa,aFld,apart,aExt,aPick,aNot,aLens,aEqa,cellsK,fitsA,LK.fitsA,leavesA,leafA,nilD,aNilc,aCint,aCid,alive,alen,alenOk,Rle,lePs,len_flat, a2, b2, h3, h4]
     refine PF.call (texts_PF _ _ (p4 _ (gi_mem h3)) (q4 _ (gi_mem h4))) 9 (by simp [lePs, -List.length_flatten, -List.map_drop, -List.map_take, Function.comp_def, len_flat]) ?_
     have nx : ∀ T x y, al (fun p => T.get p.1 = p.2) [(7, i64 (i + 1 : Nat)), (2, .ptr 0 0 0), (3, .ptr 1 0 0)] → gi p.l i = gi q.l i → KK .normal T [.cells 0 p.cs, .cells 0 q.cs, x, y] := fun T x y ht he =>
      kn _ _ (Kn_next 2 (by omega) (by omega) (fun j hl => by
       rcases Nat.lt_or_ge j i with h5 | h5
       ·exact hj j h5
       ·have : j = i := by omega
        subst this
        exact he) ht (by simp) rfl (by simp [RLB]))
     have rt : ∀ T H, T.get 4 = .bool false → KK .ret T H := fun T H ht => by
      simp (maxSteps := 3000000) [-List.length_flatten,-List.map_drop,-List.map_take,Function.comp_def,argsT,Opd.ev,Tm.get,put,ares,mapMo,ares1,snilP,bldParts,bslParts,putAt,AV.cells,AV.one,astore,aload,loadCs,callArgs,abin,abinInt,aapp,elems,appMore,appNone,preLen,aFa,aFld,apart,aExt,aPick,aNot,aLens,aEqa,cellsK,fitsA,LK.fitsA,leavesA,leafA,nilD,aNilc,aCint,aCid,alive,alen,alenOk,Rle,lePs,len_flat, kr, ht]
      exact no _
     generalize gi p.l i = x at *
     generalize gi q.l i = y at *
     obtain ⟨xk, xi, xx, xy, xa, xn⟩ := x
     obtain ⟨yk, yi, yx, yy, ya, yn⟩ := y
     by_cases e1 : xa = ya
     ·by_cases e2 : xk = yk
      ·by_cases e3 : xi = yi
       ·by_cases e4 : xx = yx
        ·by_cases e5 : xy = yy
         ·by_cases e6 : xn = yn
          ·simp (maxSteps := 3000000) [-List.length_flatten,-List.map_drop,-List.map_take,Function.comp_def,argsT,Opd.ev,Tm.get,put,ares,mapMo,ares1,snilP,bldParts,bslParts,putAt,AV.cells,AV.one,astore,aload,loadCs,callArgs,abin,abinInt,aapp,elems,appMore,appNone,preLen,aFa,aFld,apart,aExt,aPick,aNot,aLens,aEqa,cellsK,fitsA,LK.fitsA,leavesA,leafA,nilD,aNilc,aCint,aCid,alive,alen,alenOk,Rle,lePs,len_flat, Kc, e1, e2, e3, e4, e5, e6]
           exact nx _ _ _ (by simp [Tm.get, nxt h3 a2]) (by simp [e1, e2, e3, e4, e5, e6])
          ·simp (maxSteps := 3000000) [-List.length_flatten,-List.map_drop,-List.map_take,Function.comp_def,argsT,Opd.ev,Tm.get,put,ares,mapMo,ares1,snilP,bldParts,bslParts,putAt,AV.cells,AV.one,astore,aload,loadCs,callArgs,abin,abinInt,aapp,elems,appMore,appNone,preLen,aFa,aFld,apart,aExt,aPick,aNot,aLens,aEqa,cellsK,fitsA,LK.fitsA,leavesA,leafA,nilD,aNilc,aCint,aCid,alive,alen,alenOk,Rle,lePs,len_flat, Kc, e1, e2, e3, e4, e5, e6]
           exact rt _ _ (by simp [Tm.get])
         ·simp (maxSteps := 3000000) [-List.length_flatten,-List.map_drop,-List.map_take,Function.comp_def,argsT,Opd.ev,Tm.get,put,ares,mapMo,ares1,snilP,bldParts,bslParts,putAt,AV.cells,AV.one,astore,aload,loadCs,callArgs,abin,abinInt,aapp,elems,appMore,appNone,preLen,aFa,aFld,apart,aExt,aPick,aNot,aLens,aEqa,cellsK,fitsA,LK.fitsA,leavesA,leafA,nilD,aNilc,aCint,aCid,alive,alen,alenOk,Rle,lePs,len_flat, Kc, e1, e2, e3, e4, e5]
          exact rt _ _ (by simp [Tm.get])
        ·simp (maxSteps := 3000000) [-List.length_flatten,-List.map_drop,-List.map_take,Function.comp_def,argsT,Opd.ev,Tm.get,put,ares,mapMo,ares1,snilP,bldParts,bslParts,putAt,AV.cells,AV.one,astore,aload,loadCs,callArgs,abin,abinInt,aapp,elems,appMore,appNone,preLen,aFa,aFld,apart,aExt,aPick,aNot,aLens,aEqa,cellsK,fitsA,LK.fitsA,leavesA,leafA,nilD,aNilc,aCint,aCid,alive,alen,alenOk,Rle,lePs,len_flat, Kc, e1, e2, e3, e4]
         exact rt _ _ (by simp [Tm.get])
       ·simp (maxSteps := 3000000) [-List.length_flatten,-List.map_drop,-List.map_take,Function.comp_def,argsT,Opd.ev,Tm.get,put,ares,mapMo,ares1,snilP,bldParts,bslParts,putAt,AV.cells,AV.one,astore,aload,loadCs,callArgs,abin,abinInt,aapp,elems,appMore,appNone,preLen,aFa,aFld,apart,aExt,aPick,aNot,aLens,aEqa,cellsK,fitsA,LK.fitsA,leavesA,leafA,nilD,aNilc,aCint,aCid,alive,alen,alenOk,Rle,lePs,len_flat, Kc, e1, e2, e3]
        exact rt _ _ (by simp [Tm.get])
      ·simp (maxSteps := 3000000) [-List.length_flatten,-List.map_drop,-List.map_take,Function.comp_def,argsT,Opd.ev,Tm.get,put,ares,mapMo,ares1,snilP,bldParts,bslParts,putAt,AV.cells,AV.one,astore,aload,loadCs,callArgs,abin,abinInt,aapp,elems,appMore,appNone,preLen,aFa,aFld,apart,aExt,aPick,aNot,aLens,aEqa,cellsK,fitsA,LK.fitsA,leavesA,leafA,nilD,aNilc,aCint,aCid,alive,alen,alenOk,Rle,lePs,len_flat, Kc, e1, e2]
       exact rt _ _ (by simp [Tm.get])
     ·simp (maxSteps := 3000000) [-List.length_flatten,-List.map_drop,-List.map_take,Function.comp_def,argsT,Opd.ev,Tm.get,put,ares,mapMo,ares1,snilP,bldParts,bslParts,putAt,AV.cells,AV.one,astore,aload,loadCs,callArgs,abin,abinInt,aapp,elems,appMore,appNone,preLen,aFa,aFld,apart,aExt,aPick,aNot,aLens,aEqa,cellsK,fitsA,LK.fitsA,leavesA,leafA,nilD,aNilc,aCint,aCid,alive,alen,alenOk,Rle,lePs,len_flat, Kc, e1]
      exact rt _ _ (by simp [Tm.get])
    ·have hL : p.l = q.l := eq_gi h2 (fun j hjl => hj j (by omega))
     simp (maxSteps := 3000000) [-List.length_flatten,-List.map_drop,-List.map_take,Function.comp_def,argsT,Opd.ev,Tm.get,put,ares,mapMo,ares1,snilP,bldParts,bslParts,putAt,AV.cells,AV.one,astore,aload,loadCs,callArgs,abin,abinInt,aapp,elems,appMore,appNone,preLen,aFa,aFld,apart,aExt,aPick,aNot,aLens,aEqa,cellsK,fitsA,LK.fitsA,leavesA,leafA,nilD,aNilc,aCint,aCid,alive,alen,alenOk,Rle,lePs,len_flat, a2, b2, h3, kx]
     refine .of (.bool true) ⟨true, rfl, fun _ => ?_⟩ (by simp [lePs, -List.length_flatten, -List.map_drop, -List.map_take, Function.comp_def, len_flat])
     cases p; cases q
     simp_all
  ·have h2' : ¬ (p.l.length : Int) = q.l.length := by omega
   simp (maxSteps := 3000000) [-List.length_flatten,-List.map_drop,-List.map_take,Function.comp_def,argsT,Opd.ev,Tm.get,put,ares,mapMo,ares1,snilP,bldParts,bslParts,putAt,AV.cells,AV.one,astore,aload,loadCs,callArgs,abin,abinInt,aapp,elems,appMore,appNone,preLen,aFa,aFld,apart,aExt,aPick,aNot,aLens,aEqa,cellsK,fitsA,LK.fitsA,leavesA,leafA,nilD,aNilc,aCint,aCid,alive,alen,alenOk,Rle,lePs,len_flat, c47, a1, a2, b1, b2, h1, h2']
   exact no _
 ·have h1' : ¬ (p.funs.length : Int) = q.funs.length := by omega
  simp (maxSteps := 3000000) [-List.length_flatten,-List.map_drop,-List.map_take,Function.comp_def,argsT,Opd.ev,Tm.get,put,ares,mapMo,ares1,snilP,bldParts,bslParts,putAt,AV.cells,AV.one,astore,aload,loadCs,callArgs,abin,abinInt,aapp,elems,appMore,appNone,preLen,aFa,aFld,apart,aExt,aPick,aNot,aLens,aEqa,cellsK,fitsA,LK.fitsA,leavesA,leafA,nilD,aNilc,aCint,aCid,alive,alen,alenOk,Rle,lePs,len_flat, c47, a1, a2, b1, b2, h1']
  exact no _
end Go.AM

namespace Go.AM
open Go.Proofs
set_option maxRecDepth 100000
set_option linter.unusedVariables false
set_option linter.unusedSimpArgs false
/-- What comes in is of some bulk. -/
structure SmallP (p : Pg) : Prop where
 funs : p.funs.length ≤ lm
 l : p.l.length ≤ lm
 name : ∀ f ∈ p.funs, f.name.size ≤ lm ∧ f.ret.size ≤ lm ∧ smallL f.params
 stm : ∀ s ∈ p.l, s.x.size ≤ lm ∧ s.y.size ≤ lm ∧ smallL s.args
theorem join_size {l : List ByteArray} (h : smallL l) : (joinF l).size ≤ 1099512676352 := by
 have h1 := joinN_size h l.length (Nat.le_refl _)
 have h2 := h.1
 unfold joinF
 unfold lm at h2
 have : l.length * 1048577 ≤ 1048576 * 1048577 := Nat.mul_le_mul_right _ h2
 omega
def q23 (p : Pg) (r : AV) : Prop := ∃ b, r = .bool b ∧ (b = true → FewP p)
theorem few_E (p : Pg) (hp : SmallP p) : PFE Tryz.prog 17 [.agg p.cs] (q23 p) := by
 refine PFEk 9 hm Tryz.func17 c17_ok (Nat.le_of_ble_eq_true rfl) (by simp) (by rintro r ⟨b, rfl, _⟩; simp) ?_
 have p1 := hp.funs
 have p2 := hp.l
 have a1 : p.funs.length ≤ maxA := by unfold maxA; unfold lm at p1; omega
 have a2 : p.l.length ≤ maxA := by unfold maxA; unfold lm at p2; omega
 have w0 : IntKind.i64.wrap ((p.funs.length : Int) + p.l.length) = p.funs.length + p.l.length := by unfold lm at p1 p2; rw [w64 (by omega) (by omega)]
 simp (maxSteps := 3000000) [-List.length_flatten,-List.map_drop,-List.map_take,Function.comp_def,argsT,Opd.ev,Tm.get,put,ares,mapMo,ares1,snilP,bldParts,bslParts,putAt,AV.cells,AV.one,astore,aload,loadCs,callArgs,abin,abinInt,aapp,elems,appMore,appNone,preLen,aFa,aFld,apart,aExt,aPick,aNot,aLens,aEqa,cellsK,fitsA,LK.fitsA,leavesA,leafA,nilD,aNilc,aCint,aCid,alive,alen,alenOk,Rle,lePs,len_flat, c17, a1, a2, w0]
 refine run_loopK (fun m T H => ∃ i n : Nat, m = p.funs.length - i ∧ i ≤ p.funs.length ∧ n ≤ 9000000000000 ∧ (n ≤ 2000 → p.funs.length + p.l.length ≤ 2000 ∧ ∀ f ∈ p.funs.take i, FewF f) ∧ T = [(4, i64 i), (3, i64 n), (1, .ptr 0 0 0)] ∧ H = [.cells 0 p.cs]) p.funs.length
  [(4, i64 (0 : Nat)), (3, i64 (p.funs.length + p.l.length : Nat)), (1, .ptr 0 0 0)] [.cells 0 p.cs] (Wk.sub (by simp [Tm.get])) ⟨0, p.funs.length + p.l.length, rfl, by omega, by unfold lm at p1 p2; omega, fun h => ⟨h, by simp⟩, rfl, rfl⟩ ?_
 rintro m T H ⟨i, n, rfl, hi, hn, hf, rfl, rfl⟩ KK kx kr kn
 refine by_run Tryz.prog 0 ?c ?K (fun T H => ∃ n : Nat, n ≤ 9000000000000 ∧ (n ≤ 2000 → p.funs.length + p.l.length ≤ 2000 ∧ ∀ f ∈ p.funs, FewF f) ∧ (T.get 3 = i64 n ∧ T.get 1 = .ptr 0 0 0 ∧ T.get 5 = i64 (0 : Nat)) ∧ H = [.cells 0 p.cs]) (fun key => ?main) ?sub
 case main =>
  by_cases h3 : i < p.funs.length
  ·by_cases h4 : (n : Int) ≤ 2000
   ·obtain ⟨s1, s2, s3⟩ := hp.name _ (gi_mem h3)
    have s4 := join_size s3
    have e1 : IntKind.i64.wrap ((n : Int) + (gi p.funs i).name.size) = n + (gi p.funs i).name.size := by unfold lm at s1 s2; rw [w64 (by omega) (by omega)]
    have e2 : IntKind.i64.wrap ((n : Int) + (gi p.funs i).name.size + (gi p.funs i).ret.size) = n + (gi p.funs i).name.size + (gi p.funs i).ret.size := by unfold lm at s1 s2; rw [w64 (by omega) (by omega)]
    have e3 : IntKind.i64.wrap ((n : Int) + (gi p.funs i).name.size + (gi p.funs i).ret.size + (joinF (gi p.funs i).params).size) = n + (gi p.funs i).name.size + (gi p.funs i).ret.size + (joinF (gi p.funs i).params).size := by unfold lm at s1 s2; rw [w64 (by omega) (by omega)]
    have z1 : (gi p.funs i).name.size ≤ 9223372036854775807 := by unfold lm at s1; omega
    have z2 : (gi p.funs i).ret.size ≤ 9223372036854775807 := by unfold lm at s2; omega
    have z3 : (joinF (gi p.funs i).params).size ≤ 9223372036854775807 := by omega
    have h4' : n ≤ 2000 := by omega
    simp (maxSteps := 3000000) [-List.length_flatten,-List.map_drop,-List.map_take,Function.comp_def,argsT,Opd.ev,Tm.get,put,ares,mapMo,ares1,snilP,bldParts,bslParts,putAt,AV.cells,AV.one,astore,aload,loadCs,callArgs,abin,abinInt,aapp,elems,appMore,appNone,preLen,aFa,aFld,apart,aExt,aPick,aNot,aLens,aEqa,cellsK,fitsA,LK.fitsA,leavesA,leafA,nilD,aNilc,aCint,aCid,alive,alen,alenOk,Rle,lePs,len_flat, h3, h4, h4', a1, e1, e2, z1, z2]
    refine ⟨_, join_PF _ s3, ?_⟩
    simp (maxSteps := 3000000) [-List.length_flatten,-List.map_drop,-List.map_take,Function.comp_def,argsT,Opd.ev,Tm.get,put,ares,mapMo,ares1,snilP,bldParts,bslParts,putAt,AV.cells,AV.one,astore,aload,loadCs,callArgs,abin,abinInt,aapp,elems,appMore,appNone,preLen,aFa,aFld,apart,aExt,aPick,aNot,aLens,aEqa,cellsK,fitsA,LK.fitsA,leavesA,leafA,nilD,aNilc,aCint,aCid,alive,alen,alenOk,Rle,lePs,len_flat, Kc, e3, z3]
    exact kn _ _ (Kl_sub (p.funs.length - (i + 1)) (T' := [(4, i64 (i + 1 : Nat)), (3, i64 (n + (gi p.funs i).name.size + (gi p.funs i).ret.size + (joinF (gi p.funs i).params).size : Nat)), (1, .ptr 0 0 0)]) ⟨i + 1, _, rfl, by omega, by unfold lm at s1 s2; omega, fun hh => ⟨(hf h4').1, fun f hfm => by
     rw [take_next h3] at hfm
     simp at hfm
     rcases hfm with hfm | rfl
     ·exact (hf h4').2 f hfm
     ·exact ⟨by omega, by omega, by omega⟩⟩, rfl, rfl⟩ (by simp [Tm.get, nxt h3 a1]) (by omega))
   ·have h4' : ¬ n ≤ 2000 := by omega
    simp (maxSteps := 3000000) [-List.length_flatten,-List.map_drop,-List.map_take,Function.comp_def,argsT,Opd.ev,Tm.get,put,ares,mapMo,ares1,snilP,bldParts,bslParts,putAt,AV.cells,AV.one,astore,aload,loadCs,callArgs,abin,abinInt,aapp,elems,appMore,appNone,preLen,aFa,aFld,apart,aExt,aPick,aNot,aLens,aEqa,cellsK,fitsA,LK.fitsA,leavesA,leafA,nilD,aNilc,aCint,aCid,alive,alen,alenOk,Rle,lePs,len_flat, h3, h4, h4', a1, kx]
    refine key _ _ ?_
    exact ⟨n, hn, fun h => absurd h h4', ⟨rfl, rfl, rfl⟩, rfl⟩
  ·have : p.funs.take i = p.funs := List.take_of_length_le (by omega)
   rw [this] at hf
   simp (maxSteps := 3000000) [-List.length_flatten,-List.map_drop,-List.map_take,Function.comp_def,argsT,Opd.ev,Tm.get,put,ares,mapMo,ares1,snilP,bldParts,bslParts,putAt,AV.cells,AV.one,astore,aload,loadCs,callArgs,abin,abinInt,aapp,elems,appMore,appNone,preLen,aFa,aFld,apart,aExt,aPick,aNot,aLens,aEqa,cellsK,fitsA,LK.fitsA,leavesA,leafA,nilD,aNilc,aCint,aCid,alive,alen,alenOk,Rle,lePs,len_flat, h3, a1, kx]
   refine key _ _ ?_
   exact ⟨n, hn, hf, ⟨rfl, rfl, rfl⟩, rfl⟩
 case sub =>
  clear kx kr kn hf hn
  rintro T _ ⟨n, hn, hf, ⟨t3, t1, t5⟩, rfl⟩
  refine run_loopK (fun m T H => ∃ i n : Nat, m = p.l.length - i ∧ i ≤ p.l.length ∧ n ≤ 9000000000000 ∧ (n ≤ 2000 → (p.funs.length + p.l.length ≤ 2000 ∧ ∀ f ∈ p.funs, FewF f) ∧ ∀ s ∈ p.l.take i, FewS s) ∧ T = [(5, i64 i), (3, i64 n), (1, .ptr 0 0 0)] ∧ H = [.cells 0 p.cs]) p.l.length
   [(5, i64 (0 : Nat)), (3, i64 n), (1, .ptr 0 0 0)] [.cells 0 p.cs] (Wk.sub (by simp [t3, t1, t5])) ⟨0, n, rfl, by omega, hn, fun h => ⟨hf h, by simp⟩, rfl, rfl⟩ ?_
  clear t3 t1 t5 hf hn
  rintro m T H ⟨i, n, rfl, hi, hn, hf, rfl, rfl⟩ KK kx kr kn
  by_cases h3 : i < p.l.length
  ·by_cases h4 : (n : Int) ≤ 2000
   ·obtain ⟨s1, s2, s3⟩ := hp.stm _ (gi_mem h3)
    have s4 := join_size s3
    have e1 : IntKind.i64.wrap ((n : Int) + (gi p.l i).x.size) = n + (gi p.l i).x.size := by unfold lm at s1 s2; rw [w64 (by omega) (by omega)]
    have e2 : IntKind.i64.wrap ((n : Int) + (gi p.l i).x.size + (gi p.l i).y.size) = n + (gi p.l i).x.size + (gi p.l i).y.size := by unfold lm at s1 s2; rw [w64 (by omega) (by omega)]
    have e3 : IntKind.i64.wrap ((n : Int) + (gi p.l i).x.size + (gi p.l i).y.size + (joinF (gi p.l i).args).size) = n + (gi p.l i).x.size + (gi p.l i).y.size + (joinF (gi p.l i).args).size := by unfold lm at s1 s2; rw [w64 (by omega) (by omega)]
    have z1 : (gi p.l i).x.size ≤ 9223372036854775807 := by unfold lm at s1; omega
    have z2 : (gi p.l i).y.size ≤ 9223372036854775807 := by unfold lm at s2; omega
    have z3 : (joinF (gi p.l i).args).size ≤ 9223372036854775807 := by omega
    have h4' : n ≤ 2000 := by omega
    simp (maxSteps := 3000000) [-List.length_flatten,-List.map_drop,-List.map_take,Function.comp_def,argsT,Opd.ev,Tm.get,put,ares,mapMo,ares1,snilP,bldParts,bslParts,putAt,AV.cells,AV.one,astore,aload,loadCs,callArgs,abin,abinInt,aapp,elems,appMore,appNone,preLen,aFa,aFld,apart,aExt,aPick,aNot,aLens,aEqa,cellsK,fitsA,LK.fitsA,leavesA,leafA,nilD,aNilc,aCint,aCid,alive,alen,alenOk,Rle,lePs,len_flat, h3, h4, h4', a2, e1, e2, z1, z2]
    refine ⟨_, join_PF _ s3, ?_⟩
    simp (maxSteps := 3000000) [-List.length_flatten,-List.map_drop,-List.map_take,Function.comp_def,argsT,Opd.ev,Tm.get,put,ares,mapMo,ares1,snilP,bldParts,bslParts,putAt,AV.cells,AV.one,astore,aload,loadCs,callArgs,abin,abinInt,aapp,elems,appMore,appNone,preLen,aFa,aFld,apart,aExt,aPick,aNot,aLens,aEqa,cellsK,fitsA,LK.fitsA,leavesA,leafA,nilD,aNilc,aCint,aCid,alive,alen,alenOk,Rle,lePs,len_flat, Kc, e3, z3]
    exact kn _ _ (Kl_sub (p.l.length - (i + 1)) (T' := [(5, i64 (i + 1 : Nat)), (3, i64 (n + (gi p.l i).x.size + (gi p.l i).y.size + (joinF (gi p.l i).args).size : Nat)), (1, .ptr 0 0 0)]) ⟨i + 1, _, rfl, by omega, by unfold lm at s1 s2; omega, fun hh => ⟨(hf h4').1, fun f hfm => by
     rw [take_next h3] at hfm
     simp at hfm
     rcases hfm with hfm | rfl
     ·exact (hf h4').2 f hfm
     ·exact ⟨by omega, by omega, by omega⟩⟩, rfl, rfl⟩ (by simp [Tm.get, nxt h3 a2]) (by omega))
   ·have h4' : ¬ n ≤ 2000 := by omega
    simp (maxSteps := 3000000) [-List.length_flatten,-List.map_drop,-List.map_take,Function.comp_def,argsT,Opd.ev,Tm.get,put,ares,mapMo,ares1,snilP,bldParts,bslParts,putAt,AV.cells,AV.one,astore,aload,loadCs,callArgs,abin,abinInt,aapp,elems,appMore,appNone,preLen,aFa,aFld,apart,aExt,aPick,aNot,aLens,aEqa,cellsK,fitsA,LK.fitsA,leavesA,leafA,nilD,aNilc,aCint,aCid,alive,alen,alenOk,Rle,lePs,len_flat, h3, h4, h4', a2, kx]
    exact .of (.bool false) ⟨false, rfl, fun h => by cases h⟩ (by simp [lePs, -List.length_flatten, -List.map_drop, -List.map_take, Function.comp_def, len_flat])
  ·have : p.l.take i = p.l := List.take_of_length_le (by omega)
   rw [this] at hf
   simp (maxSteps := 3000000) [-List.length_flatten,-List.map_drop,-List.map_take,Function.comp_def,argsT,Opd.ev,Tm.get,put,ares,mapMo,ares1,snilP,bldParts,bslParts,putAt,AV.cells,AV.one,astore,aload,loadCs,callArgs,abin,abinInt,aapp,elems,appMore,appNone,preLen,aFa,aFld,apart,aExt,aPick,aNot,aLens,aEqa,cellsK,fitsA,LK.fitsA,leavesA,leafA,nilD,aNilc,aCint,aCid,alive,alen,alenOk,Rle,lePs,len_flat, h3, a2, kx]
   refine .of (.bool (decide (n ≤ 2000))) ⟨_, rfl, fun h => ?_⟩ (by simp [lePs]; omega)
   have h := of_decide_eq_true h
   exact ⟨(hf h).1.1, (hf h).1.2, (hf h).2⟩
def q24 (p : Pg) (r : AV) : Prop := ∃ b, r = .bool b ∧ (b = true → PgOk p ∧ Neat p)
theorem right_E (p : Pg) (hp : SmallP p) (hf : FewP p) : PFE Tryz.prog 18 [.agg p.cs] (q24 p) := by
 refine PFEk 9 hm Tryz.func18 c18_ok (Nat.le_of_ble_eq_true rfl) (by simp) (by rintro r ⟨b, rfl, _⟩; simp) ?_
 simp (maxSteps := 3000000) [-List.length_flatten,-List.map_drop,-List.map_take,Function.comp_def,argsT,Opd.ev,Tm.get,put,ares,mapMo,ares1,snilP,bldParts,bslParts,putAt,AV.cells,AV.one,astore,aload,loadCs,callArgs,abin,abinInt,aapp,elems,appMore,appNone,preLen,aFa,aFld,apart,aExt,aPick,aNot,aLens,aEqa,cellsK,fitsA,LK.fitsA,leavesA,leafA,nilD,aNilc,aCint,aCid,alive,alen,alenOk,Rle,lePs,len_flat, c18]
 refine PF.call (text_PF p hf (fun s hs => (hp.stm s hs).2.2) (fun f hf => (hp.name f hf).2.2)) 9 (by simp [lePs, -List.length_flatten, -List.map_drop, -List.map_take, Function.comp_def, len_flat]) ?_
 simp (maxSteps := 3000000) [-List.length_flatten,-List.map_drop,-List.map_take,Function.comp_def,argsT,Opd.ev,Tm.get,put,ares,mapMo,ares1,snilP,bldParts,bslParts,putAt,AV.cells,AV.one,astore,aload,loadCs,callArgs,abin,abinInt,aapp,elems,appMore,appNone,preLen,aFa,aFld,apart,aExt,aPick,aNot,aLens,aEqa,cellsK,fitsA,LK.fitsA,leavesA,leafA,nilD,aNilc,aCint,aCid,alive,alen,alenOk,Rle,lePs,len_flat, Kc]
 refine PFE.call (parse_E (textF p)) 9 (by simp [lePs, -List.length_flatten, -List.map_drop, -List.map_take, Function.comp_def, len_flat]) ?_
 rintro _ ⟨q, e, w, rfl, hw⟩
 by_cases h : w = 0
 ·obtain ⟨h1, h2⟩ := hw h
  simp (maxSteps := 3000000) [-List.length_flatten,-List.map_drop,-List.map_take,Function.comp_def,argsT,Opd.ev,Tm.get,put,ares,mapMo,ares1,snilP,bldParts,bslParts,putAt,AV.cells,AV.one,astore,aload,loadCs,callArgs,abin,abinInt,aapp,elems,appMore,appNone,preLen,aFa,aFld,apart,aExt,aPick,aNot,aLens,aEqa,cellsK,fitsA,LK.fitsA,leavesA,leafA,nilD,aNilc,aCint,aCid,alive,alen,alenOk,Rle,lePs,len_flat, Kc, h]
  refine PFE.call (same_E p q ⟨hp.funs, hp.l, fun f hf => (hp.name f hf).2.2.1, fun s hs => (hp.stm s hs).2.2.1⟩
   ⟨by have := h2.funs; unfold lm; omega, by have := h2.l; unfold lm; omega, fun f hf => by have := h2.params f hf; unfold lm; omega, fun s hs => by have := h2.args s hs; unfold lm; omega⟩) 9 (by simp [lePs, -List.length_flatten, -List.map_drop, -List.map_take, Function.comp_def, len_flat]) ?_
  rintro _ ⟨b, rfl, hb⟩
  simp (maxSteps := 3000000) [-List.length_flatten,-List.map_drop,-List.map_take,Function.comp_def,argsT,Opd.ev,Tm.get,put,ares,mapMo,ares1,snilP,bldParts,bslParts,putAt,AV.cells,AV.one,astore,aload,loadCs,callArgs,abin,abinInt,aapp,elems,appMore,appNone,preLen,aFa,aFld,apart,aExt,aPick,aNot,aLens,aEqa,cellsK,fitsA,LK.fitsA,leavesA,leafA,nilD,aNilc,aCint,aCid,alive,alen,alenOk,Rle,lePs,len_flat, Kc]
  exact .of (.bool b) ⟨b, rfl, fun h => by rw [hb h]; exact ⟨h1, h2⟩⟩ (by simp [lePs, -List.length_flatten, -List.map_drop, -List.map_take, Function.comp_def, len_flat])
 ·simp (maxSteps := 3000000) [-List.length_flatten,-List.map_drop,-List.map_take,Function.comp_def,argsT,Opd.ev,Tm.get,put,ares,mapMo,ares1,snilP,bldParts,bslParts,putAt,AV.cells,AV.one,astore,aload,loadCs,callArgs,abin,abinInt,aapp,elems,appMore,appNone,preLen,aFa,aFld,apart,aExt,aPick,aNot,aLens,aEqa,cellsK,fitsA,LK.fitsA,leavesA,leafA,nilD,aNilc,aCint,aCid,alive,alen,alenOk,Rle,lePs,len_flat, Kc, h]
  exact .of (.bool false) ⟨false, rfl, fun h => by cases h⟩ (by simp [lePs, -List.length_flatten, -List.map_drop, -List.map_take, Function.comp_def, len_flat])
/-- What the statements ask of a program. -/
structure Of (p : Pg) : Prop where
 ok : PgOk p
 neat : Neat p
 l : p.l.length ≤ 30
def q10 (p : Pg) (r : AV) : Prop := ∃ b, r = .bool b ∧ (b = true → Of p)
theorem of_E (p : Pg) (hp : SmallP p) : PFE Tryz.prog 5 [.agg p.cs] (q10 p) := by
 refine PFEk 9 hm Tryz.func5 c5_ok (Nat.le_of_ble_eq_true rfl) (by simp) (by rintro r ⟨b, rfl, _⟩; simp) ?_
 have no : ∀ H, RleE 9 (q10 p) (.bool false) H := fun H => .of (.bool false) ⟨false, rfl, fun h => by cases h⟩ (by simp [lePs, -List.length_flatten, -List.map_drop, -List.map_take, Function.comp_def, len_flat])
 have p2 := hp.l
 have a2 : p.l.length ≤ maxA := by unfold maxA; unfold lm at p2; omega
 simp (maxSteps := 3000000) [-List.length_flatten,-List.map_drop,-List.map_take,Function.comp_def,argsT,Opd.ev,Tm.get,put,ares,mapMo,ares1,snilP,bldParts,bslParts,putAt,AV.cells,AV.one,astore,aload,loadCs,callArgs,abin,abinInt,aapp,elems,appMore,appNone,preLen,aFa,aFld,apart,aExt,aPick,aNot,aLens,aEqa,cellsK,fitsA,LK.fitsA,leavesA,leafA,nilD,aNilc,aCint,aCid,alive,alen,alenOk,Rle,lePs,len_flat, c5]
 refine PFE.call (few_E p hp) 9 (by simp [lePs, -List.length_flatten, -List.map_drop, -List.map_take, Function.comp_def, len_flat]) ?_
 rintro _ ⟨b, rfl, hb⟩
 cases b with
 | false =>
  simp (maxSteps := 3000000) [-List.length_flatten,-List.map_drop,-List.map_take,Function.comp_def,argsT,Opd.ev,Tm.get,put,ares,mapMo,ares1,snilP,bldParts,bslParts,putAt,AV.cells,AV.one,astore,aload,loadCs,callArgs,abin,abinInt,aapp,elems,appMore,appNone,preLen,aFa,aFld,apart,aExt,aPick,aNot,aLens,aEqa,cellsK,fitsA,LK.fitsA,leavesA,leafA,nilD,aNilc,aCint,aCid,alive,alen,alenOk,Rle,lePs,len_flat, Kc]
  exact no _
 | true =>
  by_cases h : (p.l.length : Int) ≤ 30
  ·simp (maxSteps := 3000000) [-List.length_flatten,-List.map_drop,-List.map_take,Function.comp_def,argsT,Opd.ev,Tm.get,put,ares,mapMo,ares1,snilP,bldParts,bslParts,putAt,AV.cells,AV.one,astore,aload,loadCs,callArgs,abin,abinInt,aapp,elems,appMore,appNone,preLen,aFa,aFld,apart,aExt,aPick,aNot,aLens,aEqa,cellsK,fitsA,LK.fitsA,leavesA,leafA,nilD,aNilc,aCint,aCid,alive,alen,alenOk,Rle,lePs,len_flat, Kc, h, a2]
   refine PFE.call (right_E p hp (hb rfl)) 9 (by simp [lePs, -List.length_flatten, -List.map_drop, -List.map_take, Function.comp_def, len_flat]) ?_
   rintro _ ⟨b, rfl, hb⟩
   simp (maxSteps := 3000000) [-List.length_flatten,-List.map_drop,-List.map_take,Function.comp_def,argsT,Opd.ev,Tm.get,put,ares,mapMo,ares1,snilP,bldParts,bslParts,putAt,AV.cells,AV.one,astore,aload,loadCs,callArgs,abin,abinInt,aapp,elems,appMore,appNone,preLen,aFa,aFld,apart,aExt,aPick,aNot,aLens,aEqa,cellsK,fitsA,LK.fitsA,leavesA,leafA,nilD,aNilc,aCint,aCid,alive,alen,alenOk,Rle,lePs,len_flat, Kc]
   exact .of (.bool b) ⟨b, rfl, fun h' => ⟨(hb h').1, (hb h').2, by omega⟩⟩ (by simp [lePs, -List.length_flatten, -List.map_drop, -List.map_take, Function.comp_def, len_flat])
  ·simp (maxSteps := 3000000) [-List.length_flatten,-List.map_drop,-List.map_take,Function.comp_def,argsT,Opd.ev,Tm.get,put,ares,mapMo,ares1,snilP,bldParts,bslParts,putAt,AV.cells,AV.one,astore,aload,loadCs,callArgs,abin,abinInt,aapp,elems,appMore,appNone,preLen,aFa,aFld,apart,aExt,aPick,aNot,aLens,aEqa,cellsK,fitsA,LK.fitsA,leavesA,leafA,nilD,aNilc,aCint,aCid,alive,alen,alenOk,Rle,lePs,len_flat, Kc, h, a2]
   exact no _
end Go.AM
