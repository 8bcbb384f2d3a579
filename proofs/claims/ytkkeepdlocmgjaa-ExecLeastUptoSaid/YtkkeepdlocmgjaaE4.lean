/- Contracts of the program's functions. -/
import Derived.Test.YtkkeepdlocmgjaaE3
import Derived.KernelRfl
import Derived.Test.YtkkeepdlocmgjaaE2
import Derived.Test.YtkkeepdlocmgjaaAm4
import Derived.Shelf.Small.Bits
import Derived.Shelf.Strconv.Itoa0
import Derived.Shelf.Sort.Plain
import Derived.Shelf.Slices.Turned
import Derived.Ground.Names2Prog
import Derived.Shelf.Slices.CompactI
import Derived.Shelf.Slices.SearchI
import Derived.Shelf.Slices.Cells
import Derived.Shelf.Slices.In.SortNone
import Derived.Test.YtkkeepdlocmgjaaProg
namespace Go.AM
open Go.Proofs
set_option maxRecDepth 100000
set_option linter.unusedVariables false
set_option linter.unusedSimpArgs false
def c3 : AFn := ⟨41,.seq (.reg false [⟨some 2,.box (.tmp 0),none⟩,⟨some 4,.mov (.lit (.bool false)),none⟩]) (.seq (.reg false [⟨some 9,.call (.lit (.fn (.func 9) [] [])) [],none⟩,⟨some 5,.mov (.tmp 9),none⟩]) (.seq (.seq (.reg false [⟨some 10,.load 2 true (.tmp 2),none⟩,⟨some 11,.call (.lit (.fn (.func 10) [] [])) [.tmp 10],none⟩,⟨some 12,.not (.tmp 11),none⟩,⟨some 13,.mov (.tmp 12),none⟩,⟨some 14,.mov (.tmp 1),some ((13,false))⟩,⟨some 15,.len (.tmp 14),some ((13,false))⟩,⟨some 16,.bin .gtr (.tmp 15) (.lit (.int .i64 100)),some ((13,false))⟩,⟨some 17,.pick (.tmp 13) (.lit (.bool true)) (.tmp 16),none⟩]) (.cond (.tmp 17) (.seq (.reg false [⟨some 18,.mov (.tmp 5),none⟩,⟨some 4,.mov (.tmp 18),none⟩]) .ret) .skip)) (.seq (.reg false [⟨some 20,.load 2 true (.tmp 2),none⟩,⟨some 21,.call (.lit (.fn (.func 11) [] [])) [.tmp 20],none⟩,⟨some 19,.mov (.tmp 21),none⟩,⟨some 22,.ext (.tmp 19) 0,none⟩,⟨some 23,.ext (.tmp 19) 1,none⟩,⟨some 6,.mov (.tmp 22),none⟩,⟨some 7,.mov (.tmp 23),none⟩]) (.seq (.reg false [⟨some 24,.load 2 true (.tmp 2),none⟩,⟨some 25,.mov (.tmp 1),none⟩,⟨some 26,.call (.lit (.fn (.func 12) [] [])) [.tmp 24,.tmp 25],none⟩,⟨some 8,.alloc [.nilS,.nilS,.nilS,.int .i64 0],none⟩,⟨none,.store 4 (.tmp 8) (.tmp 26),none⟩]) (.seq (.reg false [⟨some 27,.mov (.tmp 5),none⟩,⟨some 28,.mov (.tmp 27),none⟩,⟨some 29,.load 2 true (.tmp 2),some ((28,true))⟩,⟨some 30,.load 4 true (.tmp 8),some ((28,true))⟩,⟨some 31,.call (.lit (.fn (.func 14) [] [])) [.tmp 29,.tmp 30],some ((28,true))⟩,⟨some 32,.mov (.tmp 6),some ((28,true))⟩,⟨some 33,.call (.lit (.fn (.func 13) [] [])) [.tmp 31,.tmp 32],some ((28,true))⟩,⟨some 34,.pick (.tmp 28) (.tmp 33) (.lit (.bool false)),none⟩,⟨some 35,.mov (.tmp 34),none⟩,⟨some 36,.fa 2 (.tmp 8),some ((35,true))⟩,⟨some 37,.load 1 false (.tmp 36),some ((35,true))⟩,⟨some 38,.mov (.tmp 7),some ((35,true))⟩,⟨some 39,.call (.lit (.fn (.func 15) [] [])) [.tmp 37,.tmp 38],some ((35,true))⟩,⟨some 40,.pick (.tmp 35) (.tmp 39) (.lit (.bool false)),none⟩,⟨some 4,.mov (.tmp 40),none⟩]) .ret))))),[.tmp 4]⟩
theorem c3_ok : cFn Try.prog an0 Try.f3 = some c3 := by kernel_rfl
end Go.AM

namespace Go.AM
open Go.Proofs
set_option maxRecDepth 100000
set_option linter.unusedVariables false
set_option linter.unusedSimpArgs false
/-! ### What comes in -/
def tyFn : Ty := .struct [.str, .slice .str, .str]
def tyStm : Ty := .struct [.int .i64, .int .i64, .str, .str, .slice .str, .int .i64]
def tyProg : Ty := .struct [.slice tyFn, .slice tyStm]
theorem is_strs {cs : List AV} (h : (Ty.slice .str).is cs) : ∃ l : List ByteArray, cs = [strs l] ∧ smallL l := by
 simp only [Ty.is] at h
 obtain ⟨e1, rfl, hl1, hs1⟩ := h
 obtain ⟨l, rfl, hl⟩ := is_rows (f := fun s : ByteArray => [AV.str s]) (p := fun s => s.size ≤ lim) (fun u hu => hu) hs1
 exact ⟨l, rfl, by unfold lim at hl1; simpa using hl1, hl⟩
theorem is_fn {cs : List AV} (h : tyFn.is cs) : ∃ f : Fn0, cs = f.cs ∧ f.name.size ≤ lm ∧ f.ret.size ≤ lm ∧ smallL f.params := by
 unfold tyFn at h
 rw [Ty.is] at h
 obtain ⟨_, _, rfl, h1, _, _, rfl, h2, _, _, rfl, h3, rfl⟩ := h
 obtain ⟨s, rfl, k1⟩ := is_str h1
 obtain ⟨l, rfl, k2⟩ := is_strs h2
 obtain ⟨r, rfl, k3⟩ := is_str h3
 exact ⟨⟨s, l, r⟩, rfl, k1, k3, k2⟩
theorem is_stm {cs : List AV} (h : tyStm.is cs) : ∃ s : Stm, cs = s.cs ∧ s.x.size ≤ lm ∧ s.y.size ≤ lm ∧ smallL s.args := by
 unfold tyStm at h
 rw [Ty.is] at h
 obtain ⟨_, _, rfl, h1, _, _, rfl, h2, _, _, rfl, h3, _, _, rfl, h4, _, _, rfl, h5, _, _, rfl, h6, rfl⟩ := h
 obtain ⟨k, rfl, _⟩ := is_int h1
 obtain ⟨n, rfl, _⟩ := is_int h2
 obtain ⟨x, rfl, k3⟩ := is_str h3
 obtain ⟨y, rfl, k4⟩ := is_str h4
 obtain ⟨l, rfl, k5⟩ := is_strs h5
 obtain ⟨m, rfl, _⟩ := is_int h6
 exact ⟨⟨k, n, x, y, l, m⟩, rfl, k3, k4, k5⟩
theorem is_prog {cs : List AV} (h : tyProg.is cs) : ∃ p : Pg, cs = p.cs ∧ SmallP p := by
 unfold tyProg at h
 rw [Ty.is] at h
 obtain ⟨_, _, rfl, h1, _, _, rfl, h2, rfl⟩ := h
 rw [Ty.is] at h1 h2
 obtain ⟨e1, rfl, l1, s1⟩ := h1
 obtain ⟨e2, rfl, l2, s2⟩ := h2
 obtain ⟨fs, rfl, q1⟩ := is_rows (f := Fn0.cs) (p := fun f => f.name.size ≤ lm ∧ f.ret.size ≤ lm ∧ smallL f.params) (fun u hu => is_fn hu) s1
 obtain ⟨l, rfl, q2⟩ := is_rows (f := Stm.cs) (p := fun s => s.x.size ≤ lm ∧ s.y.size ≤ lm ∧ smallL s.args) (fun u hu => is_stm hu) s2
 exact ⟨⟨fs, l⟩, rfl, by unfold lim at l1; simpa using l1, by unfold lim at l2; simpa using l2, q1, q2⟩
end Go.AM

namespace Go.AM
open Go.Proofs
set_option maxRecDepth 100000
set_option linter.unusedVariables false
set_option linter.unusedSimpArgs false
/-! ### What the cells hold: the parts -/
theorem sites28_PF (p : Pg) (hp : Fits p) : PF Try.prog 28 [.agg p.cs] (i64 (sitesN p.l)) := by
 refine PFk 9 hm Try.func28 c28_ok (Nat.le_of_ble_eq_true rfl) (by simp) (by simp) ?_
 have hA : p.l.length ≤ maxA := by have := hp.l; unfold maxA; omega
 simp (maxSteps := 3000000) [-List.length_flatten,-List.map_drop,-List.map_take,Function.comp_def,argsT,Opd.ev,Tm.get,put,ares,mapMo,ares1,snilP,bldParts,bslParts,putAt,AV.cells,AV.one,astore,aload,loadCs,callArgs,abin,abinInt,aapp,elems,appMore,appNone,preLen,aFa,aFld,apart,aExt,aPick,aNot,aLens,aEqa,cellsK,fitsA,LK.fitsA,leavesA,leafA,nilD,aNilc,aCint,aCid,alive,alen,alenOk,Rle,lePs,len_flat, c28, hA]
 refine run_loopK (fun m T H => ∃ i : Nat, m = p.l.length - i ∧ i ≤ p.l.length ∧ T = [(9, i64 i), (8, i64 p.l.length), (7, stms p.l), (3, i64 (sitesN (p.l.take i))), (1, .ptr 0 0 0)] ∧ H = [.cells 0 p.cs]) p.l.length
  [(9, i64 (0 : Nat)), (8, i64 p.l.length), (7, stms p.l), (3, i64 (0 : Nat)), (1, .ptr 0 0 0)] _ (Wk.sub (by simp [Tm.get])) ⟨0, rfl, by omega, by simp [sitesN], rfl⟩ ?_
 rintro m T H ⟨i, rfl, hi, rfl, rfl⟩ KK kx kr kn
 by_cases h : i < p.l.length
 ·have e := sitesN_next h
  have hle : sitesN (p.l.take i) ≤ i := by
   have := List.countP_le_length (p := fun s : Stm => decide (s.kind = 2)) (l := p.l.take i)
   simp only [List.length_take] at this
   unfold sitesN
   omega
  by_cases h2 : (gi p.l i).kind = 2
  ·rw [if_pos h2] at e
   simp (maxSteps := 3000000) [-List.length_flatten,-List.map_drop,-List.map_take,Function.comp_def,argsT,Opd.ev,Tm.get,put,ares,mapMo,ares1,snilP,bldParts,bslParts,putAt,AV.cells,AV.one,astore,aload,loadCs,callArgs,abin,abinInt,aapp,elems,appMore,appNone,preLen,aFa,aFld,apart,aExt,aPick,aNot,aLens,aEqa,cellsK,fitsA,LK.fitsA,leavesA,leafA,nilD,aNilc,aCint,aCid,alive,alen,alenOk,Rle,lePs,len_flat, h, h2]
   exact kn _ _ (Kl_next (p.l.length - (i + 1)) 1 (by simp) (T' := [(9, i64 (i + 1 : Nat)), (8, i64 p.l.length), (7, stms p.l), (3, i64 (sitesN (p.l.take (i + 1)))), (1, .ptr 0 0 0)]) ⟨i + 1, rfl, by omega, rfl, rfl⟩ (by simp [Tm.get, nxt h hA, e, nxt (show sitesN (p.l.take i) < i + 1 by omega) (by omega)]) (by simp) rfl (by simp [RLB]) (by omega))
  ·rw [if_neg h2] at e
   simp (maxSteps := 3000000) [-List.length_flatten,-List.map_drop,-List.map_take,Function.comp_def,argsT,Opd.ev,Tm.get,put,ares,mapMo,ares1,snilP,bldParts,bslParts,putAt,AV.cells,AV.one,astore,aload,loadCs,callArgs,abin,abinInt,aapp,elems,appMore,appNone,preLen,aFa,aFld,apart,aExt,aPick,aNot,aLens,aEqa,cellsK,fitsA,LK.fitsA,leavesA,leafA,nilD,aNilc,aCint,aCid,alive,alen,alenOk,Rle,lePs,len_flat, h, h2]
   exact kn _ _ (Kl_next (p.l.length - (i + 1)) 1 (by simp) (T' := [(9, i64 (i + 1 : Nat)), (8, i64 p.l.length), (7, stms p.l), (3, i64 (sitesN (p.l.take (i + 1)))), (1, .ptr 0 0 0)]) ⟨i + 1, rfl, by omega, rfl, rfl⟩ (by simp [Tm.get, nxt h hA, e]) (by simp) rfl (by simp [RLB]) (by omega))
 ·have : p.l.take i = p.l := List.take_of_length_le (by omega)
  rw [this]
  simp (maxSteps := 3000000) [-List.length_flatten,-List.map_drop,-List.map_take,Function.comp_def,argsT,Opd.ev,Tm.get,put,ares,mapMo,ares1,snilP,bldParts,bslParts,putAt,AV.cells,AV.one,astore,aload,loadCs,callArgs,abin,abinInt,aapp,elems,appMore,appNone,preLen,aFa,aFld,apart,aExt,aPick,aNot,aLens,aEqa,cellsK,fitsA,LK.fitsA,leavesA,leafA,nilD,aNilc,aCint,aCid,alive,alen,alenOk,Rle,lePs,len_flat, h, kx]
end Go.AM

namespace Go.Proofs
open Go.Shelf
def Try.lays189_ren : Go.Shelf.Ren := ⟨fun | 189 => 29 | 125 => 53 | 257 => 52 | 128 => 83 | 129 => 84 | 294 => 74 | 295 => 75 | 296 => 76 | 297 => 77 | 298 => 78 | 299 => 79 | 216 => 80 | 300 => 81 | 301 => 82 | 328 => 99 | 329 => 100 | 330 => 101 | 331 => 102 | 332 => 103 | 215 => 104 | 343 => 106 | n => n, fun | 28 => 26 | 3 => 3 | 46 => 100 | 0 => 0 | 51 => 126 | 53 => 128 | 4 => 4 | 183 => 118 | 182 => 117 | 131 => 123 | 5 => 5 | 9 => 9 | 218 => 136 | 222 => 140 | 228 => 144 | 229 => 105 | n => n, fun | n => n⟩
theorem Try.lays189 : Go.Proofs.Lays.n189 Try.prog Try.lays189_ren := {
 mixed := by kernel_rfl
 f125 := Try.func53.trans (congrArg some (by kernel_rfl))
 f128 := Try.func83.trans (congrArg some (by kernel_rfl))
 f129 := Try.func84.trans (congrArg some (by kernel_rfl))
 f189 := Try.func29.trans (congrArg some (by kernel_rfl))
 f215 := Try.func104.trans (congrArg some (by kernel_rfl))
 f216 := Try.func80.trans (congrArg some (by kernel_rfl))
 f257 := Try.func52.trans (congrArg some (by kernel_rfl))
 f294 := Try.func74.trans (congrArg some (by kernel_rfl))
 f295 := Try.func75.trans (congrArg some (by kernel_rfl))
 f296 := Try.func76.trans (congrArg some (by kernel_rfl))
 f297 := Try.func77.trans (congrArg some (by kernel_rfl))
 f298 := Try.func78.trans (congrArg some (by kernel_rfl))
 f299 := Try.func79.trans (congrArg some (by kernel_rfl))
 f300 := Try.func81.trans (congrArg some (by kernel_rfl))
 f301 := Try.func82.trans (congrArg some (by kernel_rfl))
 f328 := Try.func99.trans (congrArg some (by kernel_rfl))
 f329 := Try.func100.trans (congrArg some (by kernel_rfl))
 f330 := Try.func101.trans (congrArg some (by kernel_rfl))
 f331 := Try.func102.trans (congrArg some (by kernel_rfl))
 f332 := Try.func103.trans (congrArg some (by kernel_rfl))
 f343 := Try.func106.trans (congrArg some (by kernel_rfl))
 t0 := Try.underlying0
 a0 := Try.isAgg0
 z0 := Try.sizeOf0
 v0 := Try.zeroValue0
 t3 := Try.underlying3
 a3 := Try.isAgg3
 z3 := Try.sizeOf3
 v3 := Try.zeroValue3
 t4 := Try.underlying4
 a4 := Try.isAgg4
 z4 := Try.sizeOf4
 v4 := Try.zeroValue4
 t5 := Try.underlying5
 a5 := Try.isAgg5
 z5 := Try.sizeOf5
 v5 := Try.zeroValue5
 t9 := Try.underlying9
 a9 := Try.isAgg9
 z9 := Try.sizeOf9
 v9 := Try.zeroValue9
 t28 := Try.underlying26
 a28 := Try.isAgg26
 z28 := Try.sizeOf26
 v28 := Try.zeroValue26
 t46 := Try.underlying100
 a46 := Try.isAgg100
 z46 := Try.sizeOf100
 v46 := Try.zeroValue100
 t51 := Try.underlying126
 a51 := Try.isAgg126
 z51 := Try.sizeOf126
 v51 := Try.zeroValue126
 t53 := Try.underlying128
 a53 := Try.isAgg128
 z53 := Try.sizeOf128
 v53 := Try.zeroValue128
 t131 := Try.underlying123
 a131 := Try.isAgg123
 z131 := Try.sizeOf123
 v131 := Try.zeroValue123
 t182 := Try.underlying117
 a182 := Try.isAgg117
 z182 := Try.sizeOf117
 v182 := Try.zeroValue117
 t183 := Try.underlying118
 a183 := Try.isAgg118
 z183 := Try.sizeOf118
 v183 := Try.zeroValue118
 t218 := Try.underlying136
 a218 := Try.isAgg136
 z218 := Try.sizeOf136
 v218 := Try.zeroValue136
 t222 := Try.underlying140
 a222 := Try.isAgg140
 z222 := Try.sizeOf140
 v222 := Try.zeroValue140
 t228 := Try.underlying144
 a228 := Try.isAgg144
 z228 := Try.sizeOf144
 v228 := Try.zeroValue144
 t229 := Try.underlying105
 a229 := Try.isAgg105
 z229 := Try.sizeOf105
 v229 := Try.zeroValue105 }
open Go.Sort Go.RowKit in
theorem Try.slices_Sort_int (blk off cap : Nat) (zs : List Int) (w : World) (hH : Holds (Value.int .i64) w blk off zs.toArray) (hblk : blk < w.heap.size) (hsz : zs.length < 4611686018427387904) :
  Calls Try.prog 29 #[.slice (some ⟨blk, off, none⟩) zs.length cap] w fun e w' =>
   e = .returned (.tuple #[]) ∧ ∃ n os, w' = grow (putRow (Value.int .i64) (Sort.ahead w n) blk off (zs.mergeSort fun x y => decide (x ≤ y)).toArray) os := Any.slices_Sort_int Try.lays189 blk off cap zs w hH hblk hsz
def Try.laysNm220_ren : Go.Shelf.Ren := ⟨fun | 20 => 30 | n => n, fun | 22 => 26 | 3 => 3 | 4 => 4 | 0 => 0 | n => n, fun | n => n⟩
theorem Try.laysNm220 : Go.Proofs.Lays2.n20 Try.prog Try.laysNm220_ren := {
 mixed := by kernel_rfl
 f20 := Try.func30.trans (congrArg some (by kernel_rfl))
 t0 := Try.underlying0
 a0 := Try.isAgg0
 z0 := Try.sizeOf0
 v0 := Try.zeroValue0
 t3 := Try.underlying3
 a3 := Try.isAgg3
 z3 := Try.sizeOf3
 v3 := Try.zeroValue3
 t4 := Try.underlying4
 a4 := Try.isAgg4
 z4 := Try.sizeOf4
 v4 := Try.zeroValue4
 t22 := Try.underlying26
 a22 := Try.isAgg26
 z22 := Try.sizeOf26
 v22 := Try.zeroValue26
 i3 := by kernel_rfl }
open Go.RowKit Go.Lib Go.Sort in
open Go.RowKit Go.Lib Go.Sort in
/-- slices.Compact at []int: "Compact replaces consecutive runs of equal elements with a single copy. This is like the uniq command found on Unix. Compact modifies the contents of the slice s and returns the modified slice, which may have a smaller length. Compact zeroes the elements between the new length and the original length. The result preserves the nilness of s.": IT RETURNS THE SLICE CUT TO 'Lib.compact zs'; ITS CELLS HOLD 'Lib.compact zs', THEN ZERO VALUES up to the old length; all else is as it was, but for the count of draws. IN THE WORDS OF slices.Sort's CONTRACT ('Holds', 'putRow'): so the everyday 'slices.Sort(xs); xs = slices.Compact(xs)' goes from the one contract to the other. It asks 'zs.length ≤ cap' (every slice's: the reslicing 's[:k]' looks at it). Length 0, nil: '.._empty'. (LAID: no walk: one application.) -/
theorem Try.slices_Compact_int (blk off cap : Nat) (zs : List Int) (w : World) (hH : Holds (Value.int .i64) w blk off zs.toArray) (hsz : zs.length ≤ 9223372036854775807) (hcap : zs.length ≤ cap) :
  Calls Try.prog 30 #[.slice (some ⟨blk, off, none⟩) zs.length cap] w fun e w' => e = .returned (.slice (some ⟨blk, off, none⟩) (Lib.compact zs).length cap) ∧ ∃ q, w' = putRow (Value.int .i64) (Sort.ahead w q) blk off (Lib.compact zs ++ List.replicate (zs.length - (Lib.compact zs).length) 0).toArray := Any.slices_Compact_int Try.laysNm220 blk off cap zs w hH hsz hcap
end Go.Proofs

namespace Go.AM
open Go.Proofs
set_option maxRecDepth 100000
set_option linter.unusedVariables false
set_option linter.unusedSimpArgs false
/-! ### What the cells hold: the library -/
abbrev sortI (l : List Int) : List Int := l.mergeSort fun x y => decide (x ≤ y)
abbrev compI (l : List Int) : List Int := Go.Lib.compact l
theorem call29 : Callable Try.prog 29 := ⟨Try.f29, rfl, rfl, by kernel_rfl⟩
theorem call30 : Callable Try.prog 30 := ⟨Try.f30, rfl, rfl, by kernel_rfl⟩
theorem sort0 (c : Bool) : PF Try.prog 29 [.rows c 1 []] (.tuple []) := by
 cases c
 ·exact PF_eval hm envOk pss 60 30 rfl (by kernel_rfl)
 ·exact PF_eval hm envOk pss 60 30 rfl (by kernel_rfl)
theorem set_same {H : AHeap} {k : Nat} {b : ABlk} (h : H[k]? = some b) : H.set k b = H := by
 have hk := lt_of_get h
 rw [List.getElem?_eq_getElem hk] at h
 injection h with h
 rw [← h]
 exact List.set_getElem_self hk
theorem sort29_FT {H : AHeap} {k g : Nat} {l : List Int} (h : H[k]? = some (.cells g (i64s l))) :
  FT Try.prog 29 [.loc k g 0 l.length 1 false] H fun rv H' => rv = .tuple [] ∧ H' = H.set k (.cells g (i64s (sortI l))) := by
 by_cases h0 : l = []
 ·subst h0
  refine PF.borrow (sort0 false) 9 9 rfl ?_ ⟨rfl, ?_⟩
  ·simp [lePs, h, chunk]
  ·rw [show sortI [] = [] from by simp [sortI], set_same h]
 ·exact sort_FT (fun l => by simp [sortI]) call29 (fun blk off cap zs w a b d => Try.slices_Sort_int blk off cap zs w a b d) (List.length_pos_iff.2 h0) h
theorem hcl (l : List Int) : (compI l).length ≤ l.length := by
 unfold compI Go.Lib.compact Go.Lib.compactUpTo
 rw [List.length_map]
 exact Nat.le_trans (List.length_filter_le _ _) (by simp)
theorem comp30_FT {H : AHeap} {k g : Nat} {l : List Int} (h : H[k]? = some (.cells g (i64s l))) :
  FT Try.prog 30 [.loc k g 0 l.length 1 false] H fun rv H' => rv = .loc k g 0 (compI l).length 1 false ∧ ∃ zs : List Int, zs.length = l.length - (compI l).length ∧ H' = H.set k (.cells g (i64s (compI l ++ zs))) := by
 by_cases h0 : l = []
 ·subst h0
  refine FTk hm Try.func30 c30_ok (Nat.le_of_ble_eq_true rfl) ?_
  simp (maxSteps := 3000000) [-List.length_flatten,-List.map_drop,-List.map_take,Function.comp_def,argsT,Opd.ev,Tm.get,put,ares,mapMo,ares1,snilP,bldParts,bslParts,putAt,AV.cells,AV.one,astore,aload,loadCs,callArgs,abin,abinInt,aapp,elems,appMore,appNone,preLen,aFa,aFld,apart,aExt,aPick,aNot,aLens,aEqa,cellsK,fitsA,LK.fitsA,leavesA,leafA,nilD,aNilc,aCint,aCid,alive,alen,alenOk,Rle,lePs,len_flat, c30, h]
  have e : compI [] = [] := rfl
  exact ⟨by rw [e]; rfl, by rw [e]; exact (set_same h).symm⟩
 ·refine (cut_FT (S := fun l => compI l ++ List.replicate (l.length - (compI l).length) 0) (C := compI) (fun l => by have := hcl l; simp; omega) hcl call30 (fun blk off cap zs w a b d => ?_) (List.length_pos_iff.2 h0) h).mono ?_
  ·refine (Try.slices_Compact_int blk off cap zs w a b d).mono ?_
   rintro e w' ⟨rfl, q, rfl⟩
   exact ⟨rfl, q, #[], by simp [rowW]⟩
  ·rintro rv H' ⟨rfl, rfl⟩
   exact ⟨rfl, _, by simp, rfl⟩
end Go.AM

namespace Go.AM
open Go.Proofs
set_option maxRecDepth 100000
set_option linter.unusedVariables false
set_option linter.unusedSimpArgs false
/-! ### What the cells hold -/
def iv (l : List Int) : List AV := l.map fun n => AV.int .i64 n
@[simp] theorem iv_len (l : List Int) : (iv l).length = l.length := by simp [iv]
@[simp] theorem iv_take (l : List Int) : List.take l.length (iv l) = iv l := List.take_of_length_le (by simp)
theorem iv_app (l : List Int) (v : Int) : iv l ++ [AV.int .i64 v] = iv (l ++ [v]) := by simp [iv]
@[simp] theorem iv_nil : iv [] = [] := rfl
abbrev Rw := Nat × List Int
def rblk (r : Rw) : ABlk := .cells r.1 (iv r.2)
def outC (rs : List Rw) : List AV := rs.mapIdx fun i r => .loc (i + 3) r.1 0 r.2.length 1 false
@[simp] theorem outC_len (rs : List Rw) : (outC rs).length = rs.length := by simp [outC]
theorem outC_set {rs : List Rw} {N : Nat} {r : Rw} : (outC rs).set N (.loc (N + 3) r.1 0 r.2.length 1 false) = outC (rs.set N r) := by
 unfold outC
 rw [List.mapIdx_set]
theorem outC_get {rs : List Rw} {N : Nat} (h : N < rs.length) : (outC rs)[N]? = some (.loc (N + 3) (gi rs N).1 0 (gi rs N).2.length 1 false) := by
 simp [outC, gi, List.getD, h]
@[simp] theorem outC_get2 {rs : List Rw} {N : Nat} (h : N < (outC rs).length) : (outC rs)[N] = .loc (N + 3) (gi rs N).1 0 (gi rs N).2.length 1 false := by
 simp at h
 simp [outC, gi, List.getD, h]
def HH (p : Pg) (m : Mc) (oc : List AV) (rs : List Rw) : AHeap := .cells 0 p.cs :: .cells 0 m.av :: .cells 0 oc :: rs.map rblk
section
variable {p : Pg} {m : Mc} {oc : List AV} {rs : List Rw} {t : AHeap}
@[simp] theorem HH_len : (HH p m oc rs).length = rs.length + 3 := by simp [HH]
@[simp high] theorem HH_0 : (HH p m oc rs)[0]? = some (.cells 0 p.cs) := rfl
@[simp high] theorem HH_1 : (HH p m oc rs)[1]? = some (.cells 0 m.av) := rfl
@[simp high] theorem HH_2 : (HH p m oc rs)[2]? = some (.cells 0 oc) := rfl
@[simp high] theorem HH_0' : (HH p m oc rs ++ t)[0]? = some (.cells 0 p.cs) := rfl
@[simp high] theorem HH_1' : (HH p m oc rs ++ t)[1]? = some (.cells 0 m.av) := rfl
@[simp high] theorem HH_2' : (HH p m oc rs ++ t)[2]? = some (.cells 0 oc) := rfl
@[simp high] theorem HH_c {b : ABlk} : (HH p m oc rs ++ [b])[rs.length + 3]? = some b := by
 rw [List.getElem?_append_right (by simp)]
 simp
theorem HH_n {N : Nat} (h : N < rs.length) : (HH p m oc rs)[N + 3]? = some (.cells (gi rs N).1 (iv (gi rs N).2)) := by
 simp [HH, rblk, gi, List.getD, h]
theorem HH_n' {N : Nat} (h : N < rs.length) : (HH p m oc rs ++ t)[N + 3]? = some (.cells (gi rs N).1 (iv (gi rs N).2)) := by
 rw [List.getElem?_append_left (by simp; omega), HH_n h]
@[simp high] theorem HH_out {oc' : List AV} : (HH p m oc rs).set 2 (.cells 0 oc') = HH p m oc' rs := rfl
@[simp high] theorem HH_out' {oc' : List AV} : (HH p m oc rs ++ t).set 2 (.cells 0 oc') = HH p m oc' rs ++ t := rfl
@[simp high] theorem HH_row {N g : Nat} {l : List Int} : (HH p m oc rs).set (N + 3) (.cells g (iv l)) = HH p m oc (rs.set N (g, l)) := by
 simp [HH, rblk, List.map_set]
theorem HH_row' {N g : Nat} {l : List Int} (h : N < rs.length) : (HH p m oc rs ++ t).set (N + 3) (.cells g (iv l)) = HH p m oc (rs.set N (g, l)) ++ t := by
 rw [List.set_append_left _ _ (by simp; omega), HH_row]
end
theorem HH_al {p : Pg} {m : Mc} {rs : List Rw} : al (RLB (rs.length + 3)) (HH p m (outC rs) rs) := by
 have key : ∀ l : List Rw, al (RLB (rs.length + 3)) (l.map rblk) := by
  intro l
  induction l with
  | nil => trivial
  | cons r l ih =>
   refine ⟨?_, ih⟩
   intro y hy
   simp only [iv, List.mem_map] at hy
   obtain ⟨n, _, rfl⟩ := hy
   simp
 refine ⟨by simp [RLB], by simp [RLB], ?_, key rs⟩
 intro y hy
 simp only [outC, List.mem_mapIdx] at hy
 obtain ⟨i, hi, rfl⟩ := hy
 simp
 omega
theorem HH_take {p : Pg} {m : Mc} {oc : List AV} {rs : List Rw} {t : AHeap} : (HH p m oc rs ++ t).take (rs.length + 3) = HH p m oc rs := by
 rw [List.take_left' (by simp)]
/-- A row of slices that are nil ones, told as own empty ones. -/
theorem Wk.rows {lo : Nat} {T : Tm} {p : Pg} {m : Mc} {n : Nat} : Wk lo T [.cells 0 p.cs, .cells 0 m.av, .cells 0 (List.replicate n .nilS)] T (HH p m (outC (List.replicate n (0, []))) (List.replicate n (0, []))) := by
 have key : ∀ i : Nat, i ≤ n → Wk lo T [.cells 0 p.cs, .cells 0 m.av, .cells 0 (List.replicate n .nilS)] T (HH p m (outC (List.replicate i (0, [])) ++ List.replicate (n - i) .nilS) (List.replicate i (0, []))) := by
  intro i
  induction i with
  | zero => intro _; exact fun X E0 w0 n a w hlo hs => hs
  | succ i ih =>
   intro hi
   have e1 : List.replicate (i + 1) ((0, []) : Rw) = List.replicate i (0, []) ++ [(0, [])] := List.replicate_succ'
   have e2 : outC (List.replicate i ((0, []) : Rw) ++ [(0, [])]) = outC (List.replicate i (0, [])) ++ [.loc (i + 3) 0 0 0 1 false] := by
    unfold outC
    rw [List.mapIdx_append]
    simp
   have e3 : HH p m (outC (List.replicate i (0, [])) ++ List.replicate (n - i) .nilS) (List.replicate i (0, [])) ++ [.cells 0 []] = HH p m (outC (List.replicate i (0, [])) ++ List.replicate (n - i) .nilS) (List.replicate (i + 1) (0, [])) := by
    rw [e1]
    simp [HH, rblk]
   have e4 : n - i = (n - (i + 1)) + 1 := by omega
   have h0 := ih (by omega)
   refine h0.trans (Wk.own.trans ?_)
   rw [e3]
   have h1 := Wk.nilAt (lo := lo) (T := T) (H := HH p m (outC (List.replicate i (0, [])) ++ List.replicate (n - i) .nilS) (List.replicate (i + 1) (0, []))) 2 i (i + 3) 1 (g := 0) (cs := outC (List.replicate i (0, [])) ++ List.replicate (n - i) .nilS) HH_2
    (by rw [e4, List.replicate_succ, List.getElem?_append_right (by simp)]; simp) (by rw [HH_n (by simp)]; simp [gi, List.getD])
   rw [HH_out] at h1
   have e5 : (outC (List.replicate i ((0, []) : Rw)) ++ List.replicate (n - i) AV.nilS).set i (.loc (i + 3) 0 0 0 1 false) = outC (List.replicate (i + 1) (0, [])) ++ List.replicate (n - (i + 1)) .nilS := by
    rw [e1, e2, e4, List.replicate_succ, List.set_append_right _ _ (by simp)]
    simp
   rw [e5] at h1
   exact h1
 have := key n (Nat.le_refl _)
 simpa using this
def locsN (p : Pg) : Nat := (varsOf p).length + sitesN p.l
/-- What a cell puts into its location's row. -/
def putsF (p : Pg) (m : Mc) (n : Nat) (c : Cl) : Option Int :=
 if c.loc = n then (if c.kind = 1 then some (gi m.cells c.v).loc else if c.kind = 2 then some (locsN p + c.v) else none) else none
def rowN (p : Pg) (m : Mc) (i n : Nat) : List Int := (m.cells.take i).filterMap (putsF p m n)
def rowsN (p : Pg) (m : Mc) (i : Nat) : List (List Int) := (List.range (locsN p)).map (rowN p m i)
def holdsF (p : Pg) (m : Mc) : List (List Int) := (List.range (locsN p)).map fun n => compI (sortI ((m.cells).filterMap (putsF p m n)))
theorem chunk1 : ∀ (n : Nat) (xs : List AV), n ≤ xs.length → chunk 1 xs n = (xs.take n).map fun x => [x]
 | 0, _, _ => by simp [chunk]
 | n + 1, [], h => by simp at h
 | n + 1, x :: xs, h => by
  simp only [chunk, List.drop_succ_cons, List.drop_zero]
  rw [chunk1 n xs (by simpa using h)]
  simp
/-- The row of rows, each one as long as what is seen of it. -/
def outD (rs : List Rw) (ds : List (List Int)) : List AV := rs.mapIdx fun i r => .loc (i + 3) r.1 0 (gi ds i).length 1 false
@[simp] theorem outD_len (rs : List Rw) (ds : List (List Int)) : (outD rs ds).length = rs.length := by simp [outD]
theorem outD_get {rs : List Rw} {ds : List (List Int)} {N : Nat} (h : N < (outD rs ds).length) : (outD rs ds)[N] = .loc (N + 3) (gi rs N).1 0 (gi ds N).length 1 false := by
 simp at h
 simp [outD, gi, List.getD, h]
theorem outC_D (rs : List Rw) : outC rs = outD rs (rs.map Prod.snd) := by
 unfold outC outD
 apply List.ext_getElem
 ·simp
 ·intro i h1 h2
  simp at h1
  simp [gi, List.getD, h1]
theorem outD_set {rs : List Rw} {ds : List (List Int)} {N g : Nat} {l d : List Int} (h : N < ds.length) : (outD rs ds).set N (.loc (N + 3) g 0 d.length 1 false) = outD (rs.set N (g, l)) (ds.set N d) := by
 apply List.ext_getElem
 ·simp
 ·intro i h1 h2
  simp at h1
  rw [List.getElem_set]
  simp only [outD, List.getElem_mapIdx, List.getElem_set]
  by_cases hi : N = i
  ·subst hi
   simp [gi, List.getD, h]
  ·simp [hi, gi, List.getD]
structure Seen (rs : List Rw) (ds : List (List Int)) : Prop where
 len : ds.length = rs.length
 all : ∀ k : Nat, k < rs.length → ∃ zs, (gi rs k).2 = gi ds k ++ zs
theorem frz_out {p : Pg} {m : Mc} {rs : List Rw} {ds : List (List Int)} (h : Seen rs ds) : frz true (HH p m (outD rs ds) rs) 9 (.loc 2 0 0 rs.length 1 false) = .rows false 1 (ds.map fun l => [ints l]) := by
 have e : frz true (HH p m (outD rs ds) rs) 9 (.loc 2 0 0 rs.length 1 false) = .rows false 1 ((chunk 1 (outD rs ds) rs.length).map fun e => e.map (frz true (HH p m (outD rs ds) rs) 8)) := by
  simp [frz]
 rw [e, chunk1 _ _ (by simp), List.take_of_length_le (by simp)]
 congr 1
 apply List.ext_getElem
 ·simp [h.len]
 ·intro k h1 h2
  have hk : k < rs.length := by simpa using h1
  simp only [List.getElem_map, List.map_cons, List.map_nil]
  congr 1
  rw [outD_get]
  obtain ⟨zs, hz⟩ := h.all k hk
  have hd : ds[k]'(by rw [h.len]; exact hk) = gi ds k := by simp [gi, List.getD, h.len, hk]
  rw [hd]
  have e2 : frz true (HH p m (outD rs ds) rs) 8 (.loc (k + 3) (gi rs k).1 0 (gi ds k).length 1 false) = .rows false 1 ((chunk 1 (iv (gi rs k).2) (gi ds k).length).map fun e => e.map (frz true (HH p m (outD rs ds) rs) 7)) := by
   have hle : (gi ds k).length ≤ (gi rs k).2.length := by rw [hz]; simp
   simp [frz, HH_n hk, hle]
  rw [e2, hz, chunk1 _ _ (by simp)]
  congr 1
  unfold iv
  rw [List.map_append, List.take_left' (by simp)]
  simp [Function.comp_def, frz]
def doneN (p : Pg) (m : Mc) (i : Nat) : List (List Int) := (List.range (locsN p)).map fun n => if n < i then compI (sortI (rowN p m m.cells.length n)) else rowN p m m.cells.length n
theorem doneN_0 (p : Pg) (m : Mc) : doneN p m 0 = rowsN p m m.cells.length := by simp [doneN, rowsN]
theorem doneN_all (p : Pg) (m : Mc) {i : Nat} (h : locsN p ≤ i) : doneN p m i = holdsF p m := by
 unfold doneN holdsF
 refine List.map_congr_left fun n hn => ?_
 rw [if_pos (by have := List.mem_range.1 hn; omega)]
 unfold rowN
 rw [List.take_length]
theorem doneN_get {p : Pg} {m : Mc} {i : Nat} (h : i < locsN p) : gi (doneN p m i) (i : Int) = rowN p m m.cells.length i := by
 simp [doneN, gi, List.getD, h]
theorem doneN_next {p : Pg} {m : Mc} {i : Nat} (h : i < locsN p) : (doneN p m i).set i (compI (sortI (rowN p m m.cells.length i))) = doneN p m (i + 1) := by
 apply List.ext_getElem
 ·simp [doneN]
 ·intro n h1 h2
  rw [List.getElem_set]
  simp only [doneN, List.getElem_map, List.getElem_range]
  by_cases hn : i = n
  ·subst hn
   simp
  ·rw [if_neg hn]
   by_cases hlt : n < i
   ·rw [if_pos hlt, if_pos (by omega)]
   ·rw [if_neg hlt, if_neg (by omega)]
theorem rowN_next {p : Pg} {m : Mc} {i n : Nat} (h : i < m.cells.length) : rowN p m (i + 1) n = rowN p m i n ++ (putsF p m n (gi m.cells i)).toList := by
 unfold rowN
 rw [take_next h, List.filterMap_append]
 simp only [List.filterMap_cons, List.filterMap_nil]
 cases putsF p m n (gi m.cells i) <;> rfl
theorem rowsN_put {p : Pg} {m : Mc} {i N : Nat} {v : Int} (h : i < m.cells.length) (hN : (gi m.cells i).loc = N) (hv : putsF p m N (gi m.cells i) = some v) : (rowsN p m i).set N (rowN p m i N ++ [v]) = rowsN p m (i + 1) := by
 apply List.ext_getElem
 ·simp [rowsN]
 ·intro n h1 h2
  simp only [rowsN, List.length_set, List.length_map, List.length_range] at h1 h2
  rw [List.getElem_set]
  simp only [rowsN, List.getElem_map, List.getElem_range]
  rw [rowN_next h]
  by_cases hn : N = n
  ·subst hn
   rw [if_pos rfl, hv]
   rfl
  ·have : putsF p m n (gi m.cells i) = none := by
    unfold putsF
    rw [if_neg (by omega)]
   rw [if_neg hn, this]
   simp
theorem rowsN_skip {p : Pg} {m : Mc} {i : Nat} (h : i < m.cells.length) (h1 : (gi m.cells i).kind ≠ 1) (h2 : (gi m.cells i).kind ≠ 2) : rowsN p m i = rowsN p m (i + 1) := by
 unfold rowsN
 refine List.map_congr_left fun n _ => ?_
 have : putsF p m n (gi m.cells i) = none := by
  unfold putsF
  rw [if_neg h1, if_neg h2]
  simp
 rw [rowN_next h, this]
 simp
theorem rowsN_0 (p : Pg) (m : Mc) : rowsN p m 0 = List.replicate (locsN p) [] := by
 apply List.ext_getElem <;> simp [rowsN, rowN]
theorem sort29i {H : AHeap} {k g : Nat} {l : List Int} (h : H[k]? = some (.cells g (iv l))) :
  FT Try.prog 29 [.loc k g 0 l.length 1 false] H fun rv H' => rv = .tuple [] ∧ H' = H.set k (.cells g (iv (sortI l))) := sort29_FT h
theorem comp30i {H : AHeap} {k g : Nat} {l : List Int} (h : H[k]? = some (.cells g (iv l))) :
  FT Try.prog 30 [.loc k g 0 l.length 1 false] H fun rv H' => rv = .loc k g 0 (compI l).length 1 false ∧ ∃ zs : List Int, zs.length = l.length - (compI l).length ∧ H' = H.set k (.cells g (iv (compI l ++ zs))) := comp30_FT h
theorem holds_PF {p : Pg} (hp : Of p) {m : Mc} (h : MOk p m) : PF Try.prog 14 [.agg p.cs, .agg m.av] (.rows false 1 ((holdsF p m).map fun l => [ints l])) := by
 refine PFk 9 hm Try.func14 c14_ok (Nat.le_of_ble_eq_true rfl) (by simp) (by simp) ?_
 have hl := hp.neat.locs
 have hw : IntKind.i64.wrap (((varsOf p).length : Int) + sitesN p.l) = locsN p := by rw [w64 (by omega) (by omega)]; simp [locsN]
 have hn : locsN p ≤ 40 := hl
 have hA : locsN p ≤ maxA := by unfold maxA; omega
 have a1 : m.cells.length ≤ maxA := by have := h.cs.few; unfold maxA; omega
 simp (maxSteps := 3000000) [-List.length_flatten, -List.map_drop, -List.map_take, Function.comp_def, argsT, Opd.ev, Tm.get, put, ares, mapMo, ares1, snilP, bldParts, bslParts, putAt, AV.cells, AV.one, astore, aload, loadCs, callArgs, abin, abinInt, aapp, elems, appMore, appNone, preLen, aFa, aFld, apart, aExt, aPick, aNot, aLens, aEqa, cellsK, fitsA, LK.fitsA, leavesA, leafA, nilD, aNilc, aCint, aCid, alive, Rle, lePs, len_flat, c14]
 refine ⟨_, (vars27_PF p hp.fits).le 9 (by simp [lePs, -List.length_flatten, -List.map_drop, -List.map_take, Function.comp_def, len_flat]) (by simp), ?_⟩
 simp (maxSteps := 3000000) [-List.length_flatten, -List.map_drop, -List.map_take, Function.comp_def, argsT, Opd.ev, Tm.get, put, ares, mapMo, ares1, snilP, bldParts, bslParts, putAt, AV.cells, AV.one, astore, aload, loadCs, callArgs, abin, abinInt, aapp, elems, appMore, appNone, preLen, aFa, aFld, apart, aExt, aPick, aNot, aLens, aEqa, cellsK, fitsA, LK.fitsA, leavesA, leafA, nilD, aNilc, aCint, aCid, alive, Rle, lePs, len_flat, Kc]
 intro _
 refine ⟨_, (sites28_PF p hp.fits).le 9 (by simp [lePs, -List.length_flatten, -List.map_drop, -List.map_take, Function.comp_def, len_flat]) (by simp), ?_⟩
 have hmk : ∀ H, aMksl 1 24 [.nilS] H (i64 (locsN p)) (i64 (locsN p)) = some (.loc H.length 0 0 (locsN p) 1 false, H ++ [.cells 0 (List.replicate (locsN p) .nilS)]) := by
  intro H
  have hf : ∀ n : Nat, (List.replicate n [AV.nilS]).flatten = List.replicate n .nilS := by
   intro n
   induction n with
   | zero => rfl
   | succ n ih => simp [List.replicate_succ, ih]
  have b1 : (locsN p : Int) * 24 ≤ limB := by unfold limB; omega
  have b2 : (locsN p : Int) ≤ maxA := by omega
  simp [aMksl, b1, b2, hf]
 simp (maxSteps := 3000000) [-List.length_flatten, -List.map_drop, -List.map_take, Function.comp_def, argsT, Opd.ev, Tm.get, put, ares, mapMo, ares1, snilP, bldParts, bslParts, putAt, AV.cells, AV.one, astore, aload, loadCs, callArgs, abin, abinInt, aapp, elems, appMore, appNone, preLen, aFa, aFld, apart, aExt, aPick, aNot, aLens, aEqa, cellsK, fitsA, LK.fitsA, leavesA, leafA, nilD, aNilc, aCint, aCid, alive, Rle, lePs, len_flat, Kc, hw, hA, hmk]
 intro _
 refine run_loopK (fun k T H => ∃ (i : Nat) (rs : List Rw), k = m.cells.length - i ∧ i ≤ m.cells.length ∧ rs.map Prod.snd = rowsN p m i ∧ T = [(21, i64 i), (20, i64 m.cells.length), (19, cellsV m.cells), (6, .loc 2 0 0 (locsN p) 1 false), (5, i64 (locsN p)), (3, .ptr 1 0 0), (2, .ptr 0 0 0)] ∧ H = HH p m (outC rs) rs) m.cells.length
  [(21, i64 (0 : Nat)), (20, i64 m.cells.length), (19, cellsV m.cells), (6, .loc 2 0 0 (locsN p) 1 false), (5, i64 (locsN p)), (3, .ptr 1 0 0), (2, .ptr 0 0 0)] _ ((Wk.sub (T' := [(21, i64 (0 : Nat)), (20, i64 m.cells.length), (19, cellsV m.cells), (6, .loc 2 0 0 (locsN p) 1 false), (5, i64 (locsN p)), (3, .ptr 1 0 0), (2, .ptr 0 0 0)]) (by simp [Tm.get])).trans Wk.rows) ⟨0, _, rfl, by omega, ?_, rfl, rfl⟩ ?_
 ·simp [rowsN_0]
 rintro k T H ⟨i, rs, rfl, hi, hrs, rfl, rfl⟩ KK kx kr kn
 have hrl : rs.length = locsN p := by
  have := congrArg List.length hrs
  simpa [rowsN] using this
 by_cases hic : i < m.cells.length
 ·have hne : cellsV m.cells = .rows false 3 (m.cells.map Cl.cs) := cellsV_ne (fun e => by rw [e] at hic; simp at hic)
  have hcm := gi_mem hic
  obtain ⟨v1, v2, v3, v4, v5⟩ := h.cs.vals _ hcm
  obtain ⟨N, hN, hNl⟩ : ∃ N : Nat, (gi m.cells i).loc = N ∧ N < rs.length := by
   obtain ⟨q1, q2⟩ := h.cs.locs i hic
   rw [hrl]
   unfold locsN
   by_cases hv : i < (varsOf p).length
   ·exact ⟨i, q1 hv, by omega⟩
   ·obtain ⟨q3, q4⟩ := q2 (by omega)
    exact ⟨(gi m.cells i).loc.toNat, by omega, by omega⟩
  have h1N : 1 ≤ rs.length - N := by omega
  have hNe : ¬ N = rs.length := by omega
  have hNe' : ¬ rs.length = N := by omega
  have hrow : (gi rs N).2 = rowN p m i N := by
   have e : gi (rs.map Prod.snd) (N : Int) = gi (rowsN p m i) N := by rw [hrs]
   have e1 : gi (rs.map Prod.snd) (N : Int) = (gi rs N).2 := by simp [gi, List.getD, hNl]
   have e2 : gi (rowsN p m i) (N : Int) = rowN p m i N := by
    rw [hrl] at hNl
    simp [gi, List.getD, rowsN, hNl]
   rw [← e1, e, e2]
  have hLe0 : (gi rs N).2.length ≤ i := by
   rw [hrow]
   exact Nat.le_trans (List.length_filterMap_le _ _) (by simp; omega)
  have hLe : (gi rs N).2.length ≤ maxA := by omega
  have hLe2 : (gi rs N).2.length + 1 ≤ maxA := by omega
  have nx : ∀ (T : Tm) (v : Int) (b : ABlk), al (fun q => T.get q.1 = q.2) [(21, i64 (i + 1 : Nat)), (20, i64 m.cells.length), (19, cellsV m.cells), (6, .loc 2 0 0 (locsN p) 1 false), (5, i64 (locsN p)), (3, .ptr 1 0 0), (2, .ptr 0 0 0)] →
    putsF p m N (gi m.cells i) = some v → KK .normal T (HH p m ((outC rs).set N (.loc (N + 3) ((gi rs N).1 + 1) 0 ((gi rs N).2.length + 1) 1 false)) (rs.set N ((gi rs N).1 + 1, (gi rs N).2 ++ [v])) ++ [b]) := by
   intro T v b ht hv
   have e := outC_set (rs := rs) (N := N) (r := ((gi rs N).1 + 1, (gi rs N).2 ++ [v]))
   simp only [List.length_append, List.length_singleton] at e
   rw [e]
   refine kn _ _ (Kl_next (m.cells.length - (i + 1)) ((rs.set N ((gi rs N).1 + 1, (gi rs N).2 ++ [v])).length + 3) (by simp) ⟨i + 1, _, rfl, by omega, ?_, rfl, rfl⟩ ht (by simp [RL_cellsV]) HH_take HH_al (by omega))
   rw [List.map_set, hrs, ← rowsN_put hic hN hv, hrow]
  by_cases hk1 : (gi m.cells i).kind = 1
  ·obtain ⟨v41, v42⟩ := v4 hk1
   simp (maxSteps := 3000000) [-List.length_flatten, -List.map_drop, -List.map_take, Function.comp_def, argsT, Opd.ev, Tm.get, put, ares, mapMo, ares1, snilP, bldParts, bslParts, putAt, AV.cells, AV.one, astore, aload, loadCs, callArgs, abin, abinInt, aapp, elems, appMore, appNone, preLen, aFa, aFld, apart, aExt, aPick, aNot, aLens, aEqa, cellsK, fitsA, LK.fitsA, leavesA, leafA, nilD, aNilc, aCint, aCid, alive, Rle, lePs, len_flat, h1N, hLe, hLe2, hic, hne, hk1, hN, hNl, HH_n' hNl, HH_n hNl, outC_get hNl, HH_row' hNl, iv_app, ← hrl, v41, v42, indB, apartB, apartS, refA, aliveRd, hNe, hNe']
   intro _
   exact ⟨hNl, nx _ _ _ (by simp [Tm.get, nxt hic a1, hrl, hne]) (by simp [putsF, hN, hk1])⟩
  ·by_cases hk2 : (gi m.cells i).kind = 2
   ·have hwv : IntKind.i64.wrap ((rs.length : Int) + (gi m.cells i).v) = rs.length + (gi m.cells i).v := by
     obtain ⟨q1, q2⟩ := v5 hk2
     have := hp.neat.funs
     rw [w64 (by omega) (by omega)]
    simp (maxSteps := 3000000) [-List.length_flatten, -List.map_drop, -List.map_take, Function.comp_def, argsT, Opd.ev, Tm.get, put, ares, mapMo, ares1, snilP, bldParts, bslParts, putAt, AV.cells, AV.one, astore, aload, loadCs, callArgs, abin, abinInt, aapp, elems, appMore, appNone, preLen, aFa, aFld, apart, aExt, aPick, aNot, aLens, aEqa, cellsK, fitsA, LK.fitsA, leavesA, leafA, nilD, aNilc, aCint, aCid, alive, Rle, lePs, len_flat, h1N, hLe, hLe2, hic, hne, hk1, hk2, hN, hNl, HH_n' hNl, HH_n hNl, outC_get hNl, HH_row' hNl, iv_app, ← hrl, hwv, indB, apartB, apartS, refA, aliveRd, hNe, hNe']
    intro _
    exact ⟨hNl, nx _ _ _ (by simp [Tm.get, nxt hic a1, hrl, hne]) (by simp [putsF, hN, hk1, hk2, hrl])⟩
   ·simp (maxSteps := 3000000) [-List.length_flatten, -List.map_drop, -List.map_take, Function.comp_def, argsT, Opd.ev, Tm.get, put, ares, mapMo, ares1, snilP, bldParts, bslParts, putAt, AV.cells, AV.one, astore, aload, loadCs, callArgs, abin, abinInt, aapp, elems, appMore, appNone, preLen, aFa, aFld, apart, aExt, aPick, aNot, aLens, aEqa, cellsK, fitsA, LK.fitsA, leavesA, leafA, nilD, aNilc, aCint, aCid, alive, Rle, lePs, len_flat, hic, hne, hk1, hk2, hN]
    refine kn _ _ (Kl_next (m.cells.length - (i + 1)) (rs.length + 3) (by simp) (T' := [(21, i64 (i + 1 : Nat)), (20, i64 m.cells.length), (19, cellsV m.cells), (6, .loc 2 0 0 (locsN p) 1 false), (5, i64 (locsN p)), (3, .ptr 1 0 0), (2, .ptr 0 0 0)]) ⟨i + 1, rs, rfl, by omega, by rw [hrs, rowsN_skip hic hk1 hk2], rfl, rfl⟩ (by simp [Tm.get, nxt hic a1, hne]) (by simp) HH_take HH_al (by omega))
 ·have hall : m.cells.take i = m.cells := List.take_of_length_le (by omega)
  simp (maxSteps := 3000000) [-List.length_flatten, -List.map_drop, -List.map_take, Function.comp_def, argsT, Opd.ev, Tm.get, put, ares, mapMo, ares1, snilP, bldParts, bslParts, putAt, AV.cells, AV.one, astore, aload, loadCs, callArgs, abin, abinInt, aapp, elems, appMore, appNone, preLen, aFa, aFld, apart, aExt, aPick, aNot, aLens, aEqa, cellsK, fitsA, LK.fitsA, leavesA, leafA, nilD, aNilc, aCint, aCid, alive, Rle, lePs, len_flat, hic, kx]
  have hil : i = m.cells.length := by omega
  rw [hil] at hrs
  simp (maxSteps := 3000000) [-List.length_flatten,-List.map_drop,-List.map_take,Function.comp_def,argsT,Opd.ev,Tm.get,put,ares,mapMo,ares1,snilP,bldParts,bslParts,putAt,AV.cells,AV.one,astore,aload,loadCs,callArgs,abin,abinInt,aapp,elems,appMore,appNone,preLen,aFa,aFld,apart,aExt,aPick,aNot,aLens,aEqa,cellsK,fitsA,LK.fitsA,leavesA,leafA,nilD,aNilc,aCint,aCid,alive,alen,alenOk,Rle,lePs,len_flat, hA]
  rw [outC_D, hrs, ← doneN_0]
  refine run_loopK (fun k T H => ∃ (i : Nat) (rs : List Rw), k = locsN p - i ∧ i ≤ locsN p ∧ rs.length = locsN p ∧ Seen rs (doneN p m i) ∧ (∀ k : Nat, i ≤ k → k < locsN p → (gi rs k).2 = rowN p m m.cells.length k) ∧ T = [(67, i64 i), (66, i64 (locsN p)), (6, .loc 2 0 0 (locsN p) 1 false)] ∧ H = HH p m (outD rs (doneN p m i)) rs) (locsN p)
   [(67, i64 (0 : Nat)), (66, i64 (locsN p)), (6, .loc 2 0 0 (locsN p) 1 false)] _ (Wk.sub (T' := [(67, i64 (0 : Nat)), (66, i64 (locsN p)), (6, .loc 2 0 0 (locsN p) 1 false)]) (by simp [Tm.get])) ⟨0, rs, rfl, by omega, hrl, ?_, ?_, rfl, rfl⟩ ?_
  ·refine ⟨by simp [doneN, hrl], fun k hk => ⟨[], ?_⟩⟩
   rw [List.append_nil, doneN_0, ← hrs]
   simp [gi, List.getD, hk]
  ·intro k _ hk
   have e1 : gi (rs.map Prod.snd) (k : Int) = (gi rs k).2 := by simp [gi, List.getD, hrl, hk]
   rw [← e1, hrs]
   simp [rowsN, gi, List.getD, hk]
  clear kx kr kn hrs hrl hic hil hall
  clear hi
  clear rs
  rintro k T H ⟨i, rs, rfl, hi, hrl, hse, hlt, rfl, rfl⟩ KK kx kr kn
  by_cases hin : i < locsN p
  ·have hir : i < rs.length := by omega
   have h1i : 1 ≤ rs.length - i := by omega
   have hgi := doneN_get (m := m) hin
   have hrow := hlt i (Nat.le_refl _) hin
   have hnx := doneN_next (m := m) hin
   have hdl : i < (doneN p m i).length := by rw [hse.len]; exact hir
   generalize rowN p m m.cells.length i = Rr at *
   have hH := HH_n (p := p) (m := m) (oc := outD rs (doneN p m i)) hir
   rw [hrow] at hH
   simp (maxSteps := 3000000) [-List.length_flatten,-List.map_drop,-List.map_take,Function.comp_def,argsT,Opd.ev,Tm.get,put,ares,mapMo,ares1,snilP,bldParts,bslParts,putAt,AV.cells,AV.one,astore,aload,loadCs,callArgs,abin,abinInt,aapp,elems,appMore,appNone,preLen,aFa,aFld,apart,aExt,aPick,aNot,aLens,aEqa,cellsK,fitsA,LK.fitsA,leavesA,leafA,nilD,aNilc,aCint,aCid,alive,alen,alenOk,Rle,lePs,len_flat, hin, hir, ← hrl, outD_get, h1i, hgi]
   refine (sort29i hH).mono ?_
   rintro _ _ ⟨rfl, rfl⟩
   rw [HH_row]
   simp (maxSteps := 3000000) [-List.length_flatten,-List.map_drop,-List.map_take,Function.comp_def,argsT,Opd.ev,Tm.get,put,ares,mapMo,ares1,snilP,bldParts,bslParts,putAt,AV.cells,AV.one,astore,aload,loadCs,callArgs,abin,abinInt,aapp,elems,appMore,appNone,preLen,aFa,aFld,apart,aExt,aPick,aNot,aLens,aEqa,cellsK,fitsA,LK.fitsA,leavesA,leafA,nilD,aNilc,aCint,aCid,alive,alen,alenOk,Rle,lePs,len_flat, Kc, hir, outD_get, h1i, hgi]
   have hH2 := HH_n (p := p) (m := m) (oc := outD rs (doneN p m i)) (rs := rs.set i ((gi rs i).1, sortI Rr)) (N := i) (by simpa using hir)
   have hg2 : gi (rs.set i ((gi rs i).1, sortI Rr)) (i : Int) = ((gi rs i).1, sortI Rr) := by simp [gi, List.getD, hir]
   rw [hg2] at hH2
   have hsl : Rr.length = (sortI Rr).length := by simp [sortI]
   rw [hsl]
   refine (comp30i hH2).mono ?_
   rintro _ _ ⟨rfl, zs, _, rfl⟩
   rw [HH_row]
   simp (maxSteps := 3000000) [-List.length_flatten,-List.map_drop,-List.map_take,Function.comp_def,argsT,Opd.ev,Tm.get,put,ares,mapMo,ares1,snilP,bldParts,bslParts,putAt,AV.cells,AV.one,astore,aload,loadCs,callArgs,abin,abinInt,aapp,elems,appMore,appNone,preLen,aFa,aFld,apart,aExt,aPick,aNot,aLens,aEqa,cellsK,fitsA,LK.fitsA,leavesA,leafA,nilD,aNilc,aCint,aCid,alive,alen,alenOk,Rle,lePs,len_flat, Kc, hir, outD_get, h1i]
   refine ⟨hir, ?_⟩
   rw [outD_set (l := compI (sortI Rr) ++ zs) hdl, hnx]
   have hgs : ∀ k : Nat, gi (rs.set i ((gi rs i).1, compI (sortI Rr) ++ zs)) (k : Int) = if i = k then ((gi rs i).1, compI (sortI Rr) ++ zs) else gi rs k := fun k => gi_set hir
   refine kn _ _ (Kl_sub (locsN p - (i + 1)) (T' := [(67, i64 (i + 1 : Nat)), (66, i64 (locsN p)), (6, .loc 2 0 0 (locsN p) 1 false)]) ⟨i + 1, _, rfl, by omega, by simpa using hrl, ⟨by simp [doneN, hrl], fun k hk => ?_⟩, fun k h1 h2 => ?_, rfl, rfl⟩ (by simp [Tm.get, nxt hin hA, hrl]) (by omega))
   ·simp only [List.length_set] at hk
    rw [hgs k, ← hnx, gi_set hdl]
    by_cases hik : i = k
    ·rw [if_pos hik, if_pos hik]
     exact ⟨zs, rfl⟩
    ·rw [if_neg hik, if_neg hik]
     exact hse.all k hk
   ·rw [hgs k, if_neg (by omega)]
    exact hlt k (by omega) h2
  ·simp (maxSteps := 3000000) [-List.length_flatten,-List.map_drop,-List.map_take,Function.comp_def,argsT,Opd.ev,Tm.get,put,ares,mapMo,ares1,snilP,bldParts,bslParts,putAt,AV.cells,AV.one,astore,aload,loadCs,callArgs,abin,abinInt,aapp,elems,appMore,appNone,preLen,aFa,aFld,apart,aExt,aPick,aNot,aLens,aEqa,cellsK,fitsA,LK.fitsA,leavesA,leafA,nilD,aNilc,aCint,aCid,alive,alen,alenOk,Rle,lePs,len_flat, hin, kx]
   have e := frz_out (p := p) (m := m) hse
   have e2 := leP_refl 9 (frz true (HH p m (outD rs (doneN p m i)) rs) 9 (.loc 2 0 0 rs.length 1 false))
   conv at e2 => rhs; rw [e]
   rw [← doneN_all p m (show locsN p ≤ i by omega)]
   simpa [hrl] using e2
end Go.AM

namespace Go.AM
open Go.Proofs
set_option maxRecDepth 100000
set_option linter.unusedVariables false
set_option linter.unusedSimpArgs false
/-! ### Sets of places -/
abbrev Mx := List (List Bool)
def val (M : Mx) (n k : Nat) : Bool := (M.getD n []).getD k false
abbrev bs (r : List Bool) : List AV := r.map AV.bool
def rb (r : List Bool) : ABlk := .cells 0 (bs r)
structure Sh (M : Mx) (h w : Nat) : Prop where
 len : M.length = h
 wid : ∀ n, n < h → (M.getD n []).length = w
/-- Rows of sets behind other blocks, and ahead of others. -/
def HM (A : AHeap) (M : Mx) (C : AHeap) : AHeap := A ++ (M.map rb ++ C)
section
variable {A C : AHeap} {M : Mx}
theorem HM_len : (HM A M C).length = A.length + (M.length + C.length) := by simp [HM]
theorem HM_out {i : Nat} (h : i < A.length) : (HM A M C)[i]? = A[i]? := by simp [HM, List.getElem?_append_left h]
theorem HM_row {n : Nat} (h : n < M.length) : (HM A M C)[A.length + n]? = some (rb (M.getD n [])) := by
 unfold HM
 rw [List.getElem?_append_right (by omega), show A.length + n - A.length = n by omega, List.getElem?_append_left (by simpa using h)]
 simp [List.getD, h]
theorem HM_set {n : Nat} (h : n < M.length) (r : List Bool) : (HM A M C).set (A.length + n) (rb r) = HM A (M.set n r) C := by
 unfold HM
 rw [List.set_append_right _ _ (by omega), show A.length + n - A.length = n by omega, List.set_append_left _ _ (by simpa using h), List.map_set]
theorem HM_app (X : AHeap) : HM A M C ++ X = HM A M (C ++ X) := by simp [HM]
theorem HM_C {i : Nat} : (HM A M C)[A.length + (M.length + i)]? = C[i]? := by
 unfold HM
 rw [List.getElem?_append_right (by omega), show A.length + (M.length + i) - A.length = M.length + i by omega, List.getElem?_append_right (by simp), List.length_map, show M.length + i - M.length = i by omega]
theorem HM_take (X : AHeap) : (HM A M (C ++ X)).take (HM A M C).length = HM A M C := by
 rw [← HM_app, List.take_left]
end
/-- The row of rows: one slice a row. -/
def outC2 (B h w : Nat) : List AV := (List.range h).map fun n : Nat => AV.loc (B + n) 0 0 w 1 false
theorem outC2_len (B h w : Nat) : (outC2 B h w).length = h := by simp [outC2]
theorem outC2_get {B h w n : Nat} (hn : n < h) : (outC2 B h w)[n]? = some (.loc (B + n) 0 0 w 1 false) := by simp [outC2, hn]
theorem outC2_load {B h w n : Nat} (hn : n < h) : loadCs 1 false ((outC2 B h w).drop n) = some (.loc (B + n) 0 0 w 1 false) := by
 have hl := outC2_len B h w
 have : ((outC2 B h w).drop n).head? = (outC2 B h w)[n]? := by simp
 simp [loadCs, hl, outC2_get hn]
 omega
theorem bs_load {r : List Bool} {k : Nat} (hk : k < r.length) : loadCs 1 false ((bs r).drop k) = some (.bool (r.getD k false)) := by
 simp [loadCs, List.getD, hk]
 omega
/-- The first places of a row, with what is in another one. -/
def orJ (r q : List Bool) (j : Nat) : List Bool := (List.range r.length).map fun k => if k < j then (r.getD k false || q.getD k false) else r.getD k false
theorem orJ_len (r q : List Bool) (j : Nat) : (orJ r q j).length = r.length := by simp [orJ]
theorem orJ_get {r q : List Bool} {j k : Nat} : (orJ r q j).getD k false = if k < j ∧ k < r.length then (r.getD k false || q.getD k false) else r.getD k false := by
 unfold orJ
 by_cases hk : k < r.length
 ·simp only [List.getD, List.getElem?_map, List.getElem?_range hk, Option.map_some, Option.getD_some]
  by_cases hj : k < j
  ·simp [hj, hk]
  ·simp [hj, hk]
 ·have : (r.getD k false) = false := by simp [List.getD, List.getElem?_eq_none (Nat.le_of_not_lt hk)]
  simp [List.getD, List.getElem?_eq_none (Nat.le_of_not_lt hk), hk]
theorem row_ext {r q : List Bool} (h : r.length = q.length) (hk : ∀ k, k < r.length → r.getD k false = q.getD k false) : r = q := by
 apply List.ext_getElem h
 intro i h1 h2
 have := hk i h1
 simpa [List.getD, h1, h2] using this
theorem orJ_zero (r q : List Bool) : orJ r q 0 = r := row_ext (orJ_len ..) fun k hk => by rw [orJ_get]; simp
theorem orJ_self (r : List Bool) (j : Nat) : orJ r r j = r := row_ext (orJ_len ..) fun k hk => by rw [orJ_get]; simp
theorem orJ_next {r q : List Bool} {j : Nat} (hj : j < r.length) : orJ r q (j + 1) = if q.getD j false = true ∧ r.getD j false = false then (orJ r q j).set j true else orJ r q j := by
 refine row_ext (by split <;> simp [orJ_len]) fun k hk => ?_
 rw [orJ_len] at hk
 have hset : ((orJ r q j).set j true).getD k false = if j = k then true else (orJ r q j).getD k false := by
  have hl := orJ_len r q j
  simp only [List.getD, List.getElem?_set]
  by_cases e : j = k
  ·subst e; simp [hl, hj]
  ·simp [e]
 rw [orJ_get]
 split
 ·rename_i hc
  split
  ·rename_i h
   rw [hset]
   by_cases e : j = k
   ·subst e; rw [h.1, if_pos rfl]; simp
   ·rw [if_neg e, orJ_get, if_pos ⟨by omega, hk⟩]
  ·rename_i h
   rw [orJ_get]
   by_cases e : k = j
   ·subst e
    rw [if_neg (by omega)]
    cases h1 : q.getD k false <;> cases h2 : r.getD k false <;> simp_all
   ·rw [if_pos ⟨by omega, hk⟩]
 ·rename_i hc
  have hkj : j < k := by omega
  split
  ·rw [hset, if_neg (by omega), orJ_get, if_neg (by omega)]
  ·rw [orJ_get, if_neg (by omega)]
def intoJ (M : Mx) (f t j : Nat) : Mx := M.set t (orJ (M.getD t []) (M.getD f []) j)
def intoF (M : Mx) (f t : Nat) : Mx := intoJ M f t (M.getD t []).length
theorem getD_set {M : Mx} {t n : Nat} {r : List Bool} (ht : t < M.length) : (M.set t r).getD n [] = if t = n then r else M.getD n [] := by
 simp only [List.getD, List.getElem?_set]
 by_cases e : t = n
 ·subst e; simp [ht]
 ·simp [e]
theorem set_getD {M : Mx} {t : Nat} : M.set t (M.getD t []) = M := by
 apply List.ext_getElem (by simp)
 intro i h1 h2
 rw [List.getElem_set]
 split
 ·rename_i e
  subst e
  simp [List.getD, h2]
 ·rfl
theorem intoJ_row {M : Mx} {f t j : Nat} (ht : t < M.length) : (intoJ M f t j).getD f [] = M.getD f [] := by
 unfold intoJ
 rw [getD_set ht]
 split
 ·rename_i e
  subst e
  exact orJ_self _ _
 ·rfl
theorem intoJ_to {M : Mx} {f t j : Nat} (ht : t < M.length) : (intoJ M f t j).getD t [] = orJ (M.getD t []) (M.getD f []) j := by
 unfold intoJ
 rw [getD_set ht, if_pos rfl]
theorem intoJ_zero (M : Mx) (f t : Nat) : intoJ M f t 0 = M := by
 unfold intoJ
 rw [orJ_zero, set_getD]
theorem intoJ_len (M : Mx) (f t j : Nat) : (intoJ M f t j).length = M.length := by simp [intoJ]
/-- Is there something new among the first places? -/
def newJ (M : Mx) (f t j : Nat) : Bool := decide (∃ k, k < j ∧ (M.getD f []).getD k false = true ∧ (M.getD t []).getD k false = false)
theorem newJ_next (M : Mx) (f t j : Nat) : newJ M f t (j + 1) = (newJ M f t j || ((M.getD f []).getD j false && !(M.getD t []).getD j false)) := by
 unfold newJ
 rw [Bool.eq_iff_iff]
 simp only [decide_eq_true_eq, Bool.or_eq_true, Bool.and_eq_true, Bool.not_eq_true']
 constructor
 ·rintro ⟨k, h1, h2⟩
  rcases Nat.lt_or_ge k j with h3 | h3
  ·exact .inl ⟨k, h3, h2⟩
  ·have : k = j := by omega
   subst this
   exact .inr h2
 ·rintro (⟨k, h1, h2⟩ | h)
  ·exact ⟨k, by omega, h2⟩
  ·exact ⟨j, by omega, h⟩
end Go.AM

namespace Go.AM
open Go.Proofs
set_option maxRecDepth 100000
set_option linter.unusedVariables false
set_option linter.unusedSimpArgs false
def c25 : AFn := ⟨9,.seq (.reg false [⟨some 1,.box (.tmp 0),none⟩,⟨some 2,.mov (.lit (.int .i64 0)),none⟩]) (.seq (.reg true [⟨some 3,.load 2 true (.tmp 1),none⟩,⟨some 4,.call (.lit (.fn (.func 19) [] [])) [.tmp 3],none⟩,⟨some 5,.len (.tmp 4),none⟩,⟨some 6,.load 2 true (.tmp 1),none⟩,⟨some 7,.call (.lit (.fn (.func 20) [] [])) [.tmp 6],none⟩,⟨some 8,.bin .add (.tmp 5) (.tmp 7),none⟩,⟨some 2,.mov (.tmp 8),none⟩]) .ret),[.tmp 2]⟩
def c48 : AFn := ⟨22,.seq (.reg false [⟨some 2,.box (.tmp 0),none⟩,⟨some 4,.mov (.lit (.int .i64 0)),none⟩]) (.seq (.seq (.reg false [⟨some 5,.mov (.lit (.int .i64 0)),none⟩]) (.block 0 (.loop (.seq (.seq (.reg false [⟨some 6,.mov (.tmp 5),none⟩,⟨some 7,.fa 0 (.tmp 2),none⟩,⟨some 8,.load 1 false (.tmp 7),none⟩,⟨some 9,.len (.tmp 8),none⟩,⟨some 10,.bin .lss (.tmp 6) (.tmp 9),none⟩]) (.cond (.tmp 10) .skip (.exit 0))) (.seq (.block 1 (.seq (.reg false [⟨some 13,.fa 0 (.tmp 2),none⟩,⟨some 14,.load 1 false (.tmp 13),none⟩,⟨some 15,.mov (.tmp 5),none⟩,⟨some 16,.ia 3 (.tmp 14) (.tmp 15),none⟩,⟨some 17,.fa 0 (.tmp 16),none⟩,⟨some 18,.load 1 false (.tmp 17),none⟩,⟨some 19,.mov (.tmp 1),none⟩,⟨some 20,.bin .eql (.tmp 18) (.tmp 19),none⟩]) (.cond (.tmp 20) (.seq (.reg false [⟨some 21,.mov (.tmp 5),none⟩,⟨some 4,.mov (.tmp 21),none⟩]) .ret) .skip))) (.reg false [⟨some 11,.mov (.tmp 5),none⟩,⟨some 12,.bin .add (.tmp 11) (.lit (.int .i64 1)),none⟩,⟨some 5,.mov (.tmp 12),none⟩])))))) (.seq (.reg false [⟨some 4,.mov (.lit (.int .i64 (-1))),none⟩]) .ret)),[.tmp 4]⟩
def c49 : AFn := ⟨42,.seq (.reg false [⟨some 6,.mov (.lit (.bool false)),none⟩]) (.seq (.reg false [⟨some 7,.mov (.lit (.bool false)),none⟩]) (.seq (.seq (.reg false [⟨some 8,.mov (.lit (.int .i64 0)),none⟩]) (.block 0 (.loop (.seq (.seq (.reg false [⟨some 9,.mov (.tmp 8),none⟩,⟨some 10,.mov (.tmp 0),none⟩,⟨some 11,.mov (.tmp 1),none⟩,⟨some 12,.ia 1 (.tmp 10) (.tmp 11),none⟩,⟨some 13,.load 1 false (.tmp 12),none⟩,⟨some 14,.len (.tmp 13),none⟩,⟨some 15,.bin .lss (.tmp 9) (.tmp 14),none⟩]) (.cond (.tmp 15) .skip (.exit 0))) (.seq (.block 1 (.seq (.reg false [⟨some 18,.mov (.tmp 0),none⟩,⟨some 19,.mov (.tmp 1),none⟩,⟨some 20,.ia 1 (.tmp 18) (.tmp 19),none⟩,⟨some 21,.load 1 false (.tmp 20),none⟩,⟨some 22,.mov (.tmp 8),none⟩,⟨some 23,.ia 1 (.tmp 21) (.tmp 22),none⟩,⟨some 24,.load 1 false (.tmp 23),none⟩,⟨some 25,.mov (.tmp 24),none⟩,⟨some 26,.mov (.tmp 0),some ((25,true))⟩,⟨some 27,.mov (.tmp 2),some ((25,true))⟩,⟨some 28,.ia 1 (.tmp 26) (.tmp 27),some ((25,true))⟩,⟨some 29,.load 1 false (.tmp 28),some ((25,true))⟩,⟨some 30,.mov (.tmp 8),some ((25,true))⟩,⟨some 31,.ia 1 (.tmp 29) (.tmp 30),some ((25,true))⟩,⟨some 32,.load 1 false (.tmp 31),some ((25,true))⟩,⟨some 33,.not (.tmp 32),some ((25,true))⟩,⟨some 34,.pick (.tmp 25) (.tmp 33) (.lit (.bool false)),none⟩]) (.cond (.tmp 34) (.seq (.reg false [⟨some 35,.mov (.tmp 0),none⟩,⟨some 36,.mov (.tmp 2),none⟩,⟨some 37,.ia 1 (.tmp 35) (.tmp 36),none⟩,⟨some 38,.load 1 false (.tmp 37),none⟩,⟨some 39,.mov (.tmp 8),none⟩,⟨some 40,.ia 1 (.tmp 38) (.tmp 39),none⟩,⟨none,.store 1 (.tmp 40) (.lit (.bool true)),none⟩]) (.reg false [⟨some 7,.mov (.lit (.bool true)),none⟩])) .skip))) (.reg false [⟨some 16,.mov (.tmp 8),none⟩,⟨some 17,.bin .add (.tmp 16) (.lit (.int .i64 1)),none⟩,⟨some 8,.mov (.tmp 17),none⟩])))))) (.seq (.reg false [⟨some 41,.mov (.tmp 7),none⟩,⟨some 6,.mov (.tmp 41),none⟩]) .ret))),[.tmp 6]⟩
/-! ### A set put into another one -/
theorem c49_ok : cFn Try.prog an0 Try.f49 = some c49 := by kernel_rfl
theorem into_FT {A C : AHeap} {M : Mx} {I h w : Nat} (hS : Sh M h w) (hI : A[I]? = some (.cells 0 (outC2 A.length h w))) {f t : Nat} (hf : f < h) (ht : t < h) (hh : h ≤ 1000) (hw : w ≤ 1000) :
  FT Try.prog 49 [.loc I 0 0 h 1 false, i64 f, i64 t] (HM A M C) fun rv H' => rv = .bool (newJ M f t w) ∧ H' = HM A (intoF M f t) C := by
 refine FTk hm Try.func49 c49_ok (Nat.le_of_ble_eq_true rfl) ?_
 have hIA : I < A.length := lt_of_get hI
 have hMl := hS.len
 have hwf := hS.wid f hf
 have hwt := hS.wid t ht
 have hlo := outC2_len A.length h w
 have hL1 := outC2_load (B := A.length) (w := w) hf
 have hL2 := outC2_load (B := A.length) (w := w) ht
 have n0 : newJ M f t 0 = false := by simp [newJ]
 simp (maxSteps := 3000000) [-List.length_flatten,-List.map_drop,-List.map_take,Function.comp_def,argsT,Opd.ev,Tm.get,put,ares,mapMo,ares1,snilP,bldParts,bslParts,putAt,AV.cells,AV.one,astore,aload,loadCs,callArgs,abin,abinInt,aapp,elems,appMore,appNone,preLen,aFa,aFld,apart,aExt,aPick,aNot,aLens,aEqa,cellsK,fitsA,LK.fitsA,leavesA,leafA,nilD,aNilc,aCint,aCid,alive,alen,alenOk,Rle,lePs,len_flat, c49]
 refine run_loopK (fun m T H => ∃ j : Nat, m = w - j ∧ j ≤ w ∧ T = [(8, i64 j), (7, .bool (newJ M f t j)), (2, i64 t), (1, i64 f), (0, .loc I 0 0 h 1 false)] ∧ H = HM A (intoJ M f t j) C)
  w [(8, i64 (0 : Nat)), (7, .bool false), (2, i64 t), (1, i64 f), (0, .loc I 0 0 h 1 false)] (HM A M C) (Wk.sub (by simp [Tm.get])) ⟨0, rfl, Nat.zero_le _, by rw [n0], by rw [intoJ_zero]⟩ ?_
 rintro m T H ⟨j, rfl, hj, rfl, rfl⟩ KK kx kr kn
 have g1 : (HM A (intoJ M f t j) C)[I]? = some (.cells 0 (outC2 A.length h w)) := by rw [HM_out hIA, hI]
 have g2 : (HM A (intoJ M f t j) C)[A.length + f]? = some (.cells 0 (bs (M.getD f []))) := by rw [HM_row (by rw [intoJ_len]; omega), intoJ_row (by omega)]; rfl
 have g3 : (HM A (intoJ M f t j) C)[A.length + t]? = some (.cells 0 (bs (orJ (M.getD t []) (M.getD f []) j))) := by rw [HM_row (by rw [intoJ_len]; omega), intoJ_to (by omega)]; rfl
 have g4 : ∀ r, (HM A (intoJ M f t j) C).set (A.length + t) (.cells 0 (bs r)) = HM A ((intoJ M f t j).set t r) C := fun r => HM_set (by rw [intoJ_len]; omega) r
 by_cases hjw : j < w
 ·have hwA : w ≤ maxA := by unfold maxA; omega
  have hl1 := bs_load (r := M.getD f []) (k := j) (by omega)
  have hl2 := bs_load (r := orJ (M.getD t []) (M.getD f []) j) (k := j) (by rw [orJ_len]; omega)
  have hlen2 : (orJ (M.getD t []) (M.getD f []) j).length = w := by rw [orJ_len, hwt]
  have e2 : (orJ (M.getD t []) (M.getD f []) j).getD j false = (M.getD t []).getD j false := by rw [orJ_get, if_neg (by omega)]
  rw [e2] at hl2
  have hnx := newJ_next M f t j
  have hon := orJ_next (q := M.getD f []) (r := M.getD t []) (j := j) (by omega)
  have hin : intoJ M f t (j + 1) = M.set t (orJ (M.getD t []) (M.getD f []) (j + 1)) := rfl
  have hij : intoJ M f t j = M.set t (orJ (M.getD t []) (M.getD f []) j) := rfl
  generalize hqf : (M.getD f []).getD j false = bf at *
  generalize hqt : (M.getD t []).getD j false = bt at *
  generalize hor : orJ (M.getD t []) (M.getD f []) j = rj at *
  have hjn := nxt hjw hwA
  generalize hRf : M.getD f [] = Rf at *
  generalize hRt : M.getD t [] = Rt at *
  have next : ∀ (b : Bool) (M' : Mx) (T' : Tm), b = newJ M f t (j + 1) → M' = intoJ M f t (j + 1) → al (fun q => T'.get q.1 = q.2) [(8, i64 ((j + 1 : Nat) : Int)), (7, .bool b), (2, i64 t), (1, i64 f), (0, .loc I 0 0 h 1 false)] → KK .normal T' (HM A M' C) := fun b M' T' hb hM hT => by
   subst hb hM
   exact kn _ _ (Kl_sub (w - (j + 1)) ⟨j + 1, rfl, hjw, rfl, rfl⟩ hT (by omega))
  cases bf with
  | false =>
   simp (maxSteps := 3000000) [-List.length_flatten,-List.map_drop,-List.map_take,Function.comp_def,argsT,Opd.ev,Tm.get,put,ares,mapMo,ares1,snilP,bldParts,bslParts,putAt,AV.cells,AV.one,astore,aload,loadCs,callArgs,abin,abinInt,aapp,elems,appMore,appNone,preLen,aFa,aFld,apart,aExt,aPick,aNot,aLens,aEqa,cellsK,fitsA,LK.fitsA,leavesA,leafA,nilD,aNilc,aCint,aCid,alive,alen,alenOk,Rle,lePs,len_flat, hf, ht, ↓g1, ↓g2, ↓hL1, hlo, hjw, ↓hl1, hwf]
   refine fun _ => ?_
   refine next (newJ M f t j) (intoJ M f t j) _ (by rw [hnx]; simp) (by rw [hin, hon, hij]; simp) (by simp [Tm.get, hjn])
  | true =>
   cases bt with
   | true =>
    simp (maxSteps := 3000000) [-List.length_flatten,-List.map_drop,-List.map_take,Function.comp_def,argsT,Opd.ev,Tm.get,put,ares,mapMo,ares1,snilP,bldParts,bslParts,putAt,AV.cells,AV.one,astore,aload,loadCs,callArgs,abin,abinInt,aapp,elems,appMore,appNone,preLen,aFa,aFld,apart,aExt,aPick,aNot,aLens,aEqa,cellsK,fitsA,LK.fitsA,leavesA,leafA,nilD,aNilc,aCint,aCid,alive,alen,alenOk,Rle,lePs,len_flat, hf, ht, ↓g1, ↓g2, ↓hL1, hlo, hjw, ↓hl1, hwf, ↓g3, ↓hL2, ↓hl2, hlen2]
    refine fun _ => ?_
    refine next (newJ M f t j) (intoJ M f t j) _ (by rw [hnx]; simp) (by rw [hin, hon, hij]; simp) (by simp [Tm.get, hjn])
   | false =>
    simp (maxSteps := 3000000) [-List.length_flatten,-List.map_drop,-List.map_take,Function.comp_def,argsT,Opd.ev,Tm.get,put,ares,mapMo,ares1,snilP,bldParts,bslParts,putAt,AV.cells,AV.one,astore,aload,loadCs,callArgs,abin,abinInt,aapp,elems,appMore,appNone,preLen,aFa,aFld,apart,aExt,aPick,aNot,aLens,aEqa,cellsK,fitsA,LK.fitsA,leavesA,leafA,nilD,aNilc,aCint,aCid,alive,alen,alenOk,Rle,lePs,len_flat, hf, ht, ↓g1, ↓g2, ↓hL1, hlo, hjw, ↓hl1, hwf, ↓g3, ↓hL2, ↓hl2, hlen2]
    refine fun _ => ⟨by omega, ?_⟩
    have eset : (bs rj).set j (.bool true) = bs (rj.set j true) := List.map_set.symm
    rw [eset, g4]
    refine next true _ _ (by rw [hnx]; simp) (by rw [hin, hon, hij]; simp [List.set_set]) (by simp [Tm.get, hjn])
 ·have ej : j = w := by omega
  subst ej
  have hwA : j ≤ maxA := by unfold maxA; omega
  have hfin : intoF M f t = intoJ M f t j := by unfold intoF; rw [hwt]
  simp (maxSteps := 3000000) [-List.length_flatten,-List.map_drop,-List.map_take,Function.comp_def,argsT,Opd.ev,Tm.get,put,ares,mapMo,ares1,snilP,bldParts,bslParts,putAt,AV.cells,AV.one,astore,aload,loadCs,callArgs,abin,abinInt,aapp,elems,appMore,appNone,preLen,aFa,aFld,apart,aExt,aPick,aNot,aLens,aEqa,cellsK,fitsA,LK.fitsA,leavesA,leafA,nilD,aNilc,aCint,aCid,alive,alen,alenOk,Rle,lePs,len_flat, hf, ht, ↓g1, ↓g2, ↓hL1, hlo, hjw, kx]
  refine fun _ => ?_
  rw [hfin]
/-- A name's place among the functions. -/
theorem c48_ok : cFn Try.prog an0 Try.f48 = some c48 := by kernel_rfl
theorem place_PF (p : Pg) (hp : p.funs.length ≤ 1000) (name : ByteArray) : PF Try.prog 48 [.agg p.cs, .str name] (i64 (fx p name)) := by
 refine PFk 9 hm Try.func48 c48_ok (Nat.le_of_ble_eq_true rfl) (by simp) (by simp) ?_
 have hA : p.funs.length ≤ maxA := by unfold maxA; omega
 simp (maxSteps := 3000000) [-List.length_flatten,-List.map_drop,-List.map_take,Function.comp_def,argsT,Opd.ev,Tm.get,put,ares,mapMo,ares1,snilP,bldParts,bslParts,putAt,AV.cells,AV.one,astore,aload,loadCs,callArgs,abin,abinInt,aapp,elems,appMore,appNone,preLen,aFa,aFld,apart,aExt,aPick,aNot,aLens,aEqa,cellsK,fitsA,LK.fitsA,leavesA,leafA,nilD,aNilc,aCint,aCid,alive,alen,alenOk,Rle,lePs,len_flat, c48]
 refine run_countK p.funs.length 5 [(2, .ptr 0 0 0), (1, .str name)] [.cells 0 p.cs] (fun i => ∀ j : Nat, j < i → ¬ (gi p.funs j).name = name) (Wk.sub (by simp [Tm.get])) (fun j hj => by omega) ?_
 intro i hi hj KK kx kr kn
 by_cases h : i < p.funs.length
 ·by_cases h1 : (gi p.funs i).name = name
  ·have : fx p name = i := fstAt_some h (by simp [h1]) (fun j hl => by simpa using hj j hl)
   simp (maxSteps := 3000000) [-List.length_flatten,-List.map_drop,-List.map_take,Function.comp_def,argsT,Opd.ev,Tm.get,put,ares,mapMo,ares1,snilP,bldParts,bslParts,putAt,AV.cells,AV.one,astore,aload,loadCs,callArgs,abin,abinInt,aapp,elems,appMore,appNone,preLen,aFa,aFld,apart,aExt,aPick,aNot,aLens,aEqa,cellsK,fitsA,LK.fitsA,leavesA,leafA,nilD,aNilc,aCint,aCid,alive,alen,alenOk,Rle,lePs,len_flat, h, kr, h1, hA, this]
  ·simp (maxSteps := 3000000) [-List.length_flatten,-List.map_drop,-List.map_take,Function.comp_def,argsT,Opd.ev,Tm.get,put,ares,mapMo,ares1,snilP,bldParts,bslParts,putAt,AV.cells,AV.one,astore,aload,loadCs,callArgs,abin,abinInt,aapp,elems,appMore,appNone,preLen,aFa,aFld,apart,aExt,aPick,aNot,aLens,aEqa,cellsK,fitsA,LK.fitsA,leavesA,leafA,nilD,aNilc,aCint,aCid,alive,alen,alenOk,Rle,lePs,len_flat, h, h1, hA]
   refine kn _ _ (Kn_next 1 (by omega) (by omega) (fun j hl => ?_) (by simp [Tm.get, nxt h hA]) (by simp) rfl (by simp [RLB]))
   rcases Nat.lt_or_ge j i with h3 | h3
   ·exact hj j h3
   ·have : j = i := by omega
    subst this
    exact h1
 ·have : fx p name = -1 := fstAt_none (fun j hl => by simpa using hj j (by omega))
  simp (maxSteps := 3000000) [-List.length_flatten,-List.map_drop,-List.map_take,Function.comp_def,argsT,Opd.ev,Tm.get,put,ares,mapMo,ares1,snilP,bldParts,bslParts,putAt,AV.cells,AV.one,astore,aload,loadCs,callArgs,abin,abinInt,aapp,elems,appMore,appNone,preLen,aFa,aFld,apart,aExt,aPick,aNot,aLens,aEqa,cellsK,fitsA,LK.fitsA,leavesA,leafA,nilD,aNilc,aCint,aCid,alive,alen,alenOk,Rle,lePs,len_flat, h, kx, hA, this]
theorem c25_ok : cFn Try.prog an0 Try.f25 = some c25 := by kernel_rfl
theorem locs25_PF (p : Pg) (hp : Fits p) (hl : (varsOf p).length + sitesN p.l ≤ 1000) : PF Try.prog 25 [.agg p.cs] (i64 ((varsOf p).length + sitesN p.l : Nat)) := by
 refine PFk 9 hm Try.func25 c25_ok (Nat.le_of_ble_eq_true rfl) (by simp) (by simp) ?_
 simp (maxSteps := 3000000) [-List.length_flatten,-List.map_drop,-List.map_take,Function.comp_def,argsT,Opd.ev,Tm.get,put,ares,mapMo,ares1,snilP,bldParts,bslParts,putAt,AV.cells,AV.one,astore,aload,loadCs,callArgs,abin,abinInt,aapp,elems,appMore,appNone,preLen,aFa,aFld,apart,aExt,aPick,aNot,aLens,aEqa,cellsK,fitsA,LK.fitsA,leavesA,leafA,nilD,aNilc,aCint,aCid,alive,alen,alenOk,Rle,lePs,len_flat, c25]
 refine ⟨_, vars_PF p hp, ?_⟩
 simp (maxSteps := 3000000) [-List.length_flatten,-List.map_drop,-List.map_take,Function.comp_def,argsT,Opd.ev,Tm.get,put,ares,mapMo,ares1,snilP,bldParts,bslParts,putAt,AV.cells,AV.one,astore,aload,loadCs,callArgs,abin,abinInt,aapp,elems,appMore,appNone,preLen,aFa,aFld,apart,aExt,aPick,aNot,aLens,aEqa,cellsK,fitsA,LK.fitsA,leavesA,leafA,nilD,aNilc,aCint,aCid,alive,alen,alenOk,Rle,lePs,len_flat, Kc]
 refine fun hv => ⟨_, sites_PF p (by have := hp.l; omega), ?_⟩
 have hw : IntKind.i64.wrap (((varsOf p).length : Int) + sitesN p.l) = ((varsOf p).length : Int) + sitesN p.l := w64 (by omega) (by omega)
 simp (maxSteps := 3000000) [-List.length_flatten,-List.map_drop,-List.map_take,Function.comp_def,argsT,Opd.ev,Tm.get,put,ares,mapMo,ares1,snilP,bldParts,bslParts,putAt,AV.cells,AV.one,astore,aload,loadCs,callArgs,abin,abinInt,aapp,elems,appMore,appNone,preLen,aFa,aFld,apart,aExt,aPick,aNot,aLens,aEqa,cellsK,fitsA,LK.fitsA,leavesA,leafA,nilD,aNilc,aCint,aCid,alive,alen,alenOk,Rle,lePs,len_flat, Kc, hw]
end Go.AM

namespace Go.AM
open Go.Proofs
set_option maxRecDepth 100000
set_option linter.unusedVariables false
set_option linter.unusedSimpArgs false
/-! ### What the rules ask of sets -/
def leM (M N : Mx) : Prop := ∀ n k, val M n k = true → val N n k = true
def sub (M : Mx) (f t : Nat) : Prop := ∀ k, val M f k = true → val M t k = true
theorem val_out {M : Mx} {h w n k : Nat} (hS : Sh M h w) (hn : h ≤ n ∨ w ≤ k) : val M n k = false := by
 unfold val
 by_cases h1 : n < h
 ·have h2 := hS.wid n h1
  have h3 : w ≤ k := by omega
  generalize M.getD n [] = r at *
  simp [List.getD, List.getElem?_eq_none (show r.length ≤ k by omega)]
 ·have : M.getD n [] = [] := by
   simp [List.getD, List.getElem?_eq_none (show M.length ≤ n by rw [hS.len]; omega)]
  rw [this]
  simp
theorem Sh.ext {M N : Mx} {h w : Nat} (h1 : Sh M h w) (h2 : Sh N h w) (hv : ∀ n k, n < h → k < w → val M n k = val N n k) : M = N := by
 apply List.ext_getElem (by rw [h1.len, h2.len])
 intro n q1 q2
 have hn : n < h := by rw [← h1.len]; exact q1
 have e1 : M.getD n [] = M[n] := by simp [List.getD, q1]
 have e2 : N.getD n [] = N[n] := by simp [List.getD, q2]
 have w1 := h1.wid n hn
 have w2 := h2.wid n hn
 rw [← e1, ← e2]
 refine row_ext (by rw [w1, w2]) fun k hk => ?_
 exact hv n k hn (by omega)
theorem leM.anti {M N : Mx} {h w : Nat} (h1 : Sh M h w) (h2 : Sh N h w) (a : leM M N) (b : leM N M) : M = N :=
 h1.ext h2 fun n k _ _ => by
  cases e1 : val M n k <;> cases e2 : val N n k
  ·rfl
  ·have := b n k e2; rw [e1] at this; cases this
  ·have := a n k e1; rw [e2] at this; cases this
  ·rfl
theorem Sh.set {M : Mx} {h w n : Nat} (hS : Sh M h w) {r : List Bool} (hn : n < h) (hr : r.length = w) : Sh (M.set n r) h w :=
 ⟨by simp [hS.len], fun i hi => by
  rw [getD_set (by rw [hS.len]; exact hn)]
  split
  ·exact hr
  ·exact hS.wid i hi⟩
theorem val_set {M : Mx} {n i k : Nat} {r : List Bool} (hn : n < M.length) : val (M.set n r) i k = if n = i then r.getD k false else val M i k := by
 unfold val
 rw [getD_set hn]
 split <;> rfl
/-- What a part of the rules does: nothing is less, and what is new is asked. -/
structure Gr (h w : Nat) (Q : Mx → Prop) (M M' : Mx) (b : Bool) : Prop where
 sh : Sh M' h w
 up : leM M M'
 new : b = true → M' ≠ M
 old : b = false → M' = M
 least : ∀ N, leM M N → Q N → leM M' N
theorem Gr.refl {h w : Nat} {Q : Mx → Prop} {M : Mx} (hS : Sh M h w) : Gr h w Q M M false := ⟨hS, fun _ _ h => h, fun h => (by cases h), fun _ => rfl, fun _ h _ => h⟩
theorem Gr.trans {h w : Nat} {Q : Mx → Prop} {M M1 M2 : Mx} {b1 b2 : Bool} (hS : Sh M h w) (g1 : Gr h w Q M M1 b1) (g2 : Gr h w Q M1 M2 b2) : Gr h w Q M M2 (b1 || b2) := by
 refine ⟨g2.sh, fun n k hk => g2.up n k (g1.up n k hk), fun hb e => ?_, fun hb => ?_, fun N h1 h2 => g2.least N (g1.least N h1 h2) h2⟩
 ·subst e
  have e1 : M1 = M2 := leM.anti g1.sh hS g2.up g1.up
  subst e1
  cases b1 with
  | true => exact g1.new rfl rfl
  | false => exact g2.new (by simpa using hb) rfl
 ·simp at hb
  rw [g2.old hb.2, g1.old hb.1]
theorem val_into {M : Mx} {h w f t n k : Nat} (hS : Sh M h w) (ht : t < h) : val (intoF M f t) n k = if t = n then (val M t k || (decide (k < w) && val M f k)) else val M n k := by
 unfold intoF intoJ
 rw [val_set (by rw [hS.len]; exact ht)]
 split
 ·rename_i e
  rw [orJ_get, hS.wid t ht]
  by_cases hk : k < w
  ·rw [if_pos ⟨hk, hk⟩]
   simp [hk, val]
  ·rw [if_neg (by omega)]
   simp [hk, val]
 ·rfl
theorem into_Gr {M : Mx} {h w f t : Nat} {Q : Mx → Prop} (hS : Sh M h w) (hf : f < h) (ht : t < h) (hQ : ∀ N, leM M N → Q N → sub N f t) : Gr h w Q M (intoF M f t) (newJ M f t w) := by
 have hv := fun n k => val_into (n := n) (k := k) (f := f) hS ht
 refine ⟨?_, fun n k hk => ?_, fun hb e => ?_, fun hb => ?_, fun N h1 h2 n k hk => ?_⟩
 ·exact hS.set ht (by rw [orJ_len]; exact hS.wid t ht)
 ·rw [hv]
  split
  ·rename_i e
   subst e
   simp [hk]
  ·exact hk
 ·unfold newJ at hb
  simp only [decide_eq_true_eq] at hb
  obtain ⟨k, h1, h2, h3⟩ := hb
  have := hv t k
  rw [if_pos rfl, e] at this
  have h4 : val M t k = false := h3
  have h5 : val M f k = true := h2
  rw [h4, h5] at this
  simp [h1] at this
 ·have hsub : ∀ k, k < w → val M f k = true → val M t k = true := fun k hk h1 => by
   unfold newJ at hb
   have := of_decide_eq_false hb
   cases h3 : val M t k with
   | true => rfl
   | false => exact absurd ⟨k, hk, h1, h3⟩ this
  refine (hS.set ht (by rw [orJ_len]; exact hS.wid t ht)).ext hS fun n k _ hk => ?_
  show val (intoF M f t) n k = _
  rw [hv]
  split
  ·rename_i e
   subst e
   cases h1 : val M f k with
   | false => simp
   | true => simp [hsub k hk h1]
  ·rfl
 ·rw [hv] at hk
  split at hk
  ·rename_i e
   subst e
   simp only [Bool.or_eq_true, Bool.and_eq_true] at hk
   rcases hk with hk | ⟨_, hk⟩
   ·exact h1 _ _ hk
   ·exact hQ N h1 h2 k (h1 _ _ hk)
  ·exact h1 _ _ hk
theorem into_no {M : Mx} {h w f t : Nat} (hS : Sh M h w) (hb : newJ M f t w = false) : sub M f t := by
 intro k h1
 by_cases hk : k < w
 ·unfold newJ at hb
  have := of_decide_eq_false hb
  cases h3 : val M t k with
  | true => rfl
  | false => exact absurd ⟨k, hk, h1, h3⟩ this
 ·rw [val_out hS (.inr (by omega))] at h1
  cases h1
def putF (M : Mx) (n k : Nat) : Mx := M.set n ((M.getD n []).set k true)
theorem val_put {M : Mx} {h w n k i j : Nat} (hS : Sh M h w) (hn : n < h) (hk : k < w) : val (putF M n k) i j = if n = i ∧ k = j then true else val M i j := by
 unfold putF
 rw [val_set (by rw [hS.len]; exact hn)]
 by_cases e : n = i
 ·subst e
  rw [if_pos rfl]
  have hl := hS.wid n hn
  simp only [val, List.getD, List.getElem?_set]
  generalize hr : M[n]?.getD [] = r
  have hr' : r.length = w := by rw [← hr]; exact hl
  by_cases e2 : k = j
  ·subst e2
   simp [hr', hk]
  ·simp [e2]
 ·simp [e]
theorem put_Gr {M : Mx} {h w n k : Nat} {Q : Mx → Prop} (hS : Sh M h w) (hn : n < h) (hk : k < w) (hQ : ∀ N, leM M N → Q N → val N n k = true) : Gr h w Q M (putF M n k) (!val M n k) := by
 have hv := fun i j => val_put (i := i) (j := j) hS hn hk
 have hsh : Sh (putF M n k) h w := hS.set hn (by rw [List.length_set]; exact hS.wid n hn)
 refine ⟨hsh, fun i j h => ?_, fun hb e => ?_, fun hb => ?_, fun N h1 h2 i j h => ?_⟩
 ·rw [hv]
  split
  ·rfl
  ·exact h
 ·have := hv n k
  rw [e] at this
  simp at this hb
  rw [this] at hb
  cases hb
 ·refine hsh.ext hS fun i j _ _ => ?_
  rw [hv]
  split
  ·rename_i e
   obtain ⟨rfl, rfl⟩ := e
   simpa using hb.symm
  ·rfl
 ·rw [hv] at h
  split at h
  ·rename_i e
   obtain ⟨rfl, rfl⟩ := e
   exact hQ N h1 h2
  ·exact h1 _ _ h
/-- How many there are in all. -/
def cntR (r : List Bool) : Nat := r.countP id
def cnt (M : Mx) : Nat := (M.map cntR).sum
theorem cntR_le : ∀ {r q : List Bool}, r.length = q.length → (∀ k, r.getD k false = true → q.getD k false = true) → cntR r ≤ cntR q ∧ (cntR r = cntR q → r = q)
 | [], [], _, _ => ⟨Nat.le_refl _, fun _ => rfl⟩
 | a :: r, b :: q, hl, h => by
  obtain ⟨h1, h2⟩ := cntR_le (r := r) (q := q) (by simpa using hl) (fun k hk => by have := h (k + 1) (by simpa using hk); simpa using this)
  have h0 := h 0
  simp only [cntR, List.countP_cons, id] at h1 h2 ⊢
  cases a <;> cases b
  ·exact ⟨by simpa using h1, fun e => by rw [h2 (by simpa using e)]⟩
  ·refine ⟨by simp; omega, fun e => ?_⟩
   simp at e
   omega
  ·simp at h0
  ·exact ⟨by simpa using h1, fun e => by rw [h2 (by simpa using e)]⟩
theorem cnt_le : ∀ {M N : Mx}, M.length = N.length → (∀ n, (M.getD n []).length = (N.getD n []).length) → leM M N → cnt M ≤ cnt N ∧ (cnt M = cnt N → M = N)
 | [], [], _, _, _ => ⟨Nat.le_refl _, fun _ => rfl⟩
 | r :: M, q :: N, hl, hw, h => by
  obtain ⟨h1, h2⟩ := cnt_le (M := M) (N := N) (by simpa using hl) (fun n => by have := hw (n + 1); simpa using this) (fun n k hk => by have := h (n + 1) k (by simpa [val] using hk); simpa [val] using this)
  obtain ⟨h3, h4⟩ := cntR_le (r := r) (q := q) (by have := hw 0; simpa using this) (fun k hk => by have := h 0 k (by simpa [val] using hk); simpa [val] using this)
  simp only [cnt, List.map_cons, List.sum_cons] at h1 h2 ⊢
  refine ⟨by omega, fun e => ?_⟩
  rw [h4 (by omega), h2 (by omega)]
theorem Gr.more {h w : Nat} {Q : Mx → Prop} {M M' : Mx} (hS : Sh M h w) (g : Gr h w Q M M' true) : cnt M < cnt M' := by
 obtain ⟨h1, h2⟩ := cnt_le (M := M) (N := M') (by rw [hS.len, g.sh.len]) (fun n => by
  by_cases hn : n < h
  ·rw [hS.wid n hn, g.sh.wid n hn]
  ·have e1 : M.getD n [] = [] := by simp [List.getD, List.getElem?_eq_none (show M.length ≤ n by rw [hS.len]; omega)]
   have e2 : M'.getD n [] = [] := by simp [List.getD, List.getElem?_eq_none (show M'.length ≤ n by rw [g.sh.len]; omega)]
   rw [e1, e2]) g.up
 rcases Nat.lt_or_ge (cnt M) (cnt M') with h3 | h3
 ·exact h3
 ·exact absurd (h2 (by omega)).symm (g.new rfl)
theorem cnt_few : ∀ {M : Mx} {w : Nat}, (∀ r ∈ M, r.length ≤ w) → cnt M ≤ M.length * w
 | [], w, _ => by simp [cnt]
 | r :: M, w, h => by
  have h1 := cnt_few (M := M) (w := w) (fun q hq => h q (by simp [hq]))
  have h2 : cntR r ≤ w := Nat.le_trans List.countP_le_length (h r (by simp))
  simp only [cnt, List.map_cons, List.sum_cons, List.length_cons, Nat.add_mul] at h1 ⊢
  omega
theorem Sh.few {M : Mx} {h w : Nat} (hS : Sh M h w) : cnt M ≤ h * w := by
 have := cnt_few (M := M) (w := w) fun r hr => by
  obtain ⟨n, hn, rfl⟩ := List.getElem_of_mem hr
  have := hS.wid n (by rw [← hS.len]; exact hn)
  simp [List.getD, hn] at this
  omega
 rw [hS.len] at this
 exact this
end Go.AM

namespace Go.AM
open Go.Proofs
set_option maxRecDepth 100000
set_option linter.unusedVariables false
set_option linter.unusedSimpArgs false
def c26 : AFn := ⟨202,.seq (.reg false [⟨some 4,.box (.tmp 0),none⟩,⟨some 7,.box (.tmp 3),none⟩,⟨some 8,.mov (.lit (.bool false)),none⟩]) (.seq (.reg false [⟨some 22,.mov (.tmp 1),none⟩,⟨some 23,.fa 2 (.tmp 7),none⟩,⟨some 24,.load 1 false (.tmp 23),none⟩,⟨some 25,.call (.lit (.fn (.func 21) [] [])) [.tmp 22,.tmp 24],none⟩,⟨some 9,.mov (.tmp 25),none⟩]) (.seq (.reg false [⟨some 26,.mov (.tmp 1),none⟩,⟨some 27,.fa 3 (.tmp 7),none⟩,⟨some 28,.load 1 false (.tmp 27),none⟩,⟨some 29,.call (.lit (.fn (.func 21) [] [])) [.tmp 26,.tmp 28],none⟩,⟨some 10,.mov (.tmp 29),none⟩]) (.seq (.reg false [⟨some 30,.load 2 true (.tmp 4),none⟩,⟨some 31,.call (.lit (.fn (.func 25) [] [])) [.tmp 30],none⟩,⟨some 11,.mov (.tmp 31),none⟩]) (.seq (.reg false [⟨some 12,.mov (.lit (.int .i64 (-1))),none⟩]) (.seq (.seq (.reg false [⟨some 32,.fa 0 (.tmp 7),none⟩,⟨some 33,.load 1 false (.tmp 32),none⟩]) (.block 0 (.seq (.reg false [⟨some 35,.bin .eql (.tmp 33) (.lit (.int .i64 1)),none⟩,⟨some 34,.mov (.tmp 35),none⟩]) (.cond (.tmp 34) (.reg false [⟨some 36,.mov (.tmp 10),none⟩,⟨some 12,.mov (.tmp 36),none⟩]) (.seq (.reg false [⟨some 38,.bin .eql (.tmp 33) (.lit (.int .i64 2)),none⟩,⟨some 37,.mov (.tmp 38),none⟩]) (.cond (.tmp 37) (.reg false [⟨some 39,.mov (.tmp 1),none⟩,⟨some 40,.len (.tmp 39),none⟩,⟨some 41,.fa 5 (.tmp 7),none⟩,⟨some 42,.load 1 false (.tmp 41),none⟩,⟨some 43,.bin .add (.tmp 40) (.tmp 42),none⟩,⟨some 12,.mov (.tmp 43),none⟩]) (.seq (.reg false [⟨some 45,.bin .eql (.tmp 33) (.lit (.int .i64 6)),none⟩,⟨some 44,.mov (.tmp 45),none⟩]) (.cond (.tmp 44) (.reg false [⟨some 46,.mov (.tmp 11),none⟩,⟨some 47,.load 2 true (.tmp 4),none⟩,⟨some 48,.fa 3 (.tmp 7),none⟩,⟨some 49,.load 1 false (.tmp 48),none⟩,⟨some 50,.call (.lit (.fn (.func 48) [] [])) [.tmp 47,.tmp 49],none⟩,⟨some 51,.bin .add (.tmp 46) (.tmp 50),none⟩,⟨some 12,.mov (.tmp 51),none⟩]) (.seq (.reg false [⟨some 53,.bin .eql (.tmp 33) (.lit (.int .i64 3)),none⟩,⟨some 52,.mov (.tmp 53),none⟩]) (.cond (.tmp 52) (.seq (.reg false [⟨some 54,.mov (.tmp 2),none⟩,⟨some 55,.mov (.tmp 10),none⟩,⟨some 56,.mov (.tmp 9),none⟩,⟨some 57,.call (.lit (.fn (.func 49) [] [])) [.tmp 54,.tmp 55,.tmp 56],none⟩,⟨some 8,.mov (.tmp 57),none⟩]) .ret) .skip)))))))))) (.seq (.seq (.reg false [⟨some 58,.mov (.tmp 12),none⟩,⟨some 59,.bin .geq (.tmp 58) (.lit (.int .i64 0)),none⟩]) (.cond (.tmp 59) (.seq (.reg false [⟨some 60,.mov (.tmp 2),none⟩,⟨some 61,.mov (.tmp 9),none⟩,⟨some 62,.ia 1 (.tmp 60) (.tmp 61),none⟩,⟨some 63,.load 1 false (.tmp 62),none⟩,⟨some 64,.mov (.tmp 12),none⟩,⟨some 65,.ia 1 (.tmp 63) (.tmp 64),none⟩,⟨some 66,.load 1 false (.tmp 65),none⟩,⟨some 13,.mov (.tmp 66),none⟩]) (.seq (.reg false [⟨some 67,.mov (.tmp 2),none⟩,⟨some 68,.mov (.tmp 9),none⟩,⟨some 69,.ia 1 (.tmp 67) (.tmp 68),none⟩,⟨some 70,.load 1 false (.tmp 69),none⟩,⟨some 71,.mov (.tmp 12),none⟩,⟨some 72,.ia 1 (.tmp 70) (.tmp 71),none⟩,⟨none,.store 1 (.tmp 72) (.lit (.bool true)),none⟩]) (.seq (.reg false [⟨some 73,.mov (.tmp 13),none⟩,⟨some 74,.not (.tmp 73),none⟩,⟨some 8,.mov (.tmp 74),none⟩]) .ret))) .skip)) (.seq (.reg false [⟨some 14,.mov (.lit (.bool false)),none⟩]) (.seq (.seq (.reg false [⟨some 15,.mov (.lit (.int .i64 0)),none⟩]) (.block 1 (.loop (.seq (.seq (.reg false [⟨some 75,.mov (.tmp 15),none⟩,⟨some 76,.mov (.tmp 11),none⟩,⟨some 77,.bin .lss (.tmp 75) (.tmp 76),none⟩]) (.cond (.tmp 77) .skip (.exit 1))) (.seq (.block 2 (.seq (.seq (.reg false [⟨some 80,.fa 0 (.tmp 7),none⟩,⟨some 81,.load 1 false (.tmp 80),none⟩,⟨some 82,.bin .eql (.tmp 81) (.lit (.int .i64 4)),none⟩,⟨some 83,.mov (.tmp 82),none⟩,⟨some 84,.mov (.tmp 2),some ((83,true))⟩,⟨some 85,.mov (.tmp 10),some ((83,true))⟩,⟨some 86,.ia 1 (.tmp 84) (.tmp 85),some ((83,true))⟩,⟨some 87,.load 1 false (.tmp 86),some ((83,true))⟩,⟨some 88,.mov (.tmp 15),some ((83,true))⟩,⟨some 89,.ia 1 (.tmp 87) (.tmp 88),some ((83,true))⟩,⟨some 90,.load 1 false (.tmp 89),some ((83,true))⟩,⟨some 91,.pick (.tmp 83) (.tmp 90) (.lit (.bool false)),none⟩]) (.cond (.tmp 91) (.seq (.reg false [⟨some 92,.mov (.tmp 2),none⟩,⟨some 93,.mov (.tmp 15),none⟩,⟨some 94,.mov (.tmp 9),none⟩,⟨some 95,.call (.lit (.fn (.func 49) [] [])) [.tmp 92,.tmp 93,.tmp 94],none⟩,⟨some 16,.mov (.tmp 95),none⟩]) (.reg false [⟨some 96,.mov (.tmp 14),none⟩,⟨some 97,.mov (.tmp 96),none⟩,⟨some 98,.mov (.tmp 16),some ((97,false))⟩,⟨some 99,.pick (.tmp 97) (.lit (.bool true)) (.tmp 98),none⟩,⟨some 14,.mov (.tmp 99),none⟩])) .skip)) (.seq (.reg false [⟨some 100,.fa 0 (.tmp 7),none⟩,⟨some 101,.load 1 false (.tmp 100),none⟩,⟨some 102,.bin .eql (.tmp 101) (.lit (.int .i64 5)),none⟩,⟨some 103,.mov (.tmp 102),none⟩,⟨some 104,.mov (.tmp 2),some ((103,true))⟩,⟨some 105,.mov (.tmp 9),some ((103,true))⟩,⟨some 106,.ia 1 (.tmp 104) (.tmp 105),some ((103,true))⟩,⟨some 107,.load 1 false (.tmp 106),some ((103,true))⟩,⟨some 108,.mov (.tmp 15),some ((103,true))⟩,⟨some 109,.ia 1 (.tmp 107) (.tmp 108),some ((103,true))⟩,⟨some 110,.load 1 false (.tmp 109),some ((103,true))⟩,⟨some 111,.pick (.tmp 103) (.tmp 110) (.lit (.bool false)),none⟩]) (.cond (.tmp 111) (.seq (.reg false [⟨some 112,.mov (.tmp 2),none⟩,⟨some 113,.mov (.tmp 10),none⟩,⟨some 114,.mov (.tmp 15),none⟩,⟨some 115,.call (.lit (.fn (.func 49) [] [])) [.tmp 112,.tmp 113,.tmp 114],none⟩,⟨some 17,.mov (.tmp 115),none⟩]) (.reg false [⟨some 116,.mov (.tmp 14),none⟩,⟨some 117,.mov (.tmp 116),none⟩,⟨some 118,.mov (.tmp 17),some ((117,false))⟩,⟨some 119,.pick (.tmp 117) (.lit (.bool true)) (.tmp 118),none⟩,⟨some 14,.mov (.tmp 119),none⟩])) .skip)))) (.reg false [⟨some 78,.mov (.tmp 15),none⟩,⟨some 79,.bin .add (.tmp 78) (.lit (.int .i64 1)),none⟩,⟨some 15,.mov (.tmp 79),none⟩])))))) (.seq (.seq (.reg false [⟨some 18,.mov (.lit (.int .i64 0)),none⟩]) (.block 3 (.loop (.seq (.seq (.reg false [⟨some 120,.mov (.tmp 18),none⟩,⟨some 121,.fa 0 (.tmp 4),none⟩,⟨some 122,.load 1 false (.tmp 121),none⟩,⟨some 123,.len (.tmp 122),none⟩,⟨some 124,.bin .lss (.tmp 120) (.tmp 123),none⟩]) (.cond (.tmp 124) .skip (.exit 3))) (.seq (.block 4 (.seq (.seq (.reg true [⟨some 127,.fa 0 (.tmp 7),none⟩,⟨some 128,.load 1 false (.tmp 127),none⟩,⟨some 129,.bin .neq (.tmp 128) (.lit (.int .i64 7)),none⟩,⟨some 130,.mov (.tmp 129),none⟩,⟨some 131,.mov (.tmp 2),some ((130,false))⟩,⟨some 132,.mov (.tmp 10),some ((130,false))⟩,⟨some 133,.ia 1 (.tmp 131) (.tmp 132),some ((130,false))⟩,⟨some 134,.load 1 false (.tmp 133),some ((130,false))⟩,⟨some 135,.mov (.tmp 11),some ((130,false))⟩,⟨some 136,.mov (.tmp 18),some ((130,false))⟩,⟨some 137,.bin .add (.tmp 135) (.tmp 136),some ((130,false))⟩,⟨some 138,.ia 1 (.tmp 134) (.tmp 137),some ((130,false))⟩,⟨some 139,.load 1 false (.tmp 138),some ((130,false))⟩,⟨some 140,.not (.tmp 139),some ((130,false))⟩,⟨some 141,.pick (.tmp 130) (.lit (.bool true)) (.tmp 140),none⟩,⟨some 142,.mov (.tmp 141),none⟩,⟨some 143,.fa 0 (.tmp 4),some ((142,false))⟩,⟨some 144,.load 1 false (.tmp 143),some ((142,false))⟩,⟨some 145,.mov (.tmp 18),some ((142,false))⟩,⟨some 146,.ia 3 (.tmp 144) (.tmp 145),some ((142,false))⟩,⟨some 147,.fa 1 (.tmp 146),some ((142,false))⟩,⟨some 148,.load 1 false (.tmp 147),some ((142,false))⟩,⟨some 149,.len (.tmp 148),some ((142,false))⟩,⟨some 150,.fa 4 (.tmp 7),some ((142,false))⟩,⟨some 151,.load 1 false (.tmp 150),some ((142,false))⟩,⟨some 152,.len (.tmp 151),some ((142,false))⟩,⟨some 153,.bin .neq (.tmp 149) (.tmp 152),some ((142,false))⟩,⟨some 154,.pick (.tmp 142) (.lit (.bool true)) (.tmp 153),none⟩]) (.cond (.tmp 154) (.exit 4) .skip)) (.seq (.seq (.reg false [⟨some 19,.mov (.lit (.int .i64 0)),none⟩]) (.block 5 (.loop (.seq (.seq (.reg false [⟨some 155,.mov (.tmp 19),none⟩,⟨some 156,.fa 4 (.tmp 7),none⟩,⟨some 157,.load 1 false (.tmp 156),none⟩,⟨some 158,.len (.tmp 157),none⟩,⟨some 159,.bin .lss (.tmp 155) (.tmp 158),none⟩]) (.cond (.tmp 159) .skip (.exit 5))) (.seq (.block 6 (.seq (.seq (.reg true [⟨some 162,.mov (.tmp 2),none⟩,⟨some 163,.mov (.tmp 1),none⟩,⟨some 164,.fa 4 (.tmp 7),none⟩,⟨some 165,.load 1 false (.tmp 164),none⟩,⟨some 166,.mov (.tmp 19),none⟩,⟨some 167,.ia 1 (.tmp 165) (.tmp 166),none⟩,⟨some 168,.load 1 false (.tmp 167),none⟩,⟨some 170,.mov (.tmp 1),none⟩,⟨some 171,.fa 0 (.tmp 4),none⟩,⟨some 172,.load 1 false (.tmp 171),none⟩,⟨some 173,.mov (.tmp 18),none⟩,⟨some 174,.ia 3 (.tmp 172) (.tmp 173),none⟩,⟨some 175,.fa 1 (.tmp 174),none⟩,⟨some 176,.load 1 false (.tmp 175),none⟩,⟨some 177,.mov (.tmp 19),none⟩,⟨some 178,.ia 1 (.tmp 176) (.tmp 177),none⟩,⟨some 179,.load 1 false (.tmp 178),none⟩,⟨some 169,.call (.lit (.fn (.func 21) [] [])) [.tmp 163,.tmp 168],none⟩,⟨some 180,.call (.lit (.fn (.func 21) [] [])) [.tmp 170,.tmp 179],none⟩]) (.seq (.reg false [⟨some 181,.call (.lit (.fn (.func 49) [] [])) [.tmp 162,.tmp 169,.tmp 180],none⟩]) (.reg true [⟨some 20,.mov (.tmp 181),none⟩]))) (.reg false [⟨some 182,.mov (.tmp 14),none⟩,⟨some 183,.mov (.tmp 182),none⟩,⟨some 184,.mov (.tmp 20),some ((183,false))⟩,⟨some 185,.pick (.tmp 183) (.lit (.bool true)) (.tmp 184),none⟩,⟨some 14,.mov (.tmp 185),none⟩]))) (.reg false [⟨some 160,.mov (.tmp 19),none⟩,⟨some 161,.bin .add (.tmp 160) (.lit (.int .i64 1)),none⟩,⟨some 19,.mov (.tmp 161),none⟩])))))) (.seq (.reg false [⟨some 186,.mov (.tmp 2),none⟩,⟨some 187,.mov (.tmp 1),none⟩,⟨some 188,.fa 0 (.tmp 4),none⟩,⟨some 189,.load 1 false (.tmp 188),none⟩,⟨some 190,.mov (.tmp 18),none⟩,⟨some 191,.ia 3 (.tmp 189) (.tmp 190),none⟩,⟨some 192,.fa 2 (.tmp 191),none⟩,⟨some 193,.load 1 false (.tmp 192),none⟩,⟨some 194,.call (.lit (.fn (.func 21) [] [])) [.tmp 187,.tmp 193],none⟩,⟨some 195,.mov (.tmp 9),none⟩,⟨some 196,.call (.lit (.fn (.func 49) [] [])) [.tmp 186,.tmp 194,.tmp 195],none⟩,⟨some 21,.mov (.tmp 196),none⟩]) (.reg false [⟨some 197,.mov (.tmp 14),none⟩,⟨some 198,.mov (.tmp 197),none⟩,⟨some 199,.mov (.tmp 21),some ((198,false))⟩,⟨some 200,.pick (.tmp 198) (.lit (.bool true)) (.tmp 199),none⟩,⟨some 14,.mov (.tmp 200),none⟩]))))) (.reg false [⟨some 125,.mov (.tmp 18),none⟩,⟨some 126,.bin .add (.tmp 125) (.lit (.int .i64 1)),none⟩,⟨some 18,.mov (.tmp 126),none⟩])))))) (.seq (.reg false [⟨some 201,.mov (.tmp 14),none⟩,⟨some 8,.mov (.tmp 201),none⟩]) .ret)))))))))),[.tmp 8]⟩
/-! ### One rule -/
def an26 : An := ⟨[], [1000035]⟩
theorem c26_ok : cFn Try.prog an26 Try.f26 = some c26 := by kernel_rfl
def rowM (M : Mx) (n : Nat) : List Bool := M.getD n []
abbrev ixn (p : Pg) (a : ByteArray) : Nat := (ix p a).toNat
/-- What a rule asks of sets. -/
structure RuleOk (p : Pg) (s : Stm) (N : Mx) : Prop where
 addr : s.kind = 1 → val N (ixn p s.x) (ixn p s.y) = true
 new : s.kind = 2 → val N (ixn p s.x) ((varsOf p).length + s.n.toNat) = true
 copy : s.kind = 3 → sub N (ixn p s.y) (ixn p s.x)
 load : s.kind = 4 → ∀ k, k < locsN p → val N (ixn p s.y) k = true → sub N k (ixn p s.x)
 store : s.kind = 5 → ∀ k, k < locsN p → val N (ixn p s.x) k = true → sub N (ixn p s.y) k
 fn : s.kind = 6 → val N (ixn p s.x) (locsN p + (fx p s.y).toNat) = true
 call : s.kind = 7 → ∀ f : Nat, f < p.funs.length → val N (ixn p s.y) (locsN p + f) = true → (gi p.funs f).params.length = s.args.length →
  (∀ j : Nat, j < s.args.length → sub N (ixn p (gi s.args j)) (ixn p (gi (gi p.funs f).params j))) ∧ sub N (ixn p (gi p.funs f).ret) (ixn p s.x)
theorem atv_PF (p : Pg) (name : ByteArray) : PF Try.prog 21 [strs (varsOf p), .str name] (i64 (ix p name)) := at_PF _ _
structure InOk (p : Pg) (s : Stm) (A : AHeap) (I : Nat) : Prop where
 st : StOk p s
 fits : Fits p
 few : locsN p ≤ 40
 funs : p.funs.length ≤ 8
 out : A[I]? = some (.cells 0 (outC2 A.length (locsN p) (locsN p + p.funs.length)))
 pfew : ∀ f ∈ p.funs, f.params.length ≤ 4
 par : ∀ f ∈ p.funs, ∀ a ∈ f.params, 0 ≤ ix p a ∧ ix p a < (varsOf p).length
 ret : ∀ f ∈ p.funs, 0 ≤ ix p f.ret ∧ ix p f.ret < (varsOf p).length
theorem rowM_load {M : Mx} {h w n k : Nat} (hS : Sh M h w) (hn : n < h) (hk : k < w) : loadCs 1 false ((bs (rowM M n)).drop k) = some (.bool (val M n k)) := bs_load (by show k < (M.getD n []).length; rw [hS.wid n hn]; exact hk)
theorem HM_facts {A C : AHeap} {h w I : Nat} {p : Pg} {s : Stm} {M0 : Mx} (hI : A[I]? = some (.cells 0 (outC2 A.length h w))) (h0 : M0.length = h) (M : Mx) (hS : Sh M h w) :
  (HM A M (C ++ [.cells 0 p.cs, .cells 0 s.cs]))[(HM A M0 C).length]? = some (.cells 0 p.cs) ∧ (HM A M (C ++ [.cells 0 p.cs, .cells 0 s.cs]))[(HM A M0 C).length + 1]? = some (.cells 0 s.cs) ∧
  (HM A M (C ++ [.cells 0 p.cs, .cells 0 s.cs]))[I]? = some (.cells 0 (outC2 A.length h w)) ∧
  (∀ n, n < h → (HM A M (C ++ [.cells 0 p.cs, .cells 0 s.cs]))[A.length + n]? = some (.cells 0 (bs (rowM M n)))) ∧ (∀ n, n < h → (bs (rowM M n)).length = w) := by
 have hl := hS.len
 refine ⟨?_, ?_, ?_, fun n hn => ?_, fun n hn => ?_⟩
 ·rw [HM_len, show A.length + (M0.length + C.length) = A.length + (M.length + C.length) by rw [h0, hl], HM_C]
  simp
 ·rw [HM_len, show A.length + (M0.length + C.length) + 1 = A.length + (M.length + (C.length + 1)) by rw [h0, hl]; omega, HM_C]
  simp
 ·rw [HM_out (lt_of_get hI), hI]
 ·rw [HM_row (by omega)]
  rfl
 ·have : (rowM M n).length = w := hS.wid n hn
  simpa using this
set_option maxHeartbeats 4000000 in
theorem rule_FT {p : Pg} {s : Stm} {A C : AHeap} {I : Nat} {M : Mx} (ho : InOk p s A I) (hS : Sh M (locsN p) (locsN p + p.funs.length)) (hb : ∀ M', Sh M' (locsN p) (locsN p + p.funs.length) → ∀ b ∈ HM A M' C, RLB (HM A M C).length b) :
  FT Try.prog 26 [.agg p.cs, strs (varsOf p), .loc I 0 0 (locsN p) 1 false, .agg s.cs] (HM A M C) fun rv H' => ∃ M' b, rv = .bool b ∧ H' = HM A M' C ∧ Gr (locsN p) (locsN p + p.funs.length) (RuleOk p s) M M' b ∧ (b = false → RuleOk p s M) := by
 refine FTt hm Try.func26 c26_ok (Nat.le_of_ble_eq_true rfl) ?_
 obtain ⟨hst, hft, hfew, hfuns, hI, hpfew, hpar, hret⟩ := ho
 have hk := hst.kind
 obtain ⟨X, hX⟩ : ∃ X : Nat, ix p s.x = X := ⟨(ix p s.x).toNat, by have := hst.x; omega⟩
 have hvl : (varsOf p).length ≤ locsN p := by unfold locsN; omega
 have hXl : X < locsN p := by have := hst.x; omega
 have hXn : ixn p s.x = X := by simp [ixn, hX]
 have hlocs := locs25_PF p hft (by unfold locsN at hfew; omega)
 have eloc : (varsOf p).length + sitesN p.l = locsN p := rfl
 rw [eloc] at hlocs
 have facts := HM_facts (C := C) (p := p) (s := s) hI hS.len
 have fin : ∀ (M' : Mx) (b : Bool), Gr (locsN p) (locsN p + p.funs.length) (RuleOk p s) M M' b → (b = false → RuleOk p s M) →
   RL (HM A M C).length (.bool b) ∧ (∀ b ∈ (HM A M' (C ++ [.cells 0 p.cs, .cells 0 s.cs])).take (HM A M C).length, RLB (HM A M C).length b) ∧
   ∃ M'' b', AV.bool b = .bool b' ∧ (HM A M' (C ++ [.cells 0 p.cs, .cells 0 s.cs])).take (HM A M C).length = HM A M'' C ∧ Gr (locsN p) (locsN p + p.funs.length) (RuleOk p s) M M'' b' ∧ (b' = false → RuleOk p s M) := by
  intro M' b g h
  have hl : (HM A M C).length = (HM A M' C).length := by rw [HM_len, HM_len, hS.len, g.sh.len]
  rw [hl, HM_take, ← hl]
  exact ⟨by simp, hb M' g.sh, M', b, rfl, rfl, g, h⟩
 have hlen2 : (HM A M (C ++ [.cells 0 p.cs])).length = (HM A M C).length + 1 := by rw [← HM_app]; simp
 refine (?_ : ∀ Q : AV → AHeap → Prop, (∀ (M' : Mx) (b : Bool), Gr (locsN p) (locsN p + p.funs.length) (RuleOk p s) M M' b → (b = false → RuleOk p s M) → Q (.bool b) (HM A M' (C ++ [.cells 0 p.cs, .cells 0 s.cs]))) →
  run Try.prog (HM A M C).length c26.code (Kend c26.res Q) (argsT 0 [.agg p.cs, strs (varsOf p), .loc I 0 0 (locsN p) 1 false, .agg s.cs]) (HM A M C)) _ fin
 clear fin hb
 intro Q fin
 generalize hN0 : (HM A M C).length = N0 at *
 have hpA : p.funs.length ≤ maxA := by unfold maxA; omega
 have hvA : (varsOf p).length ≤ maxA := by unfold maxA; omega
 have hYc := hst.y
 have m0 := facts M hS
 obtain ⟨m4, m7, mI, mr, ml⟩ := m0
 have hrX := mr X hXl
 have hlX := ml X hXl
 have hlo := outC2_len A.length (locsN p) (locsN p + p.funs.length)
 have hLd := fun n (hn : n < locsN p) => outC2_load (B := A.length) (w := locsN p + p.funs.length) hn
 have hput : ∀ n k, n < locsN p → (HM A M (C ++ [.cells 0 p.cs, .cells 0 s.cs])).set (A.length + n) (.cells 0 ((bs (rowM M n)).set k (.bool true))) = HM A (putF M n k) (C ++ [.cells 0 p.cs, .cells 0 s.cs]) := by
  intro n k hn
  have e : (bs (rowM M n)).set k (.bool true) = bs ((rowM M n).set k true) := List.map_set.symm
  rw [e]
  exact HM_set (by rw [hS.len]; exact hn) _
 simp (maxSteps := 3000000) [-List.length_flatten,-List.map_drop,-List.map_take,Function.comp_def,argsT,Opd.ev,Tm.get,put,ares,mapMo,ares1,snilP,bldParts,bslParts,putAt,AV.cells,AV.one,astore,aload,loadCs,callArgs,abin,abinInt,aapp,elems,appMore,appNone,preLen,aFa,aFld,apart,aExt,aPick,aNot,aLens,aEqa,cellsK,fitsA,LK.fitsA,leavesA,leafA,nilD,aNilc,aCint,aCid,alive,alen,alenOk,Rle,lePs,len_flat, c26, hN0, HM_app, hlen2, ↓m4, ↓m7]
 refine PF.call (atv_PF p s.x) 9 (by simp [lePs, -List.length_flatten, -List.map_drop, -List.map_take, Function.comp_def, len_flat]) ?_
 simp (maxSteps := 3000000) [-List.length_flatten,-List.map_drop,-List.map_take,Function.comp_def,argsT,Opd.ev,Tm.get,put,ares,mapMo,ares1,snilP,bldParts,bslParts,putAt,AV.cells,AV.one,astore,aload,loadCs,callArgs,abin,abinInt,aapp,elems,appMore,appNone,preLen,aFa,aFld,apart,aExt,aPick,aNot,aLens,aEqa,cellsK,fitsA,LK.fitsA,leavesA,leafA,nilD,aNilc,aCint,aCid,alive,alen,alenOk,Rle,lePs,len_flat, Kc, ↓m4, ↓m7]
 refine PF.call (atv_PF p s.y) 9 (by simp [lePs, -List.length_flatten, -List.map_drop, -List.map_take, Function.comp_def, len_flat]) ?_
 simp (maxSteps := 3000000) [-List.length_flatten,-List.map_drop,-List.map_take,Function.comp_def,argsT,Opd.ev,Tm.get,put,ares,mapMo,ares1,snilP,bldParts,bslParts,putAt,AV.cells,AV.one,astore,aload,loadCs,callArgs,abin,abinInt,aapp,elems,appMore,appNone,preLen,aFa,aFld,apart,aExt,aPick,aNot,aLens,aEqa,cellsK,fitsA,LK.fitsA,leavesA,leafA,nilD,aNilc,aCint,aCid,alive,alen,alenOk,Rle,lePs,len_flat, Kc, ↓m4, ↓m7]
 refine PF.call hlocs 9 (by simp [lePs, -List.length_flatten, -List.map_drop, -List.map_take, Function.comp_def, len_flat]) ?_
 by_cases k1 : s.kind = 1
 ·obtain ⟨Y, hY⟩ : ∃ Y : Nat, ix p s.y = Y := ⟨(ix p s.y).toNat, by have := hYc (by omega) (by omega); omega⟩
  have hYl : Y < locsN p := by have := hYc (by omega) (by omega); omega
  have hYn : ixn p s.y = Y := by simp [ixn, hY]
  have hLX := hLd X hXl
  have hv := rowM_load hS hXl (show Y < locsN p + p.funs.length by omega)
  have hYw : Y < locsN p + p.funs.length := by omega
  have hpt := hput X Y hXl
  simp (maxSteps := 3000000) [-List.length_flatten,-List.map_drop,-List.map_take,Function.comp_def,argsT,Opd.ev,Tm.get,put,ares,mapMo,ares1,snilP,bldParts,bslParts,putAt,AV.cells,AV.one,astore,aload,loadCs,callArgs,abin,abinInt,aapp,elems,appMore,appNone,preLen,aFa,aFld,apart,aExt,aPick,aNot,aLens,aEqa,cellsK,fitsA,LK.fitsA,leavesA,leafA,nilD,aNilc,aCint,aCid,alive,alen,alenOk,Rle,lePs,len_flat, Kc, ↓m4, ↓m7, k1, hX, hY, ↓mI, hlo, hXl, ↓hLX, ↓hrX, hlX, hYw, ↓hv]
  refine ⟨by omega, by omega, ?_⟩
  rw [hpt]
  refine fin _ _ (put_Gr hS hXl hYw fun N _ h => ?_) fun h => ?_
  ·have := h.addr k1
   rwa [hXn, hYn] at this
  ·have hv1 : val M X Y = true := by simpa using h
   refine ⟨fun _ => by rw [hXn, hYn]; exact hv1, fun h => ?_, fun h => ?_, fun h => ?_, fun h => ?_, fun h => ?_, fun h => ?_⟩ <;> omega
 by_cases k2 : s.kind = 2
 ·obtain ⟨n, hn⟩ : ∃ n : Nat, s.n = n := ⟨s.n.toNat, by have := hst.n k2; omega⟩
  have hnl : (varsOf p).length + n < locsN p := by have := hst.n k2; unfold locsN; omega
  have hw : IntKind.i64.wrap (((varsOf p).length : Int) + n) = ((((varsOf p).length + n : Nat)) : Int) := by rw [w64 (by omega) (by omega)]; simp
  have h0 : (0 : Int) ≤ (((varsOf p).length + n : Nat) : Int) := by omega
  generalize hY : (varsOf p).length + n = Y at *
  have hLX := hLd X hXl
  have hYw : Y < locsN p + p.funs.length := by omega
  have hv := rowM_load hS hXl hYw
  have hpt := hput X Y hXl
  simp (maxSteps := 3000000) [-List.length_flatten,-List.map_drop,-List.map_take,Function.comp_def,argsT,Opd.ev,Tm.get,put,ares,mapMo,ares1,snilP,bldParts,bslParts,putAt,AV.cells,AV.one,astore,aload,loadCs,callArgs,abin,abinInt,aapp,elems,appMore,appNone,preLen,aFa,aFld,apart,aExt,aPick,aNot,aLens,aEqa,cellsK,fitsA,LK.fitsA,leavesA,leafA,nilD,aNilc,aCint,aCid,alive,alen,alenOk,Rle,lePs,len_flat, Kc, ↓m4, ↓m7, k1, k2, hn, hw, h0, hvA, hX, ↓mI, hlo, hXl, ↓hLX, ↓hrX, hlX, hYw, ↓hv]
  refine ⟨by omega, by omega, ?_⟩
  rw [hpt]
  have hnn : s.n.toNat = n := by omega
  refine fin _ _ (put_Gr hS hXl hYw fun N _ h => ?_) fun h => ?_
  ·have := h.new k2
   rwa [hXn, hnn, hY] at this
  ·have hv1 : val M X Y = true := by simpa using h
   refine ⟨fun h => ?_, fun _ => by rw [hXn, hnn, hY]; exact hv1, fun h => ?_, fun h => ?_, fun h => ?_, fun h => ?_, fun h => ?_⟩ <;> omega
 by_cases k6 : s.kind = 6
 ·obtain ⟨n, hn⟩ : ∃ n : Nat, fx p s.y = n := ⟨(fx p s.y).toNat, by have := hst.f k6; omega⟩
  have hnl : n < p.funs.length := by have := hst.f k6; omega
  have hw : IntKind.i64.wrap ((locsN p : Int) + n) = ((locsN p + n : Nat) : Int) := by rw [w64 (by omega) (by omega)]; simp
  have hpl := place_PF p (by omega) s.y
  rw [hn] at hpl
  have h0 : (0 : Int) ≤ ((locsN p + n : Nat) : Int) := by omega
  have hYw : locsN p + n < locsN p + p.funs.length := by omega
  generalize hY : locsN p + n = Y at *
  have hLX := hLd X hXl
  have hv := rowM_load hS hXl hYw
  have hpt := hput X Y hXl
  simp (maxSteps := 3000000) [-List.length_flatten,-List.map_drop,-List.map_take,Function.comp_def,argsT,Opd.ev,Tm.get,put,ares,mapMo,ares1,snilP,bldParts,bslParts,putAt,AV.cells,AV.one,astore,aload,loadCs,callArgs,abin,abinInt,aapp,elems,appMore,appNone,preLen,aFa,aFld,apart,aExt,aPick,aNot,aLens,aEqa,cellsK,fitsA,LK.fitsA,leavesA,leafA,nilD,aNilc,aCint,aCid,alive,alen,alenOk,Rle,lePs,len_flat, Kc, ↓m4, ↓m7, k1, k2, k6, hX]
  refine PF.call hpl 9 (by simp [lePs, -List.length_flatten, -List.map_drop, -List.map_take, Function.comp_def, len_flat]) ?_
  simp (maxSteps := 3000000) [-List.length_flatten,-List.map_drop,-List.map_take,Function.comp_def,argsT,Opd.ev,Tm.get,put,ares,mapMo,ares1,snilP,bldParts,bslParts,putAt,AV.cells,AV.one,astore,aload,loadCs,callArgs,abin,abinInt,aapp,elems,appMore,appNone,preLen,aFa,aFld,apart,aExt,aPick,aNot,aLens,aEqa,cellsK,fitsA,LK.fitsA,leavesA,leafA,nilD,aNilc,aCint,aCid,alive,alen,alenOk,Rle,lePs,len_flat, Kc, ↓m4, ↓m7, hw, h0, hX, ↓mI, hlo, hXl, ↓hLX, ↓hrX, hlX, hYw, ↓hv]
  refine ⟨by omega, by omega, ?_⟩
  rw [hpt]
  have hnn : (fx p s.y).toNat = n := by omega
  refine fin _ _ (put_Gr hS hXl hYw fun N _ h => ?_) fun h => ?_
  ·have := h.fn k6
   rwa [hXn, hnn, hY] at this
  ·have hv1 : val M X Y = true := by simpa using h
   refine ⟨fun h => ?_, fun h => ?_, fun h => ?_, fun h => ?_, fun h => ?_, fun _ => by rw [hXn, hnn, hY]; exact hv1, fun h => ?_⟩ <;> omega
 obtain ⟨Y, hY⟩ : ∃ Y : Nat, ix p s.y = Y := ⟨(ix p s.y).toNat, by have := hYc k2 k6; omega⟩
 have hYl : Y < locsN p := by have := hYc k2 k6; omega
 have hYn : ixn p s.y = Y := by simp [ixn, hY]
 have hinto := fun (M' : Mx) (hM' : Sh M' (locsN p) (locsN p + p.funs.length)) (f t : Nat) (hf : f < locsN p) (ht : t < locsN p) => into_FT (C := C ++ [.cells 0 p.cs, .cells 0 s.cs]) hM' hI hf ht (by omega) (by omega)
 by_cases k3 : s.kind = 3
 ·simp (maxSteps := 3000000) [-List.length_flatten,-List.map_drop,-List.map_take,Function.comp_def,argsT,Opd.ev,Tm.get,put,ares,mapMo,ares1,snilP,bldParts,bslParts,putAt,AV.cells,AV.one,astore,aload,loadCs,callArgs,abin,abinInt,aapp,elems,appMore,appNone,preLen,aFa,aFld,apart,aExt,aPick,aNot,aLens,aEqa,cellsK,fitsA,LK.fitsA,leavesA,leafA,nilD,aNilc,aCint,aCid,alive,alen,alenOk,Rle,lePs,len_flat, Kc, ↓m4, ↓m7, k1, k2, k6, k3, hX, hY]
  refine (hinto M hS Y X hYl hXl).mono ?_
  rintro rv H' ⟨rfl, rfl⟩
  simp (maxSteps := 3000000) [-List.length_flatten,-List.map_drop,-List.map_take,Function.comp_def,argsT,Opd.ev,Tm.get,put,ares,mapMo,ares1,snilP,bldParts,bslParts,putAt,AV.cells,AV.one,astore,aload,loadCs,callArgs,abin,abinInt,aapp,elems,appMore,appNone,preLen,aFa,aFld,apart,aExt,aPick,aNot,aLens,aEqa,cellsK,fitsA,LK.fitsA,leavesA,leafA,nilD,aNilc,aCint,aCid,alive,alen,alenOk,Rle,lePs,len_flat, Kc]
  refine fin _ _ (into_Gr hS hYl hXl fun N _ h => ?_) fun h => ?_
  ·have := h.copy k3
   rwa [hXn, hYn] at this
  ·have hv1 := into_no hS h
   refine ⟨fun h => ?_, fun h => ?_, fun _ => by rw [hXn, hYn]; exact hv1, fun h => ?_, fun h => ?_, fun h => ?_, fun h => ?_⟩ <;> omega
 have hlA : locsN p ≤ maxA := by unfold maxA; omega
 simp (maxSteps := 3000000) [-List.length_flatten,-List.map_drop,-List.map_take,Function.comp_def,argsT,Opd.ev,Tm.get,put,ares,mapMo,ares1,snilP,bldParts,bslParts,putAt,AV.cells,AV.one,astore,aload,loadCs,callArgs,abin,abinInt,aapp,elems,appMore,appNone,preLen,aFa,aFld,apart,aExt,aPick,aNot,aLens,aEqa,cellsK,fitsA,LK.fitsA,leavesA,leafA,nilD,aNilc,aCint,aCid,alive,alen,alenOk,Rle,lePs,len_flat, Kc, ↓m4, ↓m7, k1, k2, k6, k3, hX, hY]
 refine run_loopK (fun m T H => ∃ (k : Nat) (b : Bool) (M' : Mx), m = locsN p - k ∧ k ≤ locsN p ∧ Gr (locsN p) (locsN p + p.funs.length) (RuleOk p s) M M' b ∧
   (b = false → (s.kind = 4 → ∀ i, i < k → val M Y i = true → sub M i X) ∧ (s.kind = 5 → ∀ i, i < k → val M X i = true → sub M Y i)) ∧
   T = [(15, i64 k), (14, .bool b), (11, i64 (locsN p)), (10, i64 Y), (9, i64 X), (7, .ptr (N0 + 1) 0 0), (4, .ptr N0 0 0), (2, .loc I 0 0 (locsN p) 1 false), (1, strs (varsOf p))] ∧ H = HM A M' (C ++ [.cells 0 p.cs, .cells 0 s.cs]))
  (locsN p) [(15, i64 (0 : Nat)), (14, .bool false), (11, i64 (locsN p)), (10, i64 Y), (9, i64 X), (7, .ptr (N0 + 1) 0 0), (4, .ptr N0 0 0), (2, .loc I 0 0 (locsN p) 1 false), (1, strs (varsOf p))] (HM A M (C ++ [.cells 0 p.cs, .cells 0 s.cs]))
  (Wk.sub (by simp [Tm.get])) ⟨0, false, M, rfl, Nat.zero_le _, .refl hS, fun _ => ⟨fun _ i hi => by omega, fun _ i hi => by omega⟩, rfl, rfl⟩ ?_
 clear m4 m7 mI mr ml hrX hlX hput
 rintro m T H ⟨k, b, M', rfl, hk', g, hcl, rfl, rfl⟩ KK kx kr kn
 obtain ⟨m4, m7, mI, mr, ml⟩ := facts M' g.sh
 have hrX := mr X hXl
 have hlX := ml X hXl
 have hrY := mr Y hYl
 have hlY := ml Y hYl
 have hLX := hLd X hXl
 have hLY := hLd Y hYl
 by_cases hkl : k < locsN p
 ·have hkw : k < locsN p + p.funs.length := by omega
  have hvX := rowM_load g.sh hXl hkw
  have hvY := rowM_load g.sh hYl hkw
  have hkn := nxt hkl hlA
  have next : ∀ (nb : Bool) (M2 : Mx) (T' : Tm), Gr (locsN p) (locsN p + p.funs.length) (RuleOk p s) M' M2 nb → (nb = false → (s.kind = 4 → val M' Y k = true → sub M' k X) ∧ (s.kind = 5 → val M' X k = true → sub M' Y k)) →
    al (fun q => T'.get q.1 = q.2) [(15, i64 ((k + 1 : Nat) : Int)), (14, .bool (b || nb)), (11, i64 (locsN p)), (10, i64 Y), (9, i64 X), (7, .ptr (N0 + 1) 0 0), (4, .ptr N0 0 0), (2, .loc I 0 0 (locsN p) 1 false), (1, strs (varsOf p))] → KK .normal T' (HM A M2 (C ++ [.cells 0 p.cs, .cells 0 s.cs])) := by
   intro nb M2 T' g2 hn hT
   refine kn _ _ (Kl_sub (locsN p - (k + 1)) ⟨k + 1, b || nb, M2, rfl, hkl, g.trans hS g2, fun hb => ?_, rfl, rfl⟩ hT (by omega))
   simp only [Bool.or_eq_false_iff] at hb
   obtain ⟨c1, c2⟩ := hcl hb.1
   obtain ⟨d1, d2⟩ := hn hb.2
   have eM := g.old hb.1
   subst eM
   refine ⟨fun h4 i hi hvi => ?_, fun h5 i hi hvi => ?_⟩
   ·rcases Nat.lt_or_ge i k with h | h
    ·exact c1 h4 i h hvi
    ·have : i = k := by omega
     subst this
     exact d1 h4 hvi
   ·rcases Nat.lt_or_ge i k with h | h
    ·exact c2 h5 i h hvi
    ·have : i = k := by omega
     subst this
     exact d2 h5 hvi
  by_cases k4 : s.kind = 4
  ·cases hv : val M' Y k with
   | true =>
    have gI := into_Gr (Q := RuleOk p s) g.sh hkl hXl (fun N h1 h => by
     have := h.load k4 k hkl (by rw [hYn]; exact h1 _ _ hv)
     rwa [hXn] at this)
    have hno := into_no (f := k) (t := X) g.sh
    obtain ⟨n4, n7, nI, nr, nl⟩ := facts _ gI.sh
    rw [hv] at hvY
    simp (maxSteps := 3000000) [-List.length_flatten,-List.map_drop,-List.map_take,Function.comp_def,argsT,Opd.ev,Tm.get,put,ares,mapMo,ares1,snilP,bldParts,bslParts,putAt,AV.cells,AV.one,astore,aload,loadCs,callArgs,abin,abinInt,aapp,elems,appMore,appNone,preLen,aFa,aFld,apart,aExt,aPick,aNot,aLens,aEqa,cellsK,fitsA,LK.fitsA,leavesA,leafA,nilD,aNilc,aCint,aCid,alive,alen,alenOk,Rle,lePs,len_flat, hkl, ↓m4, ↓m7, ↓mI, k4, hlo, hYl, ↓hLY, ↓hrY, hlY, hkw, ↓hvY]
    refine ⟨by omega, (hinto M' g.sh k X hkl hXl).mono ?_⟩
    rintro rv H' ⟨rfl, rfl⟩
    generalize newJ M' k X (locsN p + p.funs.length) = nb at *
    cases b with
    | true =>
     simp (maxSteps := 3000000) [-List.length_flatten,-List.map_drop,-List.map_take,Function.comp_def,argsT,Opd.ev,Tm.get,put,ares,mapMo,ares1,snilP,bldParts,bslParts,putAt,AV.cells,AV.one,astore,aload,loadCs,callArgs,abin,abinInt,aapp,elems,appMore,appNone,preLen,aFa,aFld,apart,aExt,aPick,aNot,aLens,aEqa,cellsK,fitsA,LK.fitsA,leavesA,leafA,nilD,aNilc,aCint,aCid,alive,alen,alenOk,Rle,lePs,len_flat, Kc, ↓n7, k4]
     exact next nb _ _ gI (fun h => ⟨fun _ _ => hno h, fun h => by omega⟩) (by simp [Tm.get, hkn])
    | false =>
     simp (maxSteps := 3000000) [-List.length_flatten,-List.map_drop,-List.map_take,Function.comp_def,argsT,Opd.ev,Tm.get,put,ares,mapMo,ares1,snilP,bldParts,bslParts,putAt,AV.cells,AV.one,astore,aload,loadCs,callArgs,abin,abinInt,aapp,elems,appMore,appNone,preLen,aFa,aFld,apart,aExt,aPick,aNot,aLens,aEqa,cellsK,fitsA,LK.fitsA,leavesA,leafA,nilD,aNilc,aCint,aCid,alive,alen,alenOk,Rle,lePs,len_flat, Kc, ↓n7, k4]
     exact next nb _ _ gI (fun h => ⟨fun _ _ => hno h, fun h => by omega⟩) (by simp [Tm.get, hkn])
   | false =>
    rw [hv] at hvY
    simp (maxSteps := 3000000) [-List.length_flatten,-List.map_drop,-List.map_take,Function.comp_def,argsT,Opd.ev,Tm.get,put,ares,mapMo,ares1,snilP,bldParts,bslParts,putAt,AV.cells,AV.one,astore,aload,loadCs,callArgs,abin,abinInt,aapp,elems,appMore,appNone,preLen,aFa,aFld,apart,aExt,aPick,aNot,aLens,aEqa,cellsK,fitsA,LK.fitsA,leavesA,leafA,nilD,aNilc,aCint,aCid,alive,alen,alenOk,Rle,lePs,len_flat, hkl, ↓m4, ↓m7, ↓mI, k4, hlo, hYl, ↓hLY, ↓hrY, hlY, hkw, ↓hvY]
    refine ⟨by omega, ?_⟩
    exact next false _ _ (.refl g.sh) (fun _ => ⟨fun _ h => (by rw [hv] at h; cases h), fun h => by omega⟩) (by simp [Tm.get, hkn])
  by_cases k5 : s.kind = 5
  ·cases hv : val M' X k with
   | true =>
    have gI := into_Gr (Q := RuleOk p s) g.sh hYl hkl (fun N h1 h => by
     have := h.store k5 k hkl (by rw [hXn]; exact h1 _ _ hv)
     rwa [hYn] at this)
    have hno := into_no (f := Y) (t := k) g.sh
    obtain ⟨n4, n7, nI, nr, nl⟩ := facts _ gI.sh
    rw [hv] at hvX
    simp (maxSteps := 3000000) [-List.length_flatten,-List.map_drop,-List.map_take,Function.comp_def,argsT,Opd.ev,Tm.get,put,ares,mapMo,ares1,snilP,bldParts,bslParts,putAt,AV.cells,AV.one,astore,aload,loadCs,callArgs,abin,abinInt,aapp,elems,appMore,appNone,preLen,aFa,aFld,apart,aExt,aPick,aNot,aLens,aEqa,cellsK,fitsA,LK.fitsA,leavesA,leafA,nilD,aNilc,aCint,aCid,alive,alen,alenOk,Rle,lePs,len_flat, hkl, ↓m4, ↓m7, ↓mI, k4, k5, hlo, hXl, ↓hLX, ↓hrX, hlX, hkw, ↓hvX]
    refine ⟨by omega, (hinto M' g.sh Y k hYl hkl).mono ?_⟩
    rintro rv H' ⟨rfl, rfl⟩
    generalize newJ M' Y k (locsN p + p.funs.length) = nb at *
    cases b with
    | true =>
     simp (maxSteps := 3000000) [-List.length_flatten,-List.map_drop,-List.map_take,Function.comp_def,argsT,Opd.ev,Tm.get,put,ares,mapMo,ares1,snilP,bldParts,bslParts,putAt,AV.cells,AV.one,astore,aload,loadCs,callArgs,abin,abinInt,aapp,elems,appMore,appNone,preLen,aFa,aFld,apart,aExt,aPick,aNot,aLens,aEqa,cellsK,fitsA,LK.fitsA,leavesA,leafA,nilD,aNilc,aCint,aCid,alive,alen,alenOk,Rle,lePs,len_flat, Kc, ↓n7, k4]
     exact next nb _ _ gI (fun h => ⟨fun h => by omega, fun _ _ => hno h⟩) (by simp [Tm.get, hkn])
    | false =>
     simp (maxSteps := 3000000) [-List.length_flatten,-List.map_drop,-List.map_take,Function.comp_def,argsT,Opd.ev,Tm.get,put,ares,mapMo,ares1,snilP,bldParts,bslParts,putAt,AV.cells,AV.one,astore,aload,loadCs,callArgs,abin,abinInt,aapp,elems,appMore,appNone,preLen,aFa,aFld,apart,aExt,aPick,aNot,aLens,aEqa,cellsK,fitsA,LK.fitsA,leavesA,leafA,nilD,aNilc,aCint,aCid,alive,alen,alenOk,Rle,lePs,len_flat, Kc, ↓n7, k4]
     exact next nb _ _ gI (fun h => ⟨fun h => by omega, fun _ _ => hno h⟩) (by simp [Tm.get, hkn])
   | false =>
    rw [hv] at hvX
    simp (maxSteps := 3000000) [-List.length_flatten,-List.map_drop,-List.map_take,Function.comp_def,argsT,Opd.ev,Tm.get,put,ares,mapMo,ares1,snilP,bldParts,bslParts,putAt,AV.cells,AV.one,astore,aload,loadCs,callArgs,abin,abinInt,aapp,elems,appMore,appNone,preLen,aFa,aFld,apart,aExt,aPick,aNot,aLens,aEqa,cellsK,fitsA,LK.fitsA,leavesA,leafA,nilD,aNilc,aCint,aCid,alive,alen,alenOk,Rle,lePs,len_flat, hkl, ↓m4, ↓m7, ↓mI, k4, k5, hlo, hXl, ↓hLX, ↓hrX, hlX, hkw, ↓hvX]
    refine ⟨by omega, ?_⟩
    exact next false _ _ (.refl g.sh) (fun _ => ⟨fun h => by omega, fun _ h => (by rw [hv] at h; cases h)⟩) (by simp [Tm.get, hkn])
  ·simp (maxSteps := 3000000) [-List.length_flatten,-List.map_drop,-List.map_take,Function.comp_def,argsT,Opd.ev,Tm.get,put,ares,mapMo,ares1,snilP,bldParts,bslParts,putAt,AV.cells,AV.one,astore,aload,loadCs,callArgs,abin,abinInt,aapp,elems,appMore,appNone,preLen,aFa,aFld,apart,aExt,aPick,aNot,aLens,aEqa,cellsK,fitsA,LK.fitsA,leavesA,leafA,nilD,aNilc,aCint,aCid,alive,alen,alenOk,Rle,lePs,len_flat, hkl, ↓m4, ↓m7, k4, k5]
   exact next false _ _ (.refl g.sh) (fun _ => ⟨fun h => by omega, fun h => by omega⟩) (by simp [Tm.get, hkn])
 ·have ek : k = locsN p := by omega
  subst ek
  simp (maxSteps := 3000000) [-List.length_flatten,-List.map_drop,-List.map_take,Function.comp_def,argsT,Opd.ev,Tm.get,put,ares,mapMo,ares1,snilP,bldParts,bslParts,putAt,AV.cells,AV.one,astore,aload,loadCs,callArgs,abin,abinInt,aapp,elems,appMore,appNone,preLen,aFa,aFld,apart,aExt,aPick,aNot,aLens,aEqa,cellsK,fitsA,LK.fitsA,leavesA,leafA,nilD,aNilc,aCint,aCid,alive,alen,alenOk,Rle,lePs,len_flat, hkl, kx]
  have hcl0 := hcl
  refine run_loopK (fun m T H => ∃ (f : Nat) (b : Bool) (M' : Mx), m = p.funs.length - f ∧ f ≤ p.funs.length ∧ Gr (locsN p) (locsN p + p.funs.length) (RuleOk p s) M M' b ∧
    (b = false → ((s.kind = 4 → ∀ i, i < locsN p → val M Y i = true → sub M i X) ∧ (s.kind = 5 → ∀ i, i < locsN p → val M X i = true → sub M Y i)) ∧
     (s.kind = 7 → ∀ i : Nat, i < f → val M Y (locsN p + i) = true → (gi p.funs i).params.length = s.args.length →
      (∀ j : Nat, j < s.args.length → sub M (ixn p (gi s.args j)) (ixn p (gi (gi p.funs i).params j))) ∧ sub M (ixn p (gi p.funs i).ret) X)) ∧
    T = [(18, i64 f), (14, .bool b), (11, i64 (locsN p)), (10, i64 Y), (9, i64 X), (7, .ptr (N0 + 1) 0 0), (4, .ptr N0 0 0), (2, .loc I 0 0 (locsN p) 1 false), (1, strs (varsOf p))] ∧ H = HM A M' (C ++ [.cells 0 p.cs, .cells 0 s.cs]))
   p.funs.length [(18, i64 (0 : Nat)), (14, .bool b), (11, i64 (locsN p)), (10, i64 Y), (9, i64 X), (7, .ptr (N0 + 1) 0 0), (4, .ptr N0 0 0), (2, .loc I 0 0 (locsN p) 1 false), (1, strs (varsOf p))] (HM A M' (C ++ [.cells 0 p.cs, .cells 0 s.cs]))
   (Wk.sub (by simp [Tm.get])) ⟨0, b, M', rfl, Nat.zero_le _, g, fun hb => ⟨hcl0 hb, fun _ i hi => by omega⟩, rfl, rfl⟩ ?_
  clear m4 m7 mI mr ml hrX hlX hrY hlY hcl hcl0 g
  clear M' b kx kr kn
  rintro m T H ⟨f, b, M', rfl, hf, g, hcl, rfl, rfl⟩ KJ jx jr jn
  obtain ⟨m4, m7, mI, mr, ml⟩ := facts M' g.sh
  have hrY := mr Y hYl
  have hlY := ml Y hYl
  by_cases hfl : f < p.funs.length
  ·have hfn := nxt hfl hpA
   have hfm := gi_mem hfl
   have hparl : (gi p.funs f).params.length ≤ maxA := by have := hpfew _ hfm; unfold maxA; omega
   have hargl : s.args.length ≤ maxA := by have := hst.few; unfold maxA; omega
   have hwf : IntKind.i64.wrap ((locsN p : Int) + f) = ((locsN p + f : Nat) : Int) := by rw [w64 (by omega) (by omega)]; simp
   have skip : ∀ T' : Tm, (s.kind = 7 → val M' Y (locsN p + f) = true → (gi p.funs f).params.length = s.args.length → False) →
     al (fun q => T'.get q.1 = q.2) [(18, i64 ((f + 1 : Nat) : Int)), (14, .bool b), (11, i64 (locsN p)), (10, i64 Y), (9, i64 X), (7, .ptr (N0 + 1) 0 0), (4, .ptr N0 0 0), (2, .loc I 0 0 (locsN p) 1 false), (1, strs (varsOf p))] → KJ .normal T' (HM A M' (C ++ [.cells 0 p.cs, .cells 0 s.cs])) := by
    intro T' hno hT
    refine jn _ _ (Kl_sub (p.funs.length - (f + 1)) ⟨f + 1, b, M', rfl, hfl, g, fun hb => ?_, rfl, rfl⟩ hT (by omega))
    obtain ⟨c1, c2⟩ := hcl hb
    refine ⟨c1, fun h7 i hi hvi hpi => ?_⟩
    rcases Nat.lt_or_ge i f with h | h
    ·exact c2 h7 i h hvi hpi
    ·have : i = f := by omega
     subst this
     have eM := g.old hb
     subst eM
     exact (hno h7 hvi hpi).elim
   by_cases k7 : s.kind = 7
   ·have hkw : locsN p + f < locsN p + p.funs.length := by omega
    have hvY := rowM_load g.sh hYl hkw
    obtain ⟨Z, hZ⟩ : ∃ Z : Nat, locsN p + f = Z := ⟨_, rfl⟩
    rw [hZ] at hwf hkw hvY skip
    cases hv : val M' Y Z with
    | false =>
     rw [hv] at hvY
     simp (maxSteps := 3000000) [-List.length_flatten,-List.map_drop,-List.map_take,Function.comp_def,argsT,Opd.ev,Tm.get,put,ares,mapMo,ares1,snilP,bldParts,bslParts,putAt,AV.cells,AV.one,astore,aload,loadCs,callArgs,abin,abinInt,aapp,elems,appMore,appNone,preLen,aFa,aFld,apart,aExt,aPick,aNot,aLens,aEqa,cellsK,fitsA,LK.fitsA,leavesA,leafA,nilD,aNilc,aCint,aCid,alive,alen,alenOk,Rle,lePs,len_flat, hfl, ↓m4, ↓m7, ↓mI, k7, hlo, hYl, ↓hLY, ↓hrY, hlY, hwf, hkw, ↓hvY, hpA]
     refine ⟨by omega, skip _ (fun _ h => ?_) ?_⟩
     ·rw [hv] at h; cases h
     ·simp [Tm.get, hfn]
    | true =>
     rw [hv] at hvY
     by_cases hpa : (gi p.funs f).params.length = s.args.length
     ·simp (maxSteps := 3000000) [-List.length_flatten,-List.map_drop,-List.map_take,Function.comp_def,argsT,Opd.ev,Tm.get,put,ares,mapMo,ares1,snilP,bldParts,bslParts,putAt,AV.cells,AV.one,astore,aload,loadCs,callArgs,abin,abinInt,aapp,elems,appMore,appNone,preLen,aFa,aFld,apart,aExt,aPick,aNot,aLens,aEqa,cellsK,fitsA,LK.fitsA,leavesA,leafA,nilD,aNilc,aCint,aCid,alive,alen,alenOk,Rle,lePs,len_flat, hfl, ↓m4, ↓m7, ↓mI, k7, hlo, hYl, ↓hLY, ↓hrY, hlY, hwf, hkw, ↓hvY, hpA, hpa, hargl]
      refine ⟨by omega, ?_⟩
      refine run_loopK (fun m T H => ∃ (j : Nat) (b1 : Bool) (M1 : Mx), m = s.args.length - j ∧ j ≤ s.args.length ∧ Gr (locsN p) (locsN p + p.funs.length) (RuleOk p s) M' M1 b1 ∧
        (b1 = false → ∀ i : Nat, i < j → sub M' (ixn p (gi s.args i)) (ixn p (gi (gi p.funs f).params i))) ∧
        T = [(19, i64 j), (18, i64 f), (14, .bool (b || b1)), (11, i64 (locsN p)), (10, i64 Y), (9, i64 X), (7, .ptr (N0 + 1) 0 0), (4, .ptr N0 0 0), (2, .loc I 0 0 (locsN p) 1 false), (1, strs (varsOf p))] ∧ H = HM A M1 (C ++ [.cells 0 p.cs, .cells 0 s.cs]))
       s.args.length [(19, i64 (0 : Nat)), (18, i64 f), (14, .bool b), (11, i64 (locsN p)), (10, i64 Y), (9, i64 X), (7, .ptr (N0 + 1) 0 0), (4, .ptr N0 0 0), (2, .loc I 0 0 (locsN p) 1 false), (1, strs (varsOf p))] (HM A M' (C ++ [.cells 0 p.cs, .cells 0 s.cs]))
       (Wk.sub (by simp [Tm.get])) ⟨0, false, M', rfl, Nat.zero_le _, .refl g.sh, fun _ i hi => by omega, by simp, rfl⟩ ?_
      clear m4 m7 mI mr ml hrY hlY hvY
      rintro m T H ⟨j, b1, M1, rfl, hj, g1, hcl1, rfl, rfl⟩ KI ix' ir inn
      obtain ⟨m4, m7, mI, mr, ml⟩ := facts M1 g1.sh
      have hretf := hret _ hfm
      have hcall := fun N (h1 : leM M' N) (h : RuleOk p s N) => h.call k7 f hfl (by rw [hYn, hZ]; exact h1 _ _ hv) hpa
      by_cases hjl : j < s.args.length
      ·have hjp : j < (gi p.funs f).params.length := by omega
       have ha := hst.args _ (gi_mem hjl)
       have hp := hpar _ hfm _ (gi_mem hjp)
       obtain ⟨a1, ha1⟩ : ∃ a1 : Nat, ix p (gi s.args j) = a1 := ⟨(ix p (gi s.args j)).toNat, by omega⟩
       obtain ⟨a2, ha2⟩ : ∃ a2 : Nat, ix p (gi (gi p.funs f).params j) = a2 := ⟨(ix p (gi (gi p.funs f).params j)).toNat, by omega⟩
       have hn1 : ixn p (gi s.args j) = a1 := by simp [ixn, ha1]
       have hn2 : ixn p (gi (gi p.funs f).params j) = a2 := by simp [ixn, ha2]
       have gI := into_Gr (Q := RuleOk p s) (f := a1) (t := a2) g1.sh (by omega) (by omega) (fun N h1 h => by
        have := (hcall N (fun n k hk => h1 n k (g1.up n k hk)) h).1 j hjl
        rwa [hn1, hn2] at this)
       have hno := into_no (f := a1) (t := a2) g1.sh
       have hjn := nxt hjl hargl
       have at1 := atv_PF p (gi s.args j)
       have at2 := atv_PF p (gi (gi p.funs f).params j)
       rw [ha1] at at1
       rw [ha2] at at2
       simp (maxSteps := 3000000) [-List.length_flatten,-List.map_drop,-List.map_take,Function.comp_def,argsT,Opd.ev,Tm.get,put,ares,mapMo,ares1,snilP,bldParts,bslParts,putAt,AV.cells,AV.one,astore,aload,loadCs,callArgs,abin,abinInt,aapp,elems,appMore,appNone,preLen,aFa,aFld,apart,aExt,aPick,aNot,aLens,aEqa,cellsK,fitsA,LK.fitsA,leavesA,leafA,nilD,aNilc,aCint,aCid,alive,alen,alenOk,Rle,lePs,len_flat, hjl, ↓m4, ↓m7, hargl, hparl, hpA, hfl, hjp]
       refine ⟨_, at1, ?_⟩
       simp (maxSteps := 3000000) [-List.length_flatten,-List.map_drop,-List.map_take,Function.comp_def,argsT,Opd.ev,Tm.get,put,ares,mapMo,ares1,snilP,bldParts,bslParts,putAt,AV.cells,AV.one,astore,aload,loadCs,callArgs,abin,abinInt,aapp,elems,appMore,appNone,preLen,aFa,aFld,apart,aExt,aPick,aNot,aLens,aEqa,cellsK,fitsA,LK.fitsA,leavesA,leafA,nilD,aNilc,aCint,aCid,alive,alen,alenOk,Rle,lePs,len_flat, Kc, ↓m4, ↓m7, hargl, hparl, hpA, hfl, hjp]
       refine ⟨_, at2, ?_⟩
       refine (hinto M1 g1.sh a1 a2 (by omega) (by omega)).mono ?_
       rintro rv H' ⟨rfl, rfl⟩
       generalize newJ M1 a1 a2 (locsN p + p.funs.length) = nb at *
       have next1 : ∀ T' : Tm, al (fun q => T'.get q.1 = q.2) ((19, i64 ((j + 1 : Nat) : Int)) :: [(18, i64 f), (14, .bool (b || (b1 || nb))), (11, i64 (locsN p)), (10, i64 Y), (9, i64 X), (7, .ptr (N0 + 1) 0 0), (4, .ptr N0 0 0), (2, .loc I 0 0 (locsN p) 1 false), (1, strs (varsOf p))]) → KI .normal T' (HM A (intoF M1 a1 a2) (C ++ [.cells 0 p.cs, .cells 0 s.cs])) := by
        intro T' hT
        refine inn _ _ (Kl_sub (s.args.length - (j + 1)) ⟨j + 1, b1 || nb, _, rfl, hjl, g1.trans g.sh gI, fun hb => ?_, rfl, rfl⟩ hT (by omega))
        simp only [Bool.or_eq_false_iff] at hb
        intro i hi
        have eM := g1.old hb.1
        subst eM
        rcases Nat.lt_or_ge i j with h | h
        ·exact hcl1 hb.1 i h
        ·have : i = j := by omega
         subst this
         rw [hn1, hn2]
         exact hno hb.2
       cases b with
       | true =>
        simp (maxSteps := 3000000) [-List.length_flatten,-List.map_drop,-List.map_take,Function.comp_def,argsT,Opd.ev,Tm.get,put,ares,mapMo,ares1,snilP,bldParts,bslParts,putAt,AV.cells,AV.one,astore,aload,loadCs,callArgs,abin,abinInt,aapp,elems,appMore,appNone,preLen,aFa,aFld,apart,aExt,aPick,aNot,aLens,aEqa,cellsK,fitsA,LK.fitsA,leavesA,leafA,nilD,aNilc,aCint,aCid,alive,alen,alenOk,Rle,lePs,len_flat, Kc]
        refine next1 _ ?_
        simp [Tm.get, hjn]
       | false =>
        cases b1 with
        | true =>
         simp (maxSteps := 3000000) [-List.length_flatten,-List.map_drop,-List.map_take,Function.comp_def,argsT,Opd.ev,Tm.get,put,ares,mapMo,ares1,snilP,bldParts,bslParts,putAt,AV.cells,AV.one,astore,aload,loadCs,callArgs,abin,abinInt,aapp,elems,appMore,appNone,preLen,aFa,aFld,apart,aExt,aPick,aNot,aLens,aEqa,cellsK,fitsA,LK.fitsA,leavesA,leafA,nilD,aNilc,aCint,aCid,alive,alen,alenOk,Rle,lePs,len_flat, Kc]
         refine next1 _ ?_
         simp [Tm.get, hjn]
        | false =>
         simp (maxSteps := 3000000) [-List.length_flatten,-List.map_drop,-List.map_take,Function.comp_def,argsT,Opd.ev,Tm.get,put,ares,mapMo,ares1,snilP,bldParts,bslParts,putAt,AV.cells,AV.one,astore,aload,loadCs,callArgs,abin,abinInt,aapp,elems,appMore,appNone,preLen,aFa,aFld,apart,aExt,aPick,aNot,aLens,aEqa,cellsK,fitsA,LK.fitsA,leavesA,leafA,nilD,aNilc,aCint,aCid,alive,alen,alenOk,Rle,lePs,len_flat, Kc]
         refine next1 _ ?_
         simp [Tm.get, hjn]
      ·have ej : j = s.args.length := by omega
       subst ej
       simp (maxSteps := 3000000) [-List.length_flatten,-List.map_drop,-List.map_take,Function.comp_def,argsT,Opd.ev,Tm.get,put,ares,mapMo,ares1,snilP,bldParts,bslParts,putAt,AV.cells,AV.one,astore,aload,loadCs,callArgs,abin,abinInt,aapp,elems,appMore,appNone,preLen,aFa,aFld,apart,aExt,aPick,aNot,aLens,aEqa,cellsK,fitsA,LK.fitsA,leavesA,leafA,nilD,aNilc,aCint,aCid,alive,alen,alenOk,Rle,lePs,len_flat, hjl, ↓m4, ↓m7, hargl, ix', hpA, hfl]
       obtain ⟨a1, ha1⟩ : ∃ a1 : Nat, ix p (gi p.funs f).ret = a1 := ⟨(ix p (gi p.funs f).ret).toNat, by omega⟩
       have hn1 : ixn p (gi p.funs f).ret = a1 := by simp [ixn, ha1]
       have gI := into_Gr (Q := RuleOk p s) (f := a1) (t := X) g1.sh (by omega) hXl (fun N h1 h => by
        have := (hcall N (fun n k hk => h1 n k (g1.up n k hk)) h).2
        rwa [hn1, hXn] at this)
       have hno := into_no (f := a1) (t := X) g1.sh
       have at1 := atv_PF p (gi p.funs f).ret
       rw [ha1] at at1
       refine PF.call at1 9 (by simp [lePs, -List.length_flatten, -List.map_drop, -List.map_take, Function.comp_def, len_flat]) ?_
       simp (maxSteps := 3000000) [-List.length_flatten,-List.map_drop,-List.map_take,Function.comp_def,argsT,Opd.ev,Tm.get,put,ares,mapMo,ares1,snilP,bldParts,bslParts,putAt,AV.cells,AV.one,astore,aload,loadCs,callArgs,abin,abinInt,aapp,elems,appMore,appNone,preLen,aFa,aFld,apart,aExt,aPick,aNot,aLens,aEqa,cellsK,fitsA,LK.fitsA,leavesA,leafA,nilD,aNilc,aCint,aCid,alive,alen,alenOk,Rle,lePs,len_flat, Kc]
       refine (hinto M1 g1.sh a1 X (by omega) hXl).mono ?_
       rintro rv H' ⟨rfl, rfl⟩
       generalize newJ M1 a1 X (locsN p + p.funs.length) = nb at *
       have next1 : ∀ T' : Tm, al (fun q => T'.get q.1 = q.2) [(18, i64 ((f + 1 : Nat) : Int)), (14, .bool (b || (b1 || nb))), (11, i64 (locsN p)), (10, i64 Y), (9, i64 X), (7, .ptr (N0 + 1) 0 0), (4, .ptr N0 0 0), (2, .loc I 0 0 (locsN p) 1 false), (1, strs (varsOf p))] → KJ .normal T' (HM A (intoF M1 a1 X) (C ++ [.cells 0 p.cs, .cells 0 s.cs])) := by
        intro T' hT
        refine jn _ _ (Kl_sub (p.funs.length - (f + 1)) ⟨f + 1, b || (b1 || nb), _, rfl, hfl, g.trans hS (g1.trans g.sh gI), fun hb => ?_, rfl, rfl⟩ hT (by omega))
        simp only [Bool.or_eq_false_iff] at hb
        obtain ⟨hb0, hb1, hb2⟩ := hb
        obtain ⟨c1, c2⟩ := hcl hb0
        refine ⟨c1, fun h7 i hi hvi hpi => ?_⟩
        rcases Nat.lt_or_ge i f with h | h
        ·exact c2 h7 i h hvi hpi
        ·have : i = f := by omega
         subst this
         have eM := g.old hb0
         subst eM
         have eM1 := g1.old hb1
         subst eM1
         exact ⟨hcl1 hb1, by rw [hn1]; exact hno hb2⟩
       cases b with
       | true =>
        simp (maxSteps := 3000000) [-List.length_flatten,-List.map_drop,-List.map_take,Function.comp_def,argsT,Opd.ev,Tm.get,put,ares,mapMo,ares1,snilP,bldParts,bslParts,putAt,AV.cells,AV.one,astore,aload,loadCs,callArgs,abin,abinInt,aapp,elems,appMore,appNone,preLen,aFa,aFld,apart,aExt,aPick,aNot,aLens,aEqa,cellsK,fitsA,LK.fitsA,leavesA,leafA,nilD,aNilc,aCint,aCid,alive,alen,alenOk,Rle,lePs,len_flat, Kc]
        refine next1 _ ?_
        simp [Tm.get, hfn]
       | false =>
        cases b1 with
        | true =>
         simp (maxSteps := 3000000) [-List.length_flatten,-List.map_drop,-List.map_take,Function.comp_def,argsT,Opd.ev,Tm.get,put,ares,mapMo,ares1,snilP,bldParts,bslParts,putAt,AV.cells,AV.one,astore,aload,loadCs,callArgs,abin,abinInt,aapp,elems,appMore,appNone,preLen,aFa,aFld,apart,aExt,aPick,aNot,aLens,aEqa,cellsK,fitsA,LK.fitsA,leavesA,leafA,nilD,aNilc,aCint,aCid,alive,alen,alenOk,Rle,lePs,len_flat, Kc]
         refine next1 _ ?_
         simp [Tm.get, hfn]
        | false =>
         simp (maxSteps := 3000000) [-List.length_flatten,-List.map_drop,-List.map_take,Function.comp_def,argsT,Opd.ev,Tm.get,put,ares,mapMo,ares1,snilP,bldParts,bslParts,putAt,AV.cells,AV.one,astore,aload,loadCs,callArgs,abin,abinInt,aapp,elems,appMore,appNone,preLen,aFa,aFld,apart,aExt,aPick,aNot,aLens,aEqa,cellsK,fitsA,LK.fitsA,leavesA,leafA,nilD,aNilc,aCint,aCid,alive,alen,alenOk,Rle,lePs,len_flat, Kc]
         refine next1 _ ?_
         simp [Tm.get, hfn]
     ·have hpa' : ¬ ((gi p.funs f).params.length : Int) = s.args.length := by omega
      simp (maxSteps := 3000000) [-List.length_flatten,-List.map_drop,-List.map_take,Function.comp_def,argsT,Opd.ev,Tm.get,put,ares,mapMo,ares1,snilP,bldParts,bslParts,putAt,AV.cells,AV.one,astore,aload,loadCs,callArgs,abin,abinInt,aapp,elems,appMore,appNone,preLen,aFa,aFld,apart,aExt,aPick,aNot,aLens,aEqa,cellsK,fitsA,LK.fitsA,leavesA,leafA,nilD,aNilc,aCint,aCid,alive,alen,alenOk,Rle,lePs,len_flat, hfl, ↓m4, ↓m7, ↓mI, k7, hlo, hYl, ↓hLY, ↓hrY, hlY, hwf, hkw, ↓hvY, hpA, hpa', hargl, hparl]
      refine ⟨by omega, skip _ (fun _ _ h => hpa h) ?_⟩
      simp [Tm.get, hfn]
   ·simp (maxSteps := 3000000) [-List.length_flatten,-List.map_drop,-List.map_take,Function.comp_def,argsT,Opd.ev,Tm.get,put,ares,mapMo,ares1,snilP,bldParts,bslParts,putAt,AV.cells,AV.one,astore,aload,loadCs,callArgs,abin,abinInt,aapp,elems,appMore,appNone,preLen,aFa,aFld,apart,aExt,aPick,aNot,aLens,aEqa,cellsK,fitsA,LK.fitsA,leavesA,leafA,nilD,aNilc,aCint,aCid,alive,alen,alenOk,Rle,lePs,len_flat, hfl, ↓m4, ↓m7, k7, hpA]
    exact skip _ (fun h => absurd h k7) (by simp [Tm.get, hfn])
  ·have ef : f = p.funs.length := by omega
   subst ef
   simp (maxSteps := 3000000) [-List.length_flatten,-List.map_drop,-List.map_take,Function.comp_def,argsT,Opd.ev,Tm.get,put,ares,mapMo,ares1,snilP,bldParts,bslParts,putAt,AV.cells,AV.one,astore,aload,loadCs,callArgs,abin,abinInt,aapp,elems,appMore,appNone,preLen,aFa,aFld,apart,aExt,aPick,aNot,aLens,aEqa,cellsK,fitsA,LK.fitsA,leavesA,leafA,nilD,aNilc,aCint,aCid,alive,alen,alenOk,Rle,lePs,len_flat, hfl, ↓m4, jx, hpA]
   refine fin _ _ g fun hb => ?_
   obtain ⟨⟨c1, c2⟩, c3⟩ := hcl hb
   have eM := g.old hb
   subst eM
   refine ⟨fun h => absurd h k1, fun h => absurd h k2, fun h => absurd h k3, fun h => ?_, fun h => ?_, fun h => absurd h k6, fun h => ?_⟩
   ·rw [hXn, hYn]; exact c1 h
   ·rw [hXn, hYn]; exact c2 h
   ·rw [hXn, hYn]; exact c3 h
end Go.AM

namespace Go.AM
open Go.Proofs
set_option maxRecDepth 100000
set_option linter.unusedVariables false
set_option linter.unusedSimpArgs false
def c11 : AFn := ⟨152,.seq (.reg false [⟨some 1,.box (.tmp 0),none⟩,⟨some 2,.mov (.lit .nilS),none⟩,⟨some 3,.mov (.lit .nilS),none⟩]) (.seq (.reg false [⟨some 18,.load 2 true (.tmp 1),none⟩,⟨some 19,.call (.lit (.fn (.func 19) [] [])) [.tmp 18],none⟩,⟨some 4,.mov (.tmp 19),none⟩]) (.seq (.reg false [⟨some 20,.load 2 true (.tmp 1),none⟩,⟨some 21,.call (.lit (.fn (.func 25) [] [])) [.tmp 20],none⟩,⟨some 5,.mov (.tmp 21),none⟩]) (.seq (.reg false [⟨some 22,.mov (.tmp 5),none⟩,⟨some 23,.mksl 1 24 [.nilS] (.tmp 22) (.tmp 22),none⟩,⟨some 6,.mov (.tmp 23),none⟩]) (.seq (.seq (.reg false [⟨some 7,.mov (.lit (.int .i64 0)),none⟩]) (.block 0 (.loop (.seq (.seq (.reg false [⟨some 24,.mov (.tmp 7),none⟩,⟨some 25,.mov (.tmp 5),none⟩,⟨some 26,.bin .lss (.tmp 24) (.tmp 25),none⟩]) (.cond (.tmp 26) .skip (.exit 0))) (.seq (.block 1 (.reg false [⟨some 29,.mov (.tmp 6),none⟩,⟨some 30,.mov (.tmp 7),none⟩,⟨some 31,.mov (.tmp 5),none⟩,⟨some 32,.fa 0 (.tmp 1),none⟩,⟨some 33,.load 1 false (.tmp 32),none⟩,⟨some 34,.len (.tmp 33),none⟩,⟨some 35,.bin .add (.tmp 31) (.tmp 34),none⟩,⟨some 36,.mksl 1 1 [.bool false] (.tmp 35) (.tmp 35),none⟩,⟨some 37,.ia 1 (.tmp 29) (.tmp 30),none⟩,⟨none,.store 1 (.tmp 37) (.tmp 36),none⟩])) (.reg false [⟨some 27,.mov (.tmp 7),none⟩,⟨some 28,.bin .add (.tmp 27) (.lit (.int .i64 1)),none⟩,⟨some 7,.mov (.tmp 28),none⟩])))))) (.seq (.reg false [⟨some 8,.mov (.lit (.bool true)),none⟩]) (.seq (.block 2 (.loop (.seq (.seq (.reg false [⟨some 38,.mov (.tmp 8),none⟩]) (.cond (.tmp 38) .skip (.exit 2))) (.block 3 (.seq (.reg false [⟨some 8,.mov (.lit (.bool false)),none⟩]) (.seq (.reg false [⟨some 9,.mov (.lit (.int .i64 0)),none⟩]) (.block 4 (.loop (.seq (.seq (.reg false [⟨some 39,.mov (.tmp 9),none⟩,⟨some 40,.fa 1 (.tmp 1),none⟩,⟨some 41,.load 1 false (.tmp 40),none⟩,⟨some 42,.len (.tmp 41),none⟩,⟨some 43,.bin .lss (.tmp 39) (.tmp 42),none⟩]) (.cond (.tmp 43) .skip (.exit 4))) (.seq (.block 5 (.seq (.seq (.reg true [⟨some 46,.load 2 true (.tmp 1),none⟩,⟨some 47,.mov (.tmp 4),none⟩,⟨some 48,.mov (.tmp 6),none⟩,⟨some 49,.fa 1 (.tmp 1),none⟩,⟨some 50,.load 1 false (.tmp 49),none⟩,⟨some 51,.mov (.tmp 9),none⟩,⟨some 52,.ia 6 (.tmp 50) (.tmp 51),none⟩,⟨some 53,.load 6 true (.tmp 52),none⟩]) (.seq (.reg false [⟨some 54,.call (.lit (.fn (.func 26) [] [])) [.tmp 46,.tmp 47,.tmp 48,.tmp 53],none⟩]) (.reg true [⟨some 10,.mov (.tmp 54),none⟩]))) (.reg false [⟨some 55,.mov (.tmp 8),none⟩,⟨some 56,.mov (.tmp 55),none⟩,⟨some 57,.mov (.tmp 10),some ((56,false))⟩,⟨some 58,.pick (.tmp 56) (.lit (.bool true)) (.tmp 57),none⟩,⟨some 8,.mov (.tmp 58),none⟩]))) (.reg false [⟨some 44,.mov (.tmp 9),none⟩,⟨some 45,.bin .add (.tmp 44) (.lit (.int .i64 1)),none⟩,⟨some 9,.mov (.tmp 45),none⟩]))))))))))) (.seq (.reg false [⟨some 11,.mov (.lit .nilS),none⟩]) (.seq (.seq (.reg false [⟨some 12,.mov (.lit (.int .i64 0)),none⟩]) (.block 6 (.loop (.seq (.seq (.reg false [⟨some 59,.mov (.tmp 12),none⟩,⟨some 60,.mov (.tmp 5),none⟩,⟨some 61,.bin .lss (.tmp 59) (.tmp 60),none⟩]) (.cond (.tmp 61) .skip (.exit 6))) (.seq (.block 7 (.seq (.reg false [⟨some 13,.mov (.lit .nilS),none⟩]) (.seq (.seq (.reg false [⟨some 14,.mov (.lit (.int .i64 0)),none⟩]) (.block 8 (.loop (.seq (.seq (.reg false [⟨some 64,.mov (.tmp 14),none⟩,⟨some 65,.mov (.tmp 6),none⟩,⟨some 66,.mov (.tmp 12),none⟩,⟨some 67,.ia 1 (.tmp 65) (.tmp 66),none⟩,⟨some 68,.load 1 false (.tmp 67),none⟩,⟨some 69,.len (.tmp 68),none⟩,⟨some 70,.bin .lss (.tmp 64) (.tmp 69),none⟩]) (.cond (.tmp 70) .skip (.exit 8))) (.seq (.block 9 (.seq (.reg false [⟨some 73,.mov (.tmp 6),none⟩,⟨some 74,.mov (.tmp 12),none⟩,⟨some 75,.ia 1 (.tmp 73) (.tmp 74),none⟩,⟨some 76,.load 1 false (.tmp 75),none⟩,⟨some 77,.mov (.tmp 14),none⟩,⟨some 78,.ia 1 (.tmp 76) (.tmp 77),none⟩,⟨some 79,.load 1 false (.tmp 78),none⟩]) (.cond (.tmp 79) (.reg false [⟨some 80,.mov (.tmp 13),none⟩,⟨some 81,.mov (.tmp 14),none⟩,⟨some 82,.bslice 1 1 [.int .i64 0] [(0,.tmp 81)],none⟩,⟨some 83,.app 1 8 (.tmp 80) (.tmp 82),none⟩,⟨some 13,.mov (.tmp 83),none⟩]) .skip))) (.reg false [⟨some 71,.mov (.tmp 14),none⟩,⟨some 72,.bin .add (.tmp 71) (.lit (.int .i64 1)),none⟩,⟨some 14,.mov (.tmp 72),none⟩])))))) (.seq .mark (.reg false [⟨some 84,.mov (.tmp 11),none⟩,⟨some 85,.mov (.tmp 13),none⟩,⟨some 86,.bslice 1 1 [.nilS] [(0,.tmp 85)],none⟩,⟨some 87,.app 1 24 (.tmp 84) (.tmp 86),none⟩,⟨some 11,.mov (.tmp 87),none⟩]))))) (.reg false [⟨some 62,.mov (.tmp 12),none⟩,⟨some 63,.bin .add (.tmp 62) (.lit (.int .i64 1)),none⟩,⟨some 12,.mov (.tmp 63),none⟩])))))) (.seq (.reg false [⟨some 15,.mov (.lit .nilS),none⟩]) (.seq (.seq (.reg false [⟨some 16,.mov (.lit (.int .i64 0)),none⟩]) (.block 10 (.loop (.seq (.seq (.reg false [⟨some 88,.mov (.tmp 16),none⟩,⟨some 89,.fa 1 (.tmp 1),none⟩,⟨some 90,.load 1 false (.tmp 89),none⟩,⟨some 91,.len (.tmp 90),none⟩,⟨some 92,.bin .lss (.tmp 88) (.tmp 91),none⟩]) (.cond (.tmp 92) .skip (.exit 10))) (.seq (.block 11 (.seq (.reg false [⟨some 17,.mov (.lit (.int .i64 0)),none⟩]) (.block 12 (.loop (.seq (.seq (.reg false [⟨some 95,.mov (.tmp 17),none⟩,⟨some 96,.fa 0 (.tmp 1),none⟩,⟨some 97,.load 1 false (.tmp 96),none⟩,⟨some 98,.len (.tmp 97),none⟩,⟨some 99,.bin .lss (.tmp 95) (.tmp 98),none⟩,⟨some 100,.mov (.tmp 99),none⟩,⟨some 101,.fa 1 (.tmp 1),some ((100,true))⟩,⟨some 102,.load 1 false (.tmp 101),some ((100,true))⟩,⟨some 103,.mov (.tmp 16),some ((100,true))⟩,⟨some 104,.ia 6 (.tmp 102) (.tmp 103),some ((100,true))⟩,⟨some 105,.fa 0 (.tmp 104),some ((100,true))⟩,⟨some 106,.load 1 false (.tmp 105),some ((100,true))⟩,⟨some 107,.bin .eql (.tmp 106) (.lit (.int .i64 7)),some ((100,true))⟩,⟨some 108,.pick (.tmp 100) (.tmp 107) (.lit (.bool false)),none⟩]) (.cond (.tmp 108) .skip (.exit 12))) (.seq (.block 13 (.seq (.reg true [⟨some 111,.mov (.tmp 6),none⟩,⟨some 112,.mov (.tmp 4),none⟩,⟨some 113,.fa 1 (.tmp 1),none⟩,⟨some 114,.load 1 false (.tmp 113),none⟩,⟨some 115,.mov (.tmp 16),none⟩,⟨some 116,.ia 6 (.tmp 114) (.tmp 115),none⟩,⟨some 117,.fa 3 (.tmp 116),none⟩,⟨some 118,.load 1 false (.tmp 117),none⟩,⟨some 119,.call (.lit (.fn (.func 21) [] [])) [.tmp 112,.tmp 118],none⟩,⟨some 120,.ia 1 (.tmp 111) (.tmp 119),none⟩,⟨some 121,.load 1 false (.tmp 120),none⟩,⟨some 122,.mov (.tmp 5),none⟩,⟨some 123,.mov (.tmp 17),none⟩,⟨some 124,.bin .add (.tmp 122) (.tmp 123),none⟩,⟨some 125,.ia 1 (.tmp 121) (.tmp 124),none⟩,⟨some 126,.load 1 false (.tmp 125),none⟩,⟨some 127,.mov (.tmp 126),none⟩,⟨some 128,.fa 0 (.tmp 1),some ((127,true))⟩,⟨some 129,.load 1 false (.tmp 128),some ((127,true))⟩,⟨some 130,.mov (.tmp 17),some ((127,true))⟩,⟨some 131,.ia 3 (.tmp 129) (.tmp 130),some ((127,true))⟩,⟨some 132,.fa 1 (.tmp 131),some ((127,true))⟩,⟨some 133,.load 1 false (.tmp 132),some ((127,true))⟩,⟨some 134,.len (.tmp 133),some ((127,true))⟩,⟨some 135,.fa 1 (.tmp 1),some ((127,true))⟩,⟨some 136,.load 1 false (.tmp 135),some ((127,true))⟩,⟨some 137,.mov (.tmp 16),some ((127,true))⟩,⟨some 138,.ia 6 (.tmp 136) (.tmp 137),some ((127,true))⟩,⟨some 139,.fa 4 (.tmp 138),some ((127,true))⟩,⟨some 140,.load 1 false (.tmp 139),some ((127,true))⟩,⟨some 141,.len (.tmp 140),some ((127,true))⟩,⟨some 142,.bin .eql (.tmp 134) (.tmp 141),some ((127,true))⟩,⟨some 143,.pick (.tmp 127) (.tmp 142) (.lit (.bool false)),none⟩]) (.cond (.tmp 143) (.reg false [⟨some 144,.mov (.tmp 15),none⟩,⟨some 145,.mov (.tmp 16),none⟩,⟨some 146,.mov (.tmp 17),none⟩,⟨some 147,.build [.int .i64 0,.int .i64 0] [(0,1,.tmp 145),(1,1,.tmp 146)],none⟩,⟨some 148,.bslice 2 1 [.int .i64 0,.int .i64 0] [(0,.tmp 147)],none⟩,⟨some 149,.app 2 16 (.tmp 144) (.tmp 148),none⟩,⟨some 15,.mov (.tmp 149),none⟩]) .skip))) (.reg false [⟨some 109,.mov (.tmp 17),none⟩,⟨some 110,.bin .add (.tmp 109) (.lit (.int .i64 1)),none⟩,⟨some 17,.mov (.tmp 110),none⟩]))))))) (.reg false [⟨some 93,.mov (.tmp 16),none⟩,⟨some 94,.bin .add (.tmp 93) (.lit (.int .i64 1)),none⟩,⟨some 16,.mov (.tmp 94),none⟩])))))) (.seq (.reg false [⟨some 150,.mov (.tmp 11),none⟩,⟨some 151,.mov (.tmp 15),none⟩,⟨some 2,.mov (.tmp 150),none⟩,⟨some 3,.mov (.tmp 151),none⟩]) .ret))))))))))),[.tmp 2,.tmp 3]⟩
/-! ### All rules, as long as something is new -/
def an11 : An := ⟨[], [1000014, 26]⟩
theorem c11_ok : cFn Try.prog an11 Try.f11 = some c11 := by kernel_rfl
theorem Gr.mono {h w : Nat} {Q Q' : Mx → Prop} {M M' : Mx} {b : Bool} (g : Gr h w Q M M' b) (hq : ∀ N, Q' N → Q N) : Gr h w Q' M M' b :=
 ⟨g.sh, g.up, g.new, g.old, fun N h1 h2 => g.least N h1 (hq N h2)⟩
def AllOk (p : Pg) (N : Mx) : Prop := ∀ s ∈ p.l, RuleOk p s N
def M0 (h w : Nat) : Mx := List.replicate h (List.replicate w false)
theorem M0_sh (h w : Nat) : Sh (M0 h w) h w := ⟨by simp [M0], fun n hn => by simp [M0, List.getD, hn]⟩
theorem M0_val (h w n k : Nat) : val (M0 h w) n k = false := by
 unfold val M0
 by_cases hn : n < h
 ·by_cases hk : k < w <;> simp [List.getD, hn, hk]
 ·simp [List.getD, hn]
/-- What is told of the sets: each one's places. -/
def trueIn (r : List Bool) : Nat → List Int
 | 0 => []
 | k + 1 => if r.getD k false then trueIn r k ++ [(k : Int)] else trueIn r k
def ptsN (M : Mx) (w n : Nat) : List (List Int) := (List.range n).map fun i => trueIn (rowM M i) w
def edgeIn (p : Pg) (M : Mx) (i : Nat) : Nat → List Ed
 | 0 => []
 | f + 1 => if (gi p.l i).kind = 7 ∧ val M (ixn p (gi p.l i).y) (locsN p + f) = true ∧ (gi p.funs f).params.length = (gi p.l i).args.length then edgeIn p M i f ++ [⟨i, f⟩] else edgeIn p M i f
def edgesN (p : Pg) (M : Mx) : Nat → List Ed
 | 0 => []
 | i + 1 => edgesN p M i ++ edgeIn p M i p.funs.length
theorem trueIn_len (r : List Bool) : ∀ k, (trueIn r k).length ≤ k
 | 0 => by simp [trueIn]
 | k + 1 => by
  have := trueIn_len r k
  unfold trueIn
  split <;> simp <;> omega
theorem edgeIn_len (p : Pg) (M : Mx) (i : Nat) : ∀ f, (edgeIn p M i f).length ≤ f
 | 0 => by simp [edgeIn]
 | f + 1 => by
  have := edgeIn_len p M i f
  unfold edgeIn
  split <;> simp <;> omega
theorem edgesN_len (p : Pg) (M : Mx) : ∀ i, (edgesN p M i).length ≤ i * p.funs.length
 | 0 => by simp [edgesN]
 | i + 1 => by
  have h1 := edgesN_len p M i
  have h2 := edgeIn_len p M i p.funs.length
  simp only [edgesN, List.length_append, Nat.add_mul]
  omega
theorem ptsN_next (M : Mx) (w n : Nat) : ptsN M w (n + 1) = ptsN M w n ++ [trueIn (rowM M n) w] := by simp [ptsN, List.range_succ]
def q11 (p : Pg) (r : AV) : Prop := ∃ M, Sh M (locsN p) (locsN p + p.funs.length) ∧ AllOk p M ∧ (∀ N, AllOk p N → leM M N) ∧ r = .tuple [.rows false 1 ((ptsN M (locsN p + p.funs.length) (locsN p)).map fun l => [ints l]), pairs (edgesN p M p.l.length)]
theorem q11_RL (p : Pg) (n : Nat) : ∀ r, q11 p r → RL n r := by
 rintro r ⟨M, _, _, _, rfl⟩
 refine .tuple _ fun v hv => ?_
 simp only [List.mem_cons, List.not_mem_nil, or_false] at hv
 rcases hv with rfl | rfl
 ·simp
 ·exact pairs_RL _ _
/-- The row of rows while it is made. -/
def mkC (h w n : Nat) : List AV := (outC2 2 n w) ++ List.replicate (h - n) .nilS
theorem mkC_len {h w n : Nat} (hn : n ≤ h) : (mkC h w n).length = h := by simp [mkC, outC2_len]; omega
theorem mkC_set {h w n : Nat} (hn : n < h) : (mkC h w n).set n (.loc (2 + n) 0 0 w 1 false) = mkC h w (n + 1) := by
 unfold mkC
 have hl := outC2_len 2 n w
 rw [List.set_append_right _ _ (by omega), hl, Nat.sub_self]
 obtain ⟨d, hd⟩ : ∃ d, h - n = d + 1 := ⟨h - n - 1, by omega⟩
 rw [hd, List.replicate_succ, List.set_cons_zero, show h - (n + 1) = d by omega]
 simp [outC2, List.range_succ]
theorem mkC_full (h w : Nat) : mkC h w h = outC2 2 h w := by simp [mkC]
theorem HM_push (A : AHeap) (M : Mx) (r : List Bool) : HM A M [] ++ [rb r] = HM A (M ++ [r]) [] := by simp [HM]
theorem al_of {α : Type} {p : α → Prop} : ∀ {l : List α}, (∀ x ∈ l, p x) → al p l
 | [], _ => trivial
 | a :: l, h => ⟨h a (by simp), al_of fun x hx => h x (by simp [hx])⟩
theorem iv_fl (l : List Int) : fl (fun n => [i64 n]) l = iv l := by
 induction l with
 | nil => rfl
 | cons a l ih => rw [fl_cons, ih]; rfl
theorem pts_RL (n g : Nat) (ls : List (List Int)) : RLB n (.cells g (ls.map ints)) := by
 intro y hy
 obtain ⟨l, _, rfl⟩ := List.mem_map.1 hy
 simp
theorem HM_0 {a b : ABlk} {M : Mx} {C : AHeap} : (HM [a, b] M C)[0]? = some a := rfl
theorem HM_1 {a b : ABlk} {M : Mx} {C : AHeap} : (HM [a, b] M C)[1]? = some b := rfl
theorem HM_set1 {a b x : ABlk} {M : Mx} {C : AHeap} : (HM [a, b] M C).set 1 x = HM [a, x] M C := rfl
theorem HM_len2 {a b : ABlk} {M : Mx} {C : AHeap} : (HM [a, b] M C).length = 2 + (M.length + C.length) := by rw [HM_len]; rfl
theorem M0_next (n w : Nat) : M0 n w ++ [List.replicate w false] = M0 (n + 1) w := by simp [M0, List.replicate_succ']
theorem least_E {p : Pg} (hp : Of p) : PFE Try.prog 11 [.agg p.cs] (q11 p) := by
 refine PFEk 9 hm Try.func11 c11_ok (Nat.le_of_ble_eq_true rfl) (by simp) (fun r h => q11_RL p 0 r h) ?_
 have hn := hp.neat
 have hft := hp.fits
 have hlocs0 := hn.locs
 have hfuns := hn.funs
 have hll := hn.l
 have hlocs := locs25_PF p hft (by omega)
 have eloc : (varsOf p).length + sitesN p.l = locsN p := rfl
 rw [eloc] at hlocs hlocs0
 have hlA : locsN p ≤ maxA := by unfold maxA; omega
 have hfA : p.funs.length ≤ maxA := by unfold maxA; omega
 have hpA : p.l.length ≤ maxA := by unfold maxA; omega
 have hW : ∃ W : Nat, locsN p + p.funs.length = W := ⟨_, rfl⟩
 obtain ⟨W, hW⟩ := hW
 have hwW : IntKind.i64.wrap ((locsN p : Int) + p.funs.length) = (W : Int) := by rw [w64 (by omega) (by omega)]; omega
 have hWA : W ≤ maxA := by unfold maxA; omega
 have hrep : ∀ (n : Nat) (a : AV), (List.replicate n [a]).flatten = List.replicate n a := by
  intro n a
  induction n with
  | zero => rfl
  | succ n ih => simp [List.replicate_succ, ih]
 have hmk : ∀ H, aMksl 1 24 [.nilS] H (i64 (locsN p)) (i64 (locsN p)) = some (.loc H.length 0 0 (locsN p) 1 false, H ++ [.cells 0 (List.replicate (locsN p) .nilS)]) := by
  intro H
  have b1 : (locsN p : Int) * 24 ≤ limB := by unfold limB; omega
  have b2 : (locsN p : Int) ≤ maxA := by omega
  simp [aMksl, b1, b2, hrep]
 have hmk2 : ∀ H, aMksl 1 1 [.bool false] H (i64 W) (i64 W) = some (.loc H.length 0 0 W 1 false, H ++ [rb (List.replicate W false)]) := by
  intro H
  have b1 : (W : Int) * 1 ≤ limB := by unfold limB; omega
  have b2 : (W : Int) ≤ maxA := by omega
  have b3 : (W : Int) ≤ limB := by unfold limB; omega
  simp [aMksl, b1, b2, b3, hrep, rb, bs]
 simp (maxSteps := 3000000) [-List.length_flatten,-List.map_drop,-List.map_take,Function.comp_def,argsT,Opd.ev,Tm.get,put,ares,mapMo,ares1,snilP,bldParts,bslParts,putAt,AV.cells,AV.one,astore,aload,loadCs,callArgs,abin,abinInt,aapp,elems,appMore,appNone,preLen,aFa,aFld,apart,aExt,aPick,aNot,aLens,aEqa,cellsK,fitsA,LK.fitsA,leavesA,leafA,nilD,aNilc,aCint,aCid,alive,alen,alenOk,Rle,lePs,len_flat, c11]
 refine PF.call (vars_PF p hft) 9 (by simp [lePs, -List.length_flatten, -List.map_drop, -List.map_take, Function.comp_def, len_flat]) ?_
 simp (maxSteps := 3000000) [-List.length_flatten,-List.map_drop,-List.map_take,Function.comp_def,argsT,Opd.ev,Tm.get,put,ares,mapMo,ares1,snilP,bldParts,bslParts,putAt,AV.cells,AV.one,astore,aload,loadCs,callArgs,abin,abinInt,aapp,elems,appMore,appNone,preLen,aFa,aFld,apart,aExt,aPick,aNot,aLens,aEqa,cellsK,fitsA,LK.fitsA,leavesA,leafA,nilD,aNilc,aCint,aCid,alive,alen,alenOk,Rle,lePs,len_flat, Kc]
 refine PF.call hlocs 9 (by simp [lePs, -List.length_flatten, -List.map_drop, -List.map_take, Function.comp_def, len_flat]) ?_
 simp (maxSteps := 3000000) [-List.length_flatten,-List.map_drop,-List.map_take,Function.comp_def,argsT,Opd.ev,Tm.get,put,ares,mapMo,ares1,snilP,bldParts,bslParts,putAt,AV.cells,AV.one,astore,aload,loadCs,callArgs,abin,abinInt,aapp,elems,appMore,appNone,preLen,aFa,aFld,apart,aExt,aPick,aNot,aLens,aEqa,cellsK,fitsA,LK.fitsA,leavesA,leafA,nilD,aNilc,aCint,aCid,alive,alen,alenOk,Rle,lePs,len_flat, Kc, hmk]
 refine run_loopK (fun m T H => ∃ n : Nat, m = locsN p - n ∧ n ≤ locsN p ∧ T = [(7, i64 n), (6, .loc 1 0 0 (locsN p) 1 false), (5, i64 (locsN p)), (4, strs (varsOf p)), (1, .ptr 0 0 0)] ∧ H = HM [.cells 0 p.cs, .cells 0 (mkC (locsN p) W n)] (M0 n W) [])
  (locsN p) [(7, i64 (0 : Nat)), (6, .loc 1 0 0 (locsN p) 1 false), (5, i64 (locsN p)), (4, strs (varsOf p)), (1, .ptr 0 0 0)] [.cells 0 p.cs, .cells 0 (List.replicate (locsN p) .nilS)]
  (Wk.sub (by simp [Tm.get])) ⟨0, rfl, Nat.zero_le _, rfl, by simp [mkC, outC2, HM, M0]⟩ ?_
 rintro m T H ⟨n, rfl, hnl, rfl, rfl⟩ KK kx kr kn
 by_cases hlt : n < locsN p
 ·have hml := mkC_len (w := W) hnl
  have hset := mkC_set (w := W) hlt
  have hM0l : (M0 n W).length = n := by simp [M0]
  have hnx := nxt hlt hlA
  have g0 := fun oc M C => HM_0 (a := .cells 0 p.cs) (b := .cells 0 oc) (M := M) (C := C)
  have g1 := fun oc M C => HM_1 (a := .cells 0 p.cs) (b := .cells 0 oc) (M := M) (C := C)
  simp (maxSteps := 3000000) [-List.length_flatten,-List.map_drop,-List.map_take,Function.comp_def,argsT,Opd.ev,Tm.get,put,ares,mapMo,ares1,snilP,bldParts,bslParts,putAt,AV.cells,AV.one,astore,aload,loadCs,callArgs,abin,abinInt,aapp,elems,appMore,appNone,preLen,aFa,aFld,apart,aExt,aPick,aNot,aLens,aEqa,cellsK,fitsA,LK.fitsA,leavesA,leafA,nilD,aNilc,aCint,aCid,alive,alen,alenOk,Rle,lePs,len_flat, hlt, ↓g0, hfA, hwW, hmk2, HM_push, HM_len2, hM0l, ↓g1, hml, HM_set1, hset, M0_next]
  refine ⟨by omega, kn _ _ (Kl_sub (locsN p - (n + 1)) ⟨n + 1, rfl, hlt, rfl, rfl⟩ ?_ (by omega))⟩
  simp [Tm.get, hnx]
 have en : n = locsN p := by omega
 subst en
 rw [mkC_full]
 generalize hA0 : [ABlk.cells 0 p.cs, ABlk.cells 0 (outC2 2 (locsN p) W)] = A0 at *
 have hAl : A0.length = 2 := by rw [← hA0]; rfl
 have hAI : A0[1]? = some (.cells 0 (outC2 A0.length (locsN p) (locsN p + p.funs.length))) := by rw [hAl, hW, ← hA0]; rfl
 have g0 : ∀ M C, (HM A0 M C)[0]? = some (.cells 0 p.cs) := fun M C => by rw [← hA0]; rfl
 have hin : ∀ s ∈ p.l, StOk p s → InOk p s A0 1 := fun s hs hst => ⟨hst, hft, hlocs0, hfuns, hAI, hn.params, fun f hf a ha => hp.ok.param hf ha, fun f hf => hp.ok.ret hf⟩
 have hbs : ∀ M M', Sh M (locsN p) W → Sh M' (locsN p) W → ∀ b ∈ HM A0 M' [], RLB (HM A0 M []).length b := by
  intro M M' h1 h2 b hb
  have hlen : (HM A0 M []).length = 2 + locsN p := by rw [HM_len, hAl, h1.len]; simp
  rw [hlen]
  unfold HM at hb
  rw [← hA0] at hb
  simp only [List.append_nil, List.cons_append, List.nil_append, List.mem_cons, List.mem_map] at hb
  rcases hb with rfl | rfl | ⟨r, _, rfl⟩
  ·simp [RLB]
  ·simp only [RLB, outC2, List.mem_map]
   rintro _ ⟨q, hq, rfl⟩
   simp at hq
   simp
   omega
  ·intro y hy
   obtain ⟨b, _, rfl⟩ := List.mem_map.1 hy
   simp
 clear kn hlt hnl kr
 simp (maxSteps := 3000000) [-List.length_flatten,-List.map_drop,-List.map_take,Function.comp_def,argsT,Opd.ev,Tm.get,put,ares,mapMo,ares1,snilP,bldParts,bslParts,putAt,AV.cells,AV.one,astore,aload,loadCs,callArgs,abin,abinInt,aapp,elems,appMore,appNone,preLen,aFa,aFld,apart,aExt,aPick,aNot,aLens,aEqa,cellsK,fitsA,LK.fitsA,leavesA,leafA,nilD,aNilc,aCint,aCid,alive,alen,alenOk,Rle,lePs,len_flat, kx]
 refine run_loopK (fun m T H => ∃ (b : Bool) (M : Mx), m = (if b then 3000 - cnt M else 0) ∧ Sh M (locsN p) W ∧ (∀ N, AllOk p N → leM M N) ∧ (b = false → AllOk p M) ∧
   T = [(8, .bool b), (6, .loc 1 0 0 (locsN p) 1 false), (5, i64 (locsN p)), (4, strs (varsOf p)), (1, .ptr 0 0 0)] ∧ H = HM A0 M [])
  (3000 - cnt (M0 (locsN p) W)) [(8, .bool true), (6, .loc 1 0 0 (locsN p) 1 false), (5, i64 (locsN p)), (4, strs (varsOf p)), (1, .ptr 0 0 0)] (HM A0 (M0 (locsN p) W) [])
  (Wk.sub (by simp [Tm.get])) ⟨true, M0 (locsN p) W, rfl, M0_sh _ _, fun N _ n k h => ?_, fun h => (by cases h), rfl, rfl⟩ ?_
 ·rw [M0_val] at h; cases h
 clear kx
 clear KK
 rintro m T H ⟨b, M, rfl, hS, hle, hall, rfl, rfl⟩ KK kx kr kn
 cases b with
 | true =>
  have hcn : cnt M < 3000 := by
   have := hS.few
   have : locsN p * W ≤ 40 * 48 := Nat.mul_le_mul hlocs0 (by omega)
   omega
  simp (maxSteps := 3000000) [-List.length_flatten,-List.map_drop,-List.map_take,Function.comp_def,argsT,Opd.ev,Tm.get,put,ares,mapMo,ares1,snilP,bldParts,bslParts,putAt,AV.cells,AV.one,astore,aload,loadCs,callArgs,abin,abinInt,aapp,elems,appMore,appNone,preLen,aFa,aFld,apart,aExt,aPick,aNot,aLens,aEqa,cellsK,fitsA,LK.fitsA,leavesA,leafA,nilD,aNilc,aCint,aCid,alive,alen,alenOk,Rle,lePs,len_flat]
  refine run_loopK (fun m T H => ∃ (i : Nat) (b : Bool) (M1 : Mx), m = p.l.length - i ∧ i ≤ p.l.length ∧ Gr (locsN p) W (AllOk p) M M1 b ∧ (b = false → ∀ j : Nat, j < i → RuleOk p (gi p.l j) M) ∧
    T = [(9, i64 i), (8, .bool b), (6, .loc 1 0 0 (locsN p) 1 false), (5, i64 (locsN p)), (4, strs (varsOf p)), (1, .ptr 0 0 0)] ∧ H = HM A0 M1 [])
   p.l.length [(9, i64 (0 : Nat)), (8, .bool false), (6, .loc 1 0 0 (locsN p) 1 false), (5, i64 (locsN p)), (4, strs (varsOf p)), (1, .ptr 0 0 0)] (HM A0 M [])
   (Wk.sub (by simp [Tm.get])) ⟨0, false, M, rfl, Nat.zero_le _, .refl hS, fun _ j hj => by omega, rfl, rfl⟩ ?_
  rintro m T H ⟨i, b, M1, rfl, hi, g, hcl, rfl, rfl⟩ KI ix' ir inn
  by_cases hil : i < p.l.length
  ·have hsm := gi_mem hil
   have hst := hp.stm hil
   have hinx := nxt hil hpA
   have hg := g0 M1 []
   have hS1 := g.sh
   have hrule := rule_FT (C := []) (hin _ hsm hst) (M := M1) (by rw [hW]; exact hS1) (fun M' hM' => hbs M1 M' hS1 (by rw [← hW]; exact hM'))
   rw [hW] at hrule
   simp (maxSteps := 3000000) [-List.length_flatten,-List.map_drop,-List.map_take,Function.comp_def,argsT,Opd.ev,Tm.get,put,ares,mapMo,ares1,snilP,bldParts,bslParts,putAt,AV.cells,AV.one,astore,aload,loadCs,callArgs,abin,abinInt,aapp,elems,appMore,appNone,preLen,aFa,aFld,apart,aExt,aPick,aNot,aLens,aEqa,cellsK,fitsA,LK.fitsA,leavesA,leafA,nilD,aNilc,aCint,aCid,alive,alen,alenOk,Rle,lePs,len_flat, hil, ↓hg, hpA]
   refine hrule.mono ?_
   rintro rv H' ⟨M2, b2, rfl, rfl, g2, hr2⟩
   have g2' := g2.mono (Q' := AllOk p) fun N h => h _ hsm
   have next : ∀ T' : Tm, al (fun q => T'.get q.1 = q.2) [(9, i64 ((i + 1 : Nat) : Int)), (8, .bool (b || b2)), (6, .loc 1 0 0 (locsN p) 1 false), (5, i64 (locsN p)), (4, strs (varsOf p)), (1, .ptr 0 0 0)] → KI .normal T' (HM A0 M2 []) := by
    intro T' hT
    refine inn _ _ (Kl_sub (p.l.length - (i + 1)) ⟨i + 1, b || b2, M2, rfl, hil, g.trans hS g2', fun hb => ?_, rfl, rfl⟩ hT (by omega))
    simp only [Bool.or_eq_false_iff] at hb
    intro j hj
    have eM := g.old hb.1
    subst eM
    rcases Nat.lt_or_ge j i with h | h
    ·exact hcl hb.1 j h
    ·have : j = i := by omega
     subst this
     exact hr2 hb.2
   cases b with
   | true =>
    simp (maxSteps := 3000000) [-List.length_flatten,-List.map_drop,-List.map_take,Function.comp_def,argsT,Opd.ev,Tm.get,put,ares,mapMo,ares1,snilP,bldParts,bslParts,putAt,AV.cells,AV.one,astore,aload,loadCs,callArgs,abin,abinInt,aapp,elems,appMore,appNone,preLen,aFa,aFld,apart,aExt,aPick,aNot,aLens,aEqa,cellsK,fitsA,LK.fitsA,leavesA,leafA,nilD,aNilc,aCint,aCid,alive,alen,alenOk,Rle,lePs,len_flat, Kc]
    refine next _ ?_
    simp [Tm.get, hinx]
   | false =>
    simp (maxSteps := 3000000) [-List.length_flatten,-List.map_drop,-List.map_take,Function.comp_def,argsT,Opd.ev,Tm.get,put,ares,mapMo,ares1,snilP,bldParts,bslParts,putAt,AV.cells,AV.one,astore,aload,loadCs,callArgs,abin,abinInt,aapp,elems,appMore,appNone,preLen,aFa,aFld,apart,aExt,aPick,aNot,aLens,aEqa,cellsK,fitsA,LK.fitsA,leavesA,leafA,nilD,aNilc,aCint,aCid,alive,alen,alenOk,Rle,lePs,len_flat, Kc]
    refine next _ ?_
    simp [Tm.get, hinx]
  ·have ei : i = p.l.length := by omega
   subst ei
   have hg := g0 M1 []
   simp (maxSteps := 3000000) [-List.length_flatten,-List.map_drop,-List.map_take,Function.comp_def,argsT,Opd.ev,Tm.get,put,ares,mapMo,ares1,snilP,bldParts,bslParts,putAt,AV.cells,AV.one,astore,aload,loadCs,callArgs,abin,abinInt,aapp,elems,appMore,appNone,preLen,aFa,aFld,apart,aExt,aPick,aNot,aLens,aEqa,cellsK,fitsA,LK.fitsA,leavesA,leafA,nilD,aNilc,aCint,aCid,alive,alen,alenOk,Rle,lePs,len_flat, hil, ↓hg, hpA, ix']
   refine kn _ _ (Kl_sub (if b then 3000 - cnt M1 else 0) ⟨b, M1, rfl, g.sh, fun N hN => g.least N (hle N hN) hN, fun hb => ?_, rfl, rfl⟩ (by simp [Tm.get]) ?_)
   ·have eM := g.old hb
    subst eM
    intro s hs
    obtain ⟨j, hj, rfl⟩ := List.getElem_of_mem hs
    have := hcl hb j hj
    have e : gi p.l (j : Int) = p.l[j] := by simp [gi, List.getD, hj]
    rwa [e] at this
   ·cases b with
    | true =>
     have := g.more hS
     simp
     omega
    | false => simp; omega
 | false =>
  have hA := hall rfl
  have hMl := hS.len
  have hlen1 : ∀ C, (HM A0 M C).length = locsN p + 2 + C.length := fun C => by rw [HM_len, hAl, hMl]; omega
  have hgi : ∀ C, (HM A0 M C)[1]? = some (.cells 0 (outC2 2 (locsN p) W)) := fun C => by rw [← hA0]; rfl
  have hgr : ∀ C n, n < locsN p → (HM A0 M C)[2 + n]? = some (.cells 0 (bs (rowM M n))) := fun C n h => by rw [← hAl, HM_row (by omega)]; rfl
  have hgc : ∀ C i, (HM A0 M C)[locsN p + 2 + i]? = C[i]? := fun C i => by rw [show locsN p + 2 + i = A0.length + (M.length + i) by omega, HM_C]
  have hsetc : ∀ C i b, (HM A0 M C).set (locsN p + 2 + i) b = HM A0 M (C.set i b) := fun C i b => by
   unfold HM
   rw [show locsN p + 2 + i = A0.length + (M.length + i) by omega, List.set_append_right _ _ (by omega), show A0.length + (M.length + i) - A0.length = M.length + i by omega, List.set_append_right _ _ (by simp), List.length_map, show M.length + i - M.length = i by omega]
  have hRLB : ∀ C k, locsN p + 2 ≤ k → al (RLB k) C → al (RLB k) (HM A0 M C) := by
   intro C k hk hC
   refine al_of fun b hb => ?_
   unfold HM at hb
   rcases List.mem_append.1 hb with hb | hb
   ·exact RLB_mono (by rw [hlen1]; simp; omega) (hbs M M hS hS b (by unfold HM; simp [hb]))
   rcases List.mem_append.1 hb with hb | hb
   ·obtain ⟨r, _, rfl⟩ := List.mem_map.1 hb
    intro y hy
    obtain ⟨b, _, rfl⟩ := List.mem_map.1 hy
    simp
   ·exact al_mem hC b hb
  simp (maxSteps := 3000000) [-List.length_flatten,-List.map_drop,-List.map_take,Function.comp_def,argsT,Opd.ev,Tm.get,put,ares,mapMo,ares1,snilP,bldParts,bslParts,putAt,AV.cells,AV.one,astore,aload,loadCs,callArgs,abin,abinInt,aapp,elems,appMore,appNone,preLen,aFa,aFld,apart,aExt,aPick,aNot,aLens,aEqa,cellsK,fitsA,LK.fitsA,leavesA,leafA,nilD,aNilc,aCint,aCid,alive,alen,alenOk,Rle,lePs,len_flat, kx]
  refine run_loopK (fun m T H => ∃ n g : Nat, m = locsN p - n ∧ n ≤ locsN p ∧ T = [(12, i64 n), (11, .loc (locsN p + 2) g 0 n 1 false), (6, .loc 1 0 0 (locsN p) 1 false), (5, i64 (locsN p)), (4, strs (varsOf p)), (1, .ptr 0 0 0)] ∧ H = HM A0 M [.cells g ((ptsN M W n).map ints)])
   (locsN p) [(12, i64 (0 : Nat)), (11, .loc (locsN p + 2) 0 0 0 1 false), (6, .loc 1 0 0 (locsN p) 1 false), (5, i64 (locsN p)), (4, strs (varsOf p)), (1, .ptr 0 0 0)] (HM A0 M [] ++ [.cells 0 []])
   ((Wk.nil 11 1 (by simp [Tm.get])).trans (Wk.sub (by simp [Tm.get, hlen1]))) ⟨0, 0, rfl, Nat.zero_le _, rfl, by rw [HM_app]; simp [ptsN]⟩ ?_
  clear kx kr kn
  clear KK
  rintro m T H ⟨n, g, rfl, hnl, rfl, rfl⟩ KK kx kr kn
  by_cases hlt : n < locsN p
  ·have hinx := nxt hlt hlA
   simp (maxSteps := 3000000) [-List.length_flatten,-List.map_drop,-List.map_take,Function.comp_def,argsT,Opd.ev,Tm.get,put,ares,mapMo,ares1,snilP,bldParts,bslParts,putAt,AV.cells,AV.one,astore,aload,loadCs,callArgs,abin,abinInt,aapp,elems,appMore,appNone,preLen,aFa,aFld,apart,aExt,aPick,aNot,aLens,aEqa,cellsK,fitsA,LK.fitsA,leavesA,leafA,nilD,aNilc,aCint,aCid,alive,alen,alenOk,Rle,lePs,len_flat, hlt]
   refine run_loopK (fun m T H => ∃ k g' : Nat, m = W - k ∧ k ≤ W ∧ T = [(14, i64 k), (13, .loc (locsN p + 2 + 1) g' 0 (trueIn (rowM M n) k).length 1 false), (12, i64 n), (11, .loc (locsN p + 2) g 0 n 1 false), (6, .loc 1 0 0 (locsN p) 1 false), (5, i64 (locsN p)), (4, strs (varsOf p)), (1, .ptr 0 0 0)] ∧ H = HM A0 M [.cells g ((ptsN M W n).map ints), .cells g' (iv (trueIn (rowM M n) k))])
    W [(14, i64 (0 : Nat)), (13, .loc (locsN p + 2 + 1) 0 0 0 1 false), (12, i64 n), (11, .loc (locsN p + 2) g 0 n 1 false), (6, .loc 1 0 0 (locsN p) 1 false), (5, i64 (locsN p)), (4, strs (varsOf p)), (1, .ptr 0 0 0)] (HM A0 M [.cells g ((ptsN M W n).map ints)] ++ [.cells 0 []])
    ((Wk.nil 13 1 (by simp [Tm.get])).trans (Wk.sub (by simp [Tm.get, hlen1]))) ⟨0, 0, rfl, Nat.zero_le _, rfl, by rw [HM_app]; rfl⟩ ?_
   rintro m T H ⟨k, g', rfl, hk, rfl, rfl⟩ KI ix' ir inn
   have hL := outC2_load (B := 2) (w := W) hlt
   have hlo := outC2_len 2 (locsN p) W
   have hrl : (bs (rowM M n)).length = W := by have := hS.wid n hlt; simpa [rowM] using this
   have hg1 := hgi [.cells g ((ptsN M W n).map ints), .cells g' (iv (trueIn (rowM M n) k))]
   have hg2 := hgr [.cells g ((ptsN M W n).map ints), .cells g' (iv (trueIn (rowM M n) k))] n hlt
   have hg3 := hgc [.cells g ((ptsN M W n).map ints), .cells g' (iv (trueIn (rowM M n) k))] 1
   by_cases hkw : k < W
   ·have hvl := rowM_load hS hlt hkw
    have hkn := nxt hkw hWA
    cases hv : val M n k with
    | true =>
     rw [hv] at hvl
     simp (maxSteps := 3000000) [-List.length_flatten,-List.map_drop,-List.map_take,Function.comp_def,argsT,Opd.ev,Tm.get,put,ares,mapMo,ares1,snilP,bldParts,bslParts,putAt,AV.cells,AV.one,astore,aload,loadCs,callArgs,abin,abinInt,aapp,elems,appMore,appNone,preLen,aFa,aFld,apart,aExt,aPick,aNot,aLens,aEqa,cellsK,fitsA,LK.fitsA,leavesA,leafA,nilD,aNilc,aCint,aCid,alive,alen,alenOk,Rle,lePs,len_flat, hlt, hkw, ↓hg1, hlo, ↓hL, ↓hg2, hrl, ↓hvl, ↓hg3, hWA]
     refine fun _ _ => ⟨by have := trueIn_len (rowM M n) k; omega, ?_⟩
     rw [hsetc]
     have e : trueIn (rowM M n) (k + 1) = trueIn (rowM M n) k ++ [(k : Int)] := by
      have : (rowM M n).getD k false = true := hv
      rw [trueIn, if_pos this]
     refine inn _ _ (Kl_sub (W - (k + 1)) ⟨k + 1, g' + 1, rfl, hkw, rfl, ?_⟩ ?_ (by omega))
     ·rw [e]
      simp [iv]
     ·rw [e]
      simp [Tm.get, hkn]
    | false =>
     rw [hv] at hvl
     simp (maxSteps := 3000000) [-List.length_flatten,-List.map_drop,-List.map_take,Function.comp_def,argsT,Opd.ev,Tm.get,put,ares,mapMo,ares1,snilP,bldParts,bslParts,putAt,AV.cells,AV.one,astore,aload,loadCs,callArgs,abin,abinInt,aapp,elems,appMore,appNone,preLen,aFa,aFld,apart,aExt,aPick,aNot,aLens,aEqa,cellsK,fitsA,LK.fitsA,leavesA,leafA,nilD,aNilc,aCint,aCid,alive,alen,alenOk,Rle,lePs,len_flat, hlt, hkw, ↓hg1, hlo, ↓hL, ↓hg2, hrl, ↓hvl, hWA]
     have e : trueIn (rowM M n) (k + 1) = trueIn (rowM M n) k := by
      have : ¬ (rowM M n).getD k false = true := by
       have h : (rowM M n).getD k false = false := hv
       rw [h]; simp
      rw [trueIn, if_neg this]
     refine inn _ _ (Kl_sub (W - (k + 1)) ⟨k + 1, g', rfl, hkw, rfl, ?_⟩ ?_ (by omega))
     ·rw [e]
     ·rw [e]
      simp [Tm.get, hkn]
   ·have ek : k = W := by omega
    subst ek
    simp (maxSteps := 3000000) [-List.length_flatten,-List.map_drop,-List.map_take,Function.comp_def,argsT,Opd.ev,Tm.get,put,ares,mapMo,ares1,snilP,bldParts,bslParts,putAt,AV.cells,AV.one,astore,aload,loadCs,callArgs,abin,abinInt,aapp,elems,appMore,appNone,preLen,aFa,aFld,apart,aExt,aPick,aNot,aLens,aEqa,cellsK,fitsA,LK.fitsA,leavesA,leafA,nilD,aNilc,aCint,aCid,alive,alen,alenOk,Rle,lePs,len_flat, hlt, hkw, ↓hg1, hlo, ↓hL, ↓hg2, hrl, hWA, ix']
    have hch := chunk_fl (f := fun n : Int => [i64 n]) (sz := 1) (by simp) (trueIn (rowM M n) k)
    rw [iv_fl] at hch
    refine run_markT [(13, ints (trueIn (rowM M n) k)), (12, i64 n), (11, .loc (locsN p + 2) g 0 n 1 false), (6, .loc 1 0 0 (locsN p) 1 false), (5, i64 (locsN p)), (4, strs (varsOf p)), (1, .ptr 0 0 0)] (HM A0 M [.cells g ((ptsN M k n).map ints)])
     ((Wk.freeze (i := locsN p + 2 + 1) (g := g') (off := 0) (len := (trueIn (rowM M n) k).length) (sz := 1) (c := false) (cs := iv (trueIn (rowM M n) k)) 13 (by simp [Tm.get]) hg3 (by simp)).trans (Wk.tell (locsN p + 2 + 1) (by omega) (by simp [Tm.get, hch]) ?_ ?_ ?_)) ?_
    ·simp
    ·rw [hsetc]
     have e : HM A0 M [.cells g ((ptsN M k n).map ints), .dead g'] = HM A0 M [.cells g ((ptsN M k n).map ints)] ++ [.dead g'] := by rw [HM_app]; rfl
     have e2 : (HM A0 M [.cells g ((ptsN M k n).map ints)]).length = locsN p + 2 + 1 := by rw [hlen1]; rfl
     show (HM A0 M [.cells g ((ptsN M k n).map ints), .dead g']).take _ = _
     rw [e, ← e2, List.take_left]
    ·exact hRLB _ _ (by omega) ⟨pts_RL _ _ _, trivial⟩
    have hg4 := hgc [.cells g ((ptsN M k n).map ints)] 0
    have hptl : (ptsN M k n).length = n := by simp [ptsN]
    have htk : ((ptsN M k n).map ints).take n = (ptsN M k n).map ints := List.take_of_length_le (by simp [hptl])
    have hnA : n + 1 ≤ maxA := by omega
    simp only [Nat.add_zero] at hg4
    simp (maxSteps := 3000000) [-List.length_flatten,-List.map_drop,-List.map_take,Function.comp_def,argsT,Opd.ev,Tm.get,put,ares,mapMo,ares1,snilP,bldParts,bslParts,putAt,AV.cells,AV.one,astore,aload,loadCs,callArgs,abin,abinInt,aapp,elems,appMore,appNone,preLen,aFa,aFld,apart,aExt,aPick,aNot,aLens,aEqa,cellsK,fitsA,LK.fitsA,leavesA,leafA,nilD,aNilc,aCint,aCid,alive,alen,alenOk,Rle,lePs,len_flat, ↓hg4, hptl, htk, hnA]
    refine fun _ _ => ?_
    have hs4 := hsetc [.cells g ((ptsN M k n).map ints)] 0
    simp only [Nat.add_zero] at hs4
    rw [hs4]
    refine kn _ _ (Kl_sub (locsN p - (n + 1)) ⟨n + 1, g + 1, rfl, hlt, rfl, ?_⟩ (by simp [Tm.get, hinx]) (by omega))
    rw [ptsN_next]
    simp
  ·have en : n = locsN p := by omega
   subst en
   simp (maxSteps := 3000000) [-List.length_flatten,-List.map_drop,-List.map_take,Function.comp_def,argsT,Opd.ev,Tm.get,put,ares,mapMo,ares1,snilP,bldParts,bslParts,putAt,AV.cells,AV.one,astore,aload,loadCs,callArgs,abin,abinInt,aapp,elems,appMore,appNone,preLen,aFa,aFld,apart,aExt,aPick,aNot,aLens,aEqa,cellsK,fitsA,LK.fitsA,leavesA,leafA,nilD,aNilc,aCint,aCid,alive,alen,alenOk,Rle,lePs,len_flat, hlt, kx]
   refine run_loopK (fun m T H => ∃ i g' : Nat, m = p.l.length - i ∧ i ≤ p.l.length ∧ T = [(16, i64 i), (15, .loc (locsN p + 2 + 1) g' 0 (edgesN p M i).length 2 false), (11, .loc (locsN p + 2) g 0 (locsN p) 1 false), (6, .loc 1 0 0 (locsN p) 1 false), (5, i64 (locsN p)), (4, strs (varsOf p)), (1, .ptr 0 0 0)] ∧ H = HM A0 M [.cells g ((ptsN M W (locsN p)).map ints), .cells g' (fl Ed.cs (edgesN p M i))])
    p.l.length [(16, i64 (0 : Nat)), (15, .loc (locsN p + 2 + 1) 0 0 0 2 false), (11, .loc (locsN p + 2) g 0 (locsN p) 1 false), (6, .loc 1 0 0 (locsN p) 1 false), (5, i64 (locsN p)), (4, strs (varsOf p)), (1, .ptr 0 0 0)] (HM A0 M [.cells g ((ptsN M W (locsN p)).map ints)] ++ [.cells 0 []])
    ((Wk.nil 15 2 (by simp [Tm.get])).trans (Wk.sub (by simp [Tm.get, hlen1]))) ⟨0, 0, rfl, Nat.zero_le _, rfl, by rw [HM_app]; rfl⟩ ?_
   clear kx kr kn
   clear KK
   rintro m T H ⟨i, g', rfl, hi, rfl, rfl⟩ KK kx kr kn
   have hg0 := g0 M [.cells g ((ptsN M W (locsN p)).map ints), .cells g' (fl Ed.cs (edgesN p M i))]
   by_cases hil : i < p.l.length
   ·have hinx := nxt hil hpA
    have hsm := gi_mem hil
    have hst := hp.stm hil
    simp (maxSteps := 3000000) [-List.length_flatten,-List.map_drop,-List.map_take,Function.comp_def,argsT,Opd.ev,Tm.get,put,ares,mapMo,ares1,snilP,bldParts,bslParts,putAt,AV.cells,AV.one,astore,aload,loadCs,callArgs,abin,abinInt,aapp,elems,appMore,appNone,preLen,aFa,aFld,apart,aExt,aPick,aNot,aLens,aEqa,cellsK,fitsA,LK.fitsA,leavesA,leafA,nilD,aNilc,aCint,aCid,alive,alen,alenOk,Rle,lePs,len_flat, hil, ↓hg0, hpA]
    refine run_loopK (fun m T H => ∃ f g' : Nat, m = p.funs.length - f ∧ f ≤ p.funs.length ∧ T = [(17, i64 f), (16, i64 i), (15, .loc (locsN p + 2 + 1) g' 0 (edgesN p M i ++ edgeIn p M i f).length 2 false), (11, .loc (locsN p + 2) g 0 (locsN p) 1 false), (6, .loc 1 0 0 (locsN p) 1 false), (5, i64 (locsN p)), (4, strs (varsOf p)), (1, .ptr 0 0 0)] ∧ H = HM A0 M [.cells g ((ptsN M W (locsN p)).map ints), .cells g' (fl Ed.cs (edgesN p M i ++ edgeIn p M i f))])
     p.funs.length [(17, i64 (0 : Nat)), (16, i64 i), (15, .loc (locsN p + 2 + 1) g' 0 (edgesN p M i).length 2 false), (11, .loc (locsN p + 2) g 0 (locsN p) 1 false), (6, .loc 1 0 0 (locsN p) 1 false), (5, i64 (locsN p)), (4, strs (varsOf p)), (1, .ptr 0 0 0)] (HM A0 M [.cells g ((ptsN M W (locsN p)).map ints), .cells g' (fl Ed.cs (edgesN p M i))])
     (Wk.sub (by simp [Tm.get])) ⟨0, g', rfl, Nat.zero_le _, by simp [edgeIn], by simp [edgeIn]⟩ ?_
    clear hg0 hi
    clear g'
    rintro m T H ⟨f, g', rfl, hf, rfl, rfl⟩ KI ix' ir inn
    have hg0 := g0 M [.cells g ((ptsN M W (locsN p)).map ints), .cells g' (fl Ed.cs (edgesN p M i ++ edgeIn p M i f))]
    have done : ∀ T' : Tm, edgeIn p M i f = edgeIn p M i p.funs.length → al (fun q => T'.get q.1 = q.2) [(16, i64 ((i + 1 : Nat) : Int)), (15, .loc (locsN p + 2 + 1) g' 0 (edgesN p M i ++ edgeIn p M i f).length 2 false), (11, .loc (locsN p + 2) g 0 (locsN p) 1 false), (6, .loc 1 0 0 (locsN p) 1 false), (5, i64 (locsN p)), (4, strs (varsOf p)), (1, .ptr 0 0 0)] → KK .normal T' (HM A0 M [.cells g ((ptsN M W (locsN p)).map ints), .cells g' (fl Ed.cs (edgesN p M i ++ edgeIn p M i f))]) := by
     intro T' he hT
     rw [he] at hT ⊢
     exact kn _ _ (Kl_sub (p.l.length - (i + 1)) ⟨i + 1, g', rfl, hil, rfl, rfl⟩ hT (by omega))
    by_cases hfl : f < p.funs.length
    ·by_cases k7 : (gi p.l i).kind = 7
     ·obtain ⟨Y, hY⟩ : ∃ Y : Nat, ix p (gi p.l i).y = Y := ⟨(ix p (gi p.l i).y).toNat, by have := hst.y (by omega) (by omega); omega⟩
      have hYl : Y < locsN p := by
       have := hst.y (by omega) (by omega)
       have : (varsOf p).length ≤ locsN p := by unfold locsN; omega
       omega
      have hYn : ixn p (gi p.l i).y = Y := by simp [ixn, hY]
      have hfn := nxt hfl hfA
      have at1 := atv_PF p (gi p.l i).y
      rw [hY] at at1
      have hg1 := hgi [.cells g ((ptsN M W (locsN p)).map ints), .cells g' (fl Ed.cs (edgesN p M i ++ edgeIn p M i f))]
      have hg2 := hgr [.cells g ((ptsN M W (locsN p)).map ints), .cells g' (fl Ed.cs (edgesN p M i ++ edgeIn p M i f))] Y hYl
      have hg3 := hgc [.cells g ((ptsN M W (locsN p)).map ints), .cells g' (fl Ed.cs (edgesN p M i ++ edgeIn p M i f))] 1
      have hLY := outC2_load (B := 2) (w := W) hYl
      have hlo := outC2_len 2 (locsN p) W
      have hrl : (bs (rowM M Y)).length = W := by have := hS.wid Y hYl; simpa [rowM] using this
      have hwf : IntKind.i64.wrap ((locsN p : Int) + f) = ((locsN p + f : Nat) : Int) := by rw [w64 (by omega) (by omega)]; simp
      have hZw : locsN p + f < W := by omega
      have hvl := rowM_load hS hYl hZw
      have hparl : (gi p.funs f).params.length ≤ maxA := by have := hn.params _ (gi_mem hfl); unfold maxA; omega
      have hargl : (gi p.l i).args.length ≤ maxA := by have := hst.few; unfold maxA; omega
      have hel : (edgesN p M i).length ≤ 60 * 8 := Nat.le_trans (edgesN_len p M i) (Nat.mul_le_mul (by omega) hfuns)
      have hel2 := edgeIn_len p M i f
      have hfle := fl_len (f := Ed.cs) (sz := 2) (by simp) (edgesN p M i ++ edgeIn p M i f)
      have hap := app_fl (f := Ed.cs) (sz := 2) (by simp) (edgesN p M i ++ edgeIn p M i f) [⟨(i : Int), (f : Int)⟩]
      rw [fl_cons, fl_nil, List.append_nil] at hap
      have hne : edgeIn p M i (f + 1) = if val M Y (locsN p + f) = true ∧ (gi p.funs f).params.length = (gi p.l i).args.length then edgeIn p M i f ++ [⟨i, f⟩] else edgeIn p M i f := by
       rw [edgeIn, hYn]
       simp [k7]
      have hEl : (edgesN p M i ++ edgeIn p M i f).length + 1 ≤ maxA := by rw [List.length_append]; unfold maxA; omega
      generalize hE : edgesN p M i ++ edgeIn p M i f = E at *
      obtain ⟨Z, hZ⟩ : ∃ Z : Nat, locsN p + f = Z := ⟨_, rfl⟩
      rw [hZ] at hwf hZw hvl hne
      cases hv : val M Y Z with
      | true =>
       rw [hv] at hvl hne
       by_cases hpa : (gi p.funs f).params.length = (gi p.l i).args.length
       ·rw [if_pos ⟨rfl, hpa⟩] at hne
        simp (maxSteps := 3000000) [-List.length_flatten,-List.map_drop,-List.map_take,Function.comp_def,argsT,Opd.ev,Tm.get,put,ares,mapMo,ares1,snilP,bldParts,bslParts,putAt,AV.cells,AV.one,astore,aload,loadCs,callArgs,abin,abinInt,aapp,elems,appMore,appNone,preLen,aFa,aFld,apart,aExt,aPick,aNot,aLens,aEqa,cellsK,fitsA,LK.fitsA,leavesA,leafA,nilD,aNilc,aCint,aCid,alive,alen,alenOk,Rle,lePs,len_flat, hil, hfl, ↓hg0, hfA, hpA, k7]
        refine ⟨_, at1, ?_⟩
        simp (maxSteps := 3000000) [-List.length_flatten,-List.map_drop,-List.map_take,Function.comp_def,argsT,Opd.ev,Tm.get,put,ares,mapMo,ares1,snilP,bldParts,bslParts,putAt,AV.cells,AV.one,astore,aload,loadCs,callArgs,abin,abinInt,aapp,elems,appMore,appNone,preLen,aFa,aFld,apart,aExt,aPick,aNot,aLens,aEqa,cellsK,fitsA,LK.fitsA,leavesA,leafA,nilD,aNilc,aCint,aCid,alive,alen,alenOk,Rle,lePs,len_flat, Kc, ↓hg0, ↓hg1, ↓hg2, ↓hg3, hlo, ↓hLY, hrl, ↓hvl, hwf, hZw, hfl, hil, hfA, hpA, hpa, hargl, hfle, hEl, hYl, chunk]
        refine fun _ _ => ?_
        rw [hsetc, hap]
        have e2 : edgesN p M i ++ edgeIn p M i (f + 1) = E ++ [⟨i, f⟩] := by rw [hne, ← List.append_assoc, hE]
        refine inn _ _ (Kl_sub (p.funs.length - (f + 1)) ⟨f + 1, g' + 1, rfl, hfl, rfl, ?_⟩ ?_ (by omega))
        ·rw [e2]
         rfl
        ·rw [e2]
         simp [Tm.get, hfn]
       ·rw [if_neg (fun h => hpa h.2)] at hne
        have hpa' : ¬ ((gi p.funs f).params.length : Int) = (gi p.l i).args.length := by omega
        simp (maxSteps := 3000000) [-List.length_flatten,-List.map_drop,-List.map_take,Function.comp_def,argsT,Opd.ev,Tm.get,put,ares,mapMo,ares1,snilP,bldParts,bslParts,putAt,AV.cells,AV.one,astore,aload,loadCs,callArgs,abin,abinInt,aapp,elems,appMore,appNone,preLen,aFa,aFld,apart,aExt,aPick,aNot,aLens,aEqa,cellsK,fitsA,LK.fitsA,leavesA,leafA,nilD,aNilc,aCint,aCid,alive,alen,alenOk,Rle,lePs,len_flat, hil, hfl, ↓hg0, hfA, hpA, k7]
        refine ⟨_, at1, ?_⟩
        simp (maxSteps := 3000000) [-List.length_flatten,-List.map_drop,-List.map_take,Function.comp_def,argsT,Opd.ev,Tm.get,put,ares,mapMo,ares1,snilP,bldParts,bslParts,putAt,AV.cells,AV.one,astore,aload,loadCs,callArgs,abin,abinInt,aapp,elems,appMore,appNone,preLen,aFa,aFld,apart,aExt,aPick,aNot,aLens,aEqa,cellsK,fitsA,LK.fitsA,leavesA,leafA,nilD,aNilc,aCint,aCid,alive,alen,alenOk,Rle,lePs,len_flat, Kc, ↓hg0, ↓hg1, ↓hg2, ↓hg3, hlo, ↓hLY, hrl, ↓hvl, hwf, hZw, hfl, hil, hfA, hpA, hpa', hargl, hparl, hYl]
        have e2 : edgesN p M i ++ edgeIn p M i (f + 1) = E := by rw [hne, hE]
        refine inn _ _ (Kl_sub (p.funs.length - (f + 1)) ⟨f + 1, g', rfl, hfl, rfl, ?_⟩ ?_ (by omega))
        ·rw [e2]
        ·rw [e2]
         simp [Tm.get, hfn]
      | false =>
       rw [hv] at hvl
       rw [hv, if_neg (fun h => by cases h.1)] at hne
       simp (maxSteps := 3000000) [-List.length_flatten,-List.map_drop,-List.map_take,Function.comp_def,argsT,Opd.ev,Tm.get,put,ares,mapMo,ares1,snilP,bldParts,bslParts,putAt,AV.cells,AV.one,astore,aload,loadCs,callArgs,abin,abinInt,aapp,elems,appMore,appNone,preLen,aFa,aFld,apart,aExt,aPick,aNot,aLens,aEqa,cellsK,fitsA,LK.fitsA,leavesA,leafA,nilD,aNilc,aCint,aCid,alive,alen,alenOk,Rle,lePs,len_flat, hil, hfl, ↓hg0, hfA, hpA, k7]
       refine ⟨_, at1, ?_⟩
       simp (maxSteps := 3000000) [-List.length_flatten,-List.map_drop,-List.map_take,Function.comp_def,argsT,Opd.ev,Tm.get,put,ares,mapMo,ares1,snilP,bldParts,bslParts,putAt,AV.cells,AV.one,astore,aload,loadCs,callArgs,abin,abinInt,aapp,elems,appMore,appNone,preLen,aFa,aFld,apart,aExt,aPick,aNot,aLens,aEqa,cellsK,fitsA,LK.fitsA,leavesA,leafA,nilD,aNilc,aCint,aCid,alive,alen,alenOk,Rle,lePs,len_flat, Kc, ↓hg0, ↓hg1, ↓hg2, ↓hg3, hlo, ↓hLY, hrl, ↓hvl, hwf, hZw, hfl, hil, hfA, hpA, hYl]
       have e2 : edgesN p M i ++ edgeIn p M i (f + 1) = E := by rw [hne, hE]
       refine inn _ _ (Kl_sub (p.funs.length - (f + 1)) ⟨f + 1, g', rfl, hfl, rfl, ?_⟩ ?_ (by omega))
       ·rw [e2]
       ·rw [e2]
        simp [Tm.get, hfn]
     ·have h0 : ∀ f, edgeIn p M i f = [] := fun f => by
       induction f with
       | zero => rfl
       | succ f ih => rw [edgeIn, if_neg (fun h => k7 h.1), ih]
      simp (maxSteps := 3000000) [-List.length_flatten,-List.map_drop,-List.map_take,Function.comp_def,argsT,Opd.ev,Tm.get,put,ares,mapMo,ares1,snilP,bldParts,bslParts,putAt,AV.cells,AV.one,astore,aload,loadCs,callArgs,abin,abinInt,aapp,elems,appMore,appNone,preLen,aFa,aFld,apart,aExt,aPick,aNot,aLens,aEqa,cellsK,fitsA,LK.fitsA,leavesA,leafA,nilD,aNilc,aCint,aCid,alive,alen,alenOk,Rle,lePs,len_flat, hil, hfl, ↓hg0, hfA, hpA, k7, ix']
      exact done _ (by rw [h0, h0]) (by simp [Tm.get, hinx])
    ·have ef : f = p.funs.length := by omega
     subst ef
     simp (maxSteps := 3000000) [-List.length_flatten,-List.map_drop,-List.map_take,Function.comp_def,argsT,Opd.ev,Tm.get,put,ares,mapMo,ares1,snilP,bldParts,bslParts,putAt,AV.cells,AV.one,astore,aload,loadCs,callArgs,abin,abinInt,aapp,elems,appMore,appNone,preLen,aFa,aFld,apart,aExt,aPick,aNot,aLens,aEqa,cellsK,fitsA,LK.fitsA,leavesA,leafA,nilD,aNilc,aCint,aCid,alive,alen,alenOk,Rle,lePs,len_flat, hil, hfl, ↓hg0, hfA, ix']
     exact done _ rfl (by simp [Tm.get, hinx])
   ·have ei : i = p.l.length := by omega
    subst ei
    simp (maxSteps := 3000000) [-List.length_flatten,-List.map_drop,-List.map_take,Function.comp_def,argsT,Opd.ev,Tm.get,put,ares,mapMo,ares1,snilP,bldParts,bslParts,putAt,AV.cells,AV.one,astore,aload,loadCs,callArgs,abin,abinInt,aapp,elems,appMore,appNone,preLen,aFa,aFld,apart,aExt,aPick,aNot,aLens,aEqa,cellsK,fitsA,LK.fitsA,leavesA,leafA,nilD,aNilc,aCint,aCid,alive,alen,alenOk,Rle,lePs,len_flat, hil, ↓hg0, hpA, kx]
    refine RleE.of _ ⟨M, by rw [hW]; exact hS, hA, hle, rfl⟩ ?_
    have hc1 := hgc [.cells g ((ptsN M W (locsN p)).map ints), .cells g' (fl Ed.cs (edgesN p M p.l.length))] 0
    have hc2 := hgc [.cells g ((ptsN M W (locsN p)).map ints), .cells g' (fl Ed.cs (edgesN p M p.l.length))] 1
    simp only [Nat.add_zero] at hc1
    have hpl : (ptsN M W (locsN p)).length = locsN p := by simp [ptsN]
    have hch := chunk_fl (f := Ed.cs) (sz := 2) (by simp) (edgesN p M p.l.length)
    have hch1 := chunk1 (locsN p) ((ptsN M W (locsN p)).map ints) (by simp [hpl])
    have htk : ((ptsN M W (locsN p)).map ints).take (locsN p) = (ptsN M W (locsN p)).map ints := List.take_of_length_le (by simp [hpl])
    rw [htk] at hch1
    have hfle := fl_len (f := Ed.cs) (sz := 2) (by simp) (edgesN p M p.l.length)
    rw [hW]
    simp [frz, hc1, hc2, hpl, hch, hch1, hfle, leP, lePs]
end Go.AM

namespace Go.AM
open Go.Proofs
set_option maxRecDepth 100000
set_option linter.unusedVariables false
set_option linter.unusedSimpArgs false
/-! ### What a program does is among what its rules tell -/
section
variable {p : Pg} {M : Mx}
/-- What a value may be in a location. -/
def HoldsAt (p : Pg) (M : Mx) (cs : List Cl) (n : Nat) (k v : Int) : Prop :=
 (k = 1 → val M n (gi cs v).loc.toNat = true) ∧ (k = 2 → val M n (locsN p + v.toNat) = true)
def CellSnd (p : Pg) (M : Mx) (cs : List Cl) : Prop := ∀ i : Nat, i < cs.length → HoldsAt p M cs (gi cs i).loc.toNat (gi cs i).kind (gi cs i).v
def CalOk (p : Pg) (M : Mx) (i f : Int) : Prop :=
 (0 ≤ i ∧ i < p.l.length ∧ (gi p.l i).kind = 7) ∧ (0 ≤ f ∧ f < p.funs.length) ∧ val M (ixn p (gi p.l i).y) (locsN p + f.toNat) = true ∧ (gi p.funs f).params.length = (gi p.l i).args.length
structure Snd (p : Pg) (M : Mx) (m : Mc) : Prop where
 cs : CellSnd p M m.cells
 st : ∀ k : Nat, 1 ≤ k → k < m.stack.length → CalOk p M (gi m.stack k).call (gi m.stack k).body
 ed : ∀ e ∈ m.edges, CalOk p M e.a e.b
theorem HoldsAt.sub {cs : List Cl} {a b : Nat} {k v : Int} (h : HoldsAt p M cs a k v) (hs : Go.AM.sub M a b) : HoldsAt p M cs b k v := ⟨fun e => hs _ (h.1 e), fun e => hs _ (h.2 e)⟩
theorem gz {α : Type} [Inhabited α] {l : List α} {i : Int} (h : 0 ≤ i) : gi l (i.toNat : Int) = gi l i := by rw [Int.toNat_of_nonneg h]
theorem HoldsAt.loc {cs cs' : List Cl} (hl : ∀ i : Nat, i < cs.length → (gi cs' i).loc = (gi cs i).loc) {n : Nat} {k v : Int} (hv : k = 1 → 0 ≤ v ∧ v < cs.length) (h : HoldsAt p M cs n k v) : HoldsAt p M cs' n k v := by
 refine ⟨fun e => ?_, h.2⟩
 obtain ⟨v0, v1⟩ := hv e
 have := hl v.toNat (by omega)
 rw [gz v0] at this
 rw [this]
 exact h.1 e
theorem CellSnd.at {cs : List Cl} (h : CellSnd p M cs) {i : Int} (h0 : 0 ≤ i) (h1 : i < cs.length) : HoldsAt p M cs (gi cs i).loc.toNat (gi cs i).kind (gi cs i).v := by
 have := h i.toNat (by omega)
 rwa [gz h0] at this
theorem CellSnd.hold {cs : List Cl} (hc : CsOk p cs) (h : CellSnd p M cs) {to : Int} {c : Cl} (h0 : 0 ≤ to) (h1 : to < cs.length) (hh : HoldsAt p M cs (gi cs to).loc.toNat c.kind c.v) (hv : c.kind = 1 → 0 ≤ c.v ∧ c.v < cs.length) : CellSnd p M (holdF cs to c) := by
 intro i hi
 rw [holdF_len] at hi
 have hl : ∀ i : Nat, i < cs.length → (gi (holdF cs to c) i).loc = (gi cs i).loc := fun i _ => holdF_loc h0 h1 i
 rw [hl i hi]
 by_cases e : to.toNat = i
 ·subst e
  have e1 : gi (holdF cs to c) (to.toNat : Int) = ⟨(gi cs to).loc, c.kind, c.v⟩ := by
   unfold holdF
   rw [gi_set (by omega), if_pos rfl]
  rw [e1, gz h0]
  exact hh.loc hl hv
 ·have e1 : gi (holdF cs to c) (i : Int) = gi cs i := by
   unfold holdF
   rw [gi_set (by omega), if_neg e]
  rw [e1]
  exact (h i hi).loc hl (fun hk => (hc.vals _ (gi_mem hi)).2.2.2.1 hk)
theorem var_loc {cs : List Cl} (hc : CsOk p cs) {x : ByteArray} (h : 0 ≤ ix p x ∧ ix p x < (varsOf p).length) : (gi cs (ix p x)).loc.toNat = ixn p x := by
 have hv := hc.vars
 have := (hc.locs (ix p x).toNat (by omega)).1 (by omega)
 rw [gz h.1] at this
 rw [this]
 unfold ixn
 omega
theorem loc_lt {cs : List Cl} (hc : CsOk p cs) {v : Int} (h0 : 0 ≤ v) (h1 : v < cs.length) : (gi cs v).loc.toNat < locsN p := by
 obtain ⟨a, b⟩ := hc.locs v.toNat (by omega)
 rw [gz h0] at a b
 unfold locsN
 rcases Nat.lt_or_ge v.toNat (varsOf p).length with h | h
 ·rw [a h]; omega
 ·have := b h; omega
theorem done_snd {cs : List Cl} {s : Stm} (hc : CsOk p cs) (hs : StOk p s) (hk : s.kind ≠ 7) (hr : RuleOk p s M) (h : CellSnd p M cs) : CellSnd p M (doneF p cs s).1 := by
 obtain ⟨x0, x1⟩ := hs.x
 have hv := hc.vars
 have hx1 : ix p s.x < cs.length := by omega
 have hkk := hs.kind
 have hlx := var_loc hc hs.x
 have hkc : s.kind = 1 ∨ s.kind = 2 ∨ s.kind = 3 ∨ s.kind = 4 ∨ s.kind = 5 ∨ s.kind = 6 := by omega
 rcases hkc with hk | hk | hk | hk | hk | hk
 ·obtain ⟨y0, y1⟩ := hs.y (by omega) (by omega)
  have hly := var_loc hc ⟨y0, y1⟩
  rw [show doneF p cs s = (holdF cs (ix p s.x) ⟨0, 1, ix p s.y⟩, 0) by simp [doneF, hk]]
  refine h.hold hc x0 hx1 ⟨fun _ => ?_, fun e => by simp at e⟩ (fun _ => ⟨y0, by simp only; omega⟩)
  rw [hlx]
  simp only
  rw [hly]
  exact hr.addr hk
 ·have hn := hs.n hk
  rw [show doneF p cs s = (if cs.length = 200 then (cs, 5) else (holdF (cs ++ [⟨(varsOf p).length + s.n, 0, 0⟩]) (ix p s.x) ⟨0, 1, cs.length⟩, 0)) by simp [doneF, hk]]
  by_cases h200 : cs.length = 200
  ·rw [if_pos h200]
   exact h
  ·rw [if_neg h200]
   have hf := hc.few
   have hp := hc.push (by omega) hn.1 hn.2
   have hpu : CellSnd p M (cs ++ [⟨(varsOf p).length + s.n, 0, 0⟩]) := by
    intro i hi
    have hl : ∀ i : Nat, i < cs.length → (gi (cs ++ [(⟨(varsOf p).length + s.n, 0, 0⟩ : Cl)]) i).loc = (gi cs i).loc := fun i hi => by rw [gi_app_left hi]
    by_cases hil : i < cs.length
    ·rw [gi_app_left hil]
     exact (h i hil).loc hl (fun hk => (hc.vals _ (gi_mem hil)).2.2.2.1 hk)
    ·simp at hi
     have : i = cs.length := by omega
     subst this
     rw [gi_app_mid]
     exact ⟨fun e => by simp at e, fun e => by simp at e⟩
   have hxx : (gi (cs ++ [(⟨(varsOf p).length + s.n, 0, 0⟩ : Cl)]) (ix p s.x)).loc.toNat = ixn p s.x := var_loc hp hs.x
   refine hpu.hold hp x0 (by simp; omega) ⟨fun _ => ?_, fun e => by simp at e⟩ (fun _ => ⟨by simp, by simp; omega⟩)
   rw [hxx]
   simp only
   rw [gi_app_mid]
   have := hr.new hk
   have e : ((varsOf p).length + s.n : Int).toNat = (varsOf p).length + s.n.toNat := by omega
   simp only
   rw [e]
   exact this
 ·obtain ⟨y0, y1⟩ := hs.y (by omega) (by omega)
  have hly := var_loc hc ⟨y0, y1⟩
  rw [show doneF p cs s = (holdF cs (ix p s.x) (gi cs (ix p s.y)), 0) by simp [doneF, hk]]
  have hy := h.at y0 (by omega)
  rw [hly] at hy
  exact h.hold hc x0 hx1 (by rw [hlx]; exact hy.sub (hr.copy hk)) (fun e => (hc.vals _ (giz_mem y0 (by omega))).2.2.2.1 e)
 ·obtain ⟨y0, y1⟩ := hs.y (by omega) (by omega)
  have hly := var_loc hc ⟨y0, y1⟩
  rw [show doneF p cs s = (if (gi cs (ix p s.y)).kind = 1 then (holdF cs (ix p s.x) (gi cs (gi cs (ix p s.y)).v), 0) else (cs, 2)) by simp [doneF, hk]]
  split
  ·rename_i hk1
   obtain ⟨v0, v1⟩ := (hc.vals _ (giz_mem y0 (by omega))).2.2.2.1 hk1
   have hy := (h.at y0 (by omega)).1 hk1
   rw [hly] at hy
   exact h.hold hc x0 hx1 (by rw [hlx]; exact (h.at v0 v1).sub (hr.load hk _ (loc_lt hc v0 v1) hy)) (fun e => (hc.vals _ (giz_mem v0 v1)).2.2.2.1 e)
  ·exact h
 ·obtain ⟨y0, y1⟩ := hs.y (by omega) (by omega)
  have hly := var_loc hc ⟨y0, y1⟩
  rw [show doneF p cs s = (if (gi cs (ix p s.x)).kind = 1 then (holdF cs (gi cs (ix p s.x)).v (gi cs (ix p s.y)), 0) else (cs, 2)) by simp [doneF, hk]]
  split
  ·rename_i hk1
   obtain ⟨v0, v1⟩ := (hc.vals _ (giz_mem x0 (by omega))).2.2.2.1 hk1
   have hx := (h.at x0 (by omega)).1 hk1
   rw [hlx] at hx
   have hy := h.at y0 (by omega)
   rw [hly] at hy
   exact h.hold hc v0 v1 (hy.sub (hr.store hk _ (loc_lt hc v0 v1) hx)) (fun e => (hc.vals _ (giz_mem y0 (by omega))).2.2.2.1 e)
  ·exact h
 ·have hf := hs.f hk
  rw [show doneF p cs s = (holdF cs (ix p s.x) ⟨0, 2, fx p s.y⟩, 0) by simp [doneF, hk]]
  refine h.hold hc x0 hx1 ⟨fun e => by simp at e, fun _ => ?_⟩ (fun e => by simp at e)
  rw [hlx]
  exact hr.fn hk
theorem pass_snd {cs : List Cl} {ps qs : List ByteArray} (hc : CsOk p cs) (h : CellSnd p M cs) (hp : ∀ a ∈ ps, 0 ≤ ix p a ∧ ix p a < (varsOf p).length) (hq : ∀ a ∈ qs, 0 ≤ ix p a ∧ ix p a < (varsOf p).length) (hl : ps.length = qs.length)
  (hs : ∀ j : Nat, j < qs.length → Go.AM.sub M (ixn p (gi qs j)) (ixn p (gi ps j))) : ∀ i : Nat, i ≤ qs.length → CellSnd p M (passN p cs ps qs i)
 | 0, _ => h
 | i + 1, hi => by
  have ih := pass_snd hc h hp hq hl hs i (by omega)
  have hu := pass_ok hc hp hq hl i (by omega)
  have hv := hc.vars
  have h1 := hp _ (gi_mem (l := ps) (i := i) (by omega))
  have h2 := hq _ (gi_mem (l := qs) (i := i) (by omega))
  have hln := passN_len p cs ps qs i
  have hv2 := fun e => (hc.vals _ (giz_mem (l := cs) h2.1 (by omega))).2.2.2.1 e
  have hy := h.at h2.1 (by omega)
  rw [var_loc hc h2] at hy
  have hx := var_loc hu.ok h1
  refine CellSnd.hold hu.ok ih h1.1 (by rw [hln]; omega) ?_ (fun e => by rw [hln]; exact hv2 e)
  rw [hx]
  exact (hy.sub (hs i (by omega))).loc hu.loc hv2
theorem Snd.stack {m : Mc} (h : Snd p M m) {st : List Ps} (hl : st.length ≤ m.stack.length) (hs : ∀ k : Nat, k < st.length → (gi st k).call = (gi m.stack k).call ∧ (gi st k).body = (gi m.stack k).body) : Snd p M { m with stack := st } :=
 ⟨h.cs, fun k h1 h2 => by
  have h2 : k < st.length := h2
  show CalOk p M (gi st k).call (gi st k).body
  rw [(hs k h2).1, (hs k h2).2]
  exact h.st k h1 (by omega), h.ed⟩
theorem move_body {st : List Ps} {k : Nat} {v : Int} (hk : k < st.length) (i : Nat) : (gi (moveF st k v) i).call = (gi st i).call ∧ (gi (moveF st k v) i).body = (gi st i).body := by
 rw [gi_move hk]
 split
 ·rename_i e
  subst e
  exact ⟨rfl, rfl⟩
 ·exact ⟨rfl, rfl⟩
theorem gi_takeP {st : List Ps} {n i : Nat} (hi : i < n) : gi (st.take n) i = gi st i := by
 simp [gi, List.getD, List.getElem?_take, hi]
theorem do_snd (hp : Of p) {m : Mc} (h : MOk p m) (hM : AllOk p M) (hs : Snd p M m) (c : Int) : Snd p M (doF p m c) := by
 have ho := h.one
 have hf := h.few
 have hkl : m.stack.length - 1 < m.stack.length := by omega
 have hpos := h.pos (m.stack.length - 1) hkl
 have hmv : ∀ v, Snd p M { m with stack := moveF m.stack (m.stack.length - 1) v } := fun v => hs.stack (by rw [moveF_len]; exact Nat.le_refl _) (fun k _ => move_body hkl k)
 unfold doF
 split
 ·exact hs
 ·split
  ·exact hmv 0
  ·split
   ·split
    ·exact ⟨hs.cs, hs.st, hs.ed⟩
    ·rename_i hneg
     obtain ⟨b1, b2, b3, b4⟩ := hp.body h hkl (by omega)
     have hcl := hp.stmz b2 b3
     have hre := hp.ok.ret (giz_mem (l := p.funs) (i := (gi m.stack (m.stack.length - 1 : Nat)).body) (by omega) b1)
     have hv := h.cs.vars
     have h2 : 2 ≤ m.stack.length := by
      rcases Nat.lt_or_ge m.stack.length 2 with h3 | h3
      ·have e : m.stack.length - 1 = 0 := by omega
       rw [e] at hneg
       have := h.bot.1
       omega
      ·exact h3
     obtain ⟨⟨i0, i1, i7⟩, ⟨f0, f1⟩, hval, hlen⟩ := hs.st (m.stack.length - 1) (by omega) hkl
     generalize gi m.stack (m.stack.length - 1 : Nat) = t at *
     have hru := (hM _ (giz_mem (l := p.l) i0 i1)).call i7 t.body.toNat (by omega) hval (by rw [gz f0]; exact hlen)
     have hy := hs.cs.at hre.1 (by omega)
     rw [var_loc h.cs hre] at hy
     have hsb := hru.2
     rw [gz f0] at hsb
     have hcs := CellSnd.hold h.cs hs.cs hcl.x.1 (by have := hcl.x.2; omega) (c := gi m.cells (ix p (gi p.funs t.body).ret)) (by rw [var_loc h.cs hcl.x]; exact hy.sub hsb) (fun e => (h.cs.vals _ (giz_mem hre.1 (by omega))).2.2.2.1 e)
     refine ⟨hcs, fun k k1 k2 => ?_, hs.ed⟩
     have k2 : k < ((moveF m.stack (m.stack.length - 2) ((gi m.stack (m.stack.length - 2 : Nat)).at' + 1)).take (m.stack.length - 1)).length := k2
     rw [List.length_take, moveF_len] at k2
     show CalOk p M (gi ((moveF m.stack (m.stack.length - 2) ((gi m.stack (m.stack.length - 2 : Nat)).at' + 1)).take (m.stack.length - 1)) k).call (gi ((moveF m.stack (m.stack.length - 2) ((gi m.stack (m.stack.length - 2 : Nat)).at' + 1)).take (m.stack.length - 1)) k).body
     rw [gi_takeP (by omega), (move_body (by omega) k).1, (move_body (by omega) k).2]
     exact hs.st k k1 (by omega)
   ·rename_i hlt
    have hlt' : (gi m.stack (m.stack.length - 1 : Nat)).at' < (bodyOf p (gi m.stack (m.stack.length - 1 : Nat)).body).length := by omega
    split
    ·exact hmv _
    ·have hi := body_mem (giz_mem hpos.1 hlt')
     generalize gi (bodyOf p (gi m.stack (m.stack.length - 1 : Nat)).body) (gi m.stack (m.stack.length - 1 : Nat)).at' = i at *
     have hst := hp.stmz hi.1 hi.2.1
     have hru := hM _ (giz_mem (l := p.l) hi.1 hi.2.1)
     split
     ·rename_i hk
      simp only
      obtain ⟨y0, y1⟩ := hst.y (by omega) (by omega)
      have hv := h.cs.vars
      have hV := h.cs.vals _ (giz_mem (l := m.cells) y0 (by omega))
      have hyv := hs.cs.at y0 (by omega)
      rw [var_loc h.cs ⟨y0, y1⟩] at hyv
      unfold callF
      split
      ·rename_i hg
       obtain ⟨v0, v1⟩ := hV.2.2.2.2 hg.1
       split
       ·exact ⟨hs.cs, hs.st, hs.ed⟩
       ·have hpar := fun a ha => hp.ok.param (giz_mem (l := p.funs) v0 v1) (a := a) ha
        have hcal : CalOk p M i (gi m.cells (ix p (gi p.l i).y)).v := ⟨⟨hi.1, hi.2.1, hk⟩, ⟨v0, v1⟩, hyv.2 hg.1, hg.2⟩
        have hrc := hru.call hk (gi m.cells (ix p (gi p.l i).y)).v.toNat (by omega) (hyv.2 hg.1) (by rw [gz v0]; exact hg.2)
        rw [gz v0] at hrc
        have hpa := pass_snd h.cs hs.cs hpar hst.args hg.2 hrc.1 _ (Nat.le_refl _)
        refine ⟨hpa, fun k k1 k2 => ?_, fun e he => ?_⟩
        ·simp only [List.length_append, List.length_singleton] at k2
         show CalOk p M (gi (m.stack ++ [(⟨(gi m.cells (ix p (gi p.l i).y)).v, 0, i⟩ : Ps)]) k).call (gi (m.stack ++ [(⟨(gi m.cells (ix p (gi p.l i).y)).v, 0, i⟩ : Ps)]) k).body
         by_cases hkl2 : k < m.stack.length
         ·rw [gi_app_left hkl2]
          exact hs.st k k1 hkl2
         ·have : k = m.stack.length := by omega
          subst this
          rw [gi_app_mid]
          exact hcal
        ·have he : e ∈ (if 0 ≤ fstAt (fun x => decide (x = ⟨i, (gi m.cells (ix p (gi p.l i).y)).v⟩)) m.edges then m.edges else m.edges ++ [⟨i, (gi m.cells (ix p (gi p.l i).y)).v⟩]) := he
         split at he
         ·exact hs.ed e he
         ·simp only [List.mem_append, List.mem_singleton] at he
          rcases he with he | rfl
          ·exact hs.ed e he
          ·exact hcal
      ·exact ⟨hs.cs, hs.st, hs.ed⟩
     ·rename_i hk
      simp only
      have hd := done_snd h.cs hst hk hru hs.cs
      split
      ·exact ⟨hd, (hmv _).st, hs.ed⟩
      ·exact ⟨hd, hs.st, hs.ed⟩
theorem new_snd (p : Pg) (M : Mx) : Snd p M (newF p) := by
 refine ⟨fun i hi => ?_, fun k k1 k2 => ?_, fun e he => ?_⟩
 ·have hi : i < (newC (varsOf p).length).length := hi
  rw [newC_len] at hi
  have : gi (newF p).cells (i : Int) = ⟨i, 0, 0⟩ := by simp [newF, newC, gi, List.getD, hi]
  rw [this]
  exact ⟨fun e => by simp at e, fun e => by simp at e⟩
 ·simp [newF] at k2
  omega
 ·simp [newF] at he
theorem run_snd (hp : Of p) (hM : AllOk p M) (l : List Int) : ∀ m, MOk p m → Snd p M m → Snd p M (l.foldl (doF p) m) := by
 induction l with
 | nil => intro m _ h; exact h
 | cons c l ih => intro m h hs; exact ih _ (do_up hp h c).ok (do_snd hp h hM hs c)
theorem mem_trueIn {r : List Bool} : ∀ {w k : Nat}, (k : Int) ∈ trueIn r w ↔ k < w ∧ r.getD k false = true
 | 0, k => by simp [trueIn]
 | w + 1, k => by
  unfold trueIn
  split
  ·rename_i h
   simp only [List.mem_append, List.mem_singleton, mem_trueIn]
   constructor
   ·rintro (⟨h1, h2⟩ | h1)
    ·exact ⟨by omega, h2⟩
    ·have : k = w := by omega
     subst this
     exact ⟨by omega, h⟩
   ·rintro ⟨h1, h2⟩
    rcases Nat.lt_or_ge k w with h3 | h3
    ·exact .inl ⟨h3, h2⟩
    ·exact .inr (by omega)
  ·rename_i h
   rw [mem_trueIn]
   constructor
   ·rintro ⟨h1, h2⟩; exact ⟨by omega, h2⟩
   ·rintro ⟨h1, h2⟩
    have : k ≠ w := fun e => h (by subst e; exact h2)
    exact ⟨by omega, h2⟩
theorem mem_edgeIn {p : Pg} {M : Mx} {i : Nat} : ∀ {F f : Nat}, f < F → (gi p.l i).kind = 7 → val M (ixn p (gi p.l i).y) (locsN p + f) = true → (gi p.funs f).params.length = (gi p.l i).args.length → (⟨(i : Int), (f : Int)⟩ : Ed) ∈ edgeIn p M i F
 | F + 1, f, hf, h1, h2, h3 => by
  unfold edgeIn
  rcases Nat.lt_or_ge f F with h | h
  ·split
   ·exact List.mem_append_left _ (mem_edgeIn h h1 h2 h3)
   ·exact mem_edgeIn h h1 h2 h3
  ·have : f = F := by omega
   subst this
   rw [if_pos ⟨h1, h2, h3⟩]
   simp
theorem mem_edgesN {p : Pg} {M : Mx} {e : Ed} : ∀ {n i : Nat}, i < n → e ∈ edgeIn p M i p.funs.length → e ∈ edgesN p M n
 | n + 1, i, hi, h => by
  unfold edgesN
  rcases Nat.lt_or_ge i n with h1 | h1
  ·exact List.mem_append_left _ (mem_edgesN h1 h)
  ·have : i = n := by omega
   subst this
   exact List.mem_append_right _ h
theorem Snd.edges {m : Mc} (h : Snd p M m) : ∀ e ∈ m.edges, e ∈ edgesN p M p.l.length := by
 intro e he
 obtain ⟨⟨i0, i1, i7⟩, ⟨f0, f1⟩, hv, hl⟩ := h.ed e he
 have := mem_edgeIn (p := p) (M := M) (i := e.a.toNat) (F := p.funs.length) (f := e.b.toNat) (by omega) (by rw [gz i0]; exact i7) (by rw [gz i0]; exact hv) (by rw [gz i0, gz f0]; exact hl)
 rw [Int.toNat_of_nonneg i0, Int.toNat_of_nonneg f0] at this
 exact mem_edgesN (by omega) this
end
end Go.AM

namespace Go.AM
open Go.Proofs
set_option maxRecDepth 100000
set_option linter.unusedVariables false
set_option linter.unusedSimpArgs false
def c13 : AFn := ⟨58,.seq (.reg false [⟨some 4,.mov (.lit (.bool false)),none⟩]) (.seq (.seq (.reg false [⟨some 9,.mov (.tmp 0),none⟩,⟨some 10,.len (.tmp 9),none⟩,⟨some 11,.mov (.tmp 1),none⟩,⟨some 12,.len (.tmp 11),none⟩,⟨some 13,.bin .neq (.tmp 10) (.tmp 12),none⟩]) (.cond (.tmp 13) (.seq (.reg false [⟨some 4,.mov (.lit (.bool false)),none⟩]) .ret) .skip)) (.seq (.seq (.reg false [⟨some 5,.mov (.lit (.int .i64 0)),none⟩]) (.block 0 (.loop (.seq (.seq (.reg false [⟨some 14,.mov (.tmp 5),none⟩,⟨some 15,.mov (.tmp 0),none⟩,⟨some 16,.len (.tmp 15),none⟩,⟨some 17,.bin .lss (.tmp 14) (.tmp 16),none⟩]) (.cond (.tmp 17) .skip (.exit 0))) (.seq (.block 1 (.seq (.reg false [⟨some 6,.mov (.lit (.int .i64 0)),none⟩]) (.block 2 (.loop (.seq (.seq (.reg false [⟨some 20,.mov (.tmp 6),none⟩,⟨some 21,.mov (.tmp 0),none⟩,⟨some 22,.mov (.tmp 5),none⟩,⟨some 23,.ia 1 (.tmp 21) (.tmp 22),none⟩,⟨some 24,.load 1 false (.tmp 23),none⟩,⟨some 25,.len (.tmp 24),none⟩,⟨some 26,.bin .lss (.tmp 20) (.tmp 25),none⟩]) (.cond (.tmp 26) .skip (.exit 2))) (.seq (.block 3 (.seq (.reg false [⟨some 7,.mov (.lit (.bool false)),none⟩]) (.seq (.seq (.reg false [⟨some 8,.mov (.lit (.int .i64 0)),none⟩]) (.block 4 (.loop (.seq (.seq (.reg false [⟨some 29,.mov (.tmp 8),none⟩,⟨some 30,.mov (.tmp 1),none⟩,⟨some 31,.mov (.tmp 5),none⟩,⟨some 32,.ia 1 (.tmp 30) (.tmp 31),none⟩,⟨some 33,.load 1 false (.tmp 32),none⟩,⟨some 34,.len (.tmp 33),none⟩,⟨some 35,.bin .lss (.tmp 29) (.tmp 34),none⟩]) (.cond (.tmp 35) .skip (.exit 4))) (.seq (.block 5 (.reg true [⟨some 38,.mov (.tmp 7),none⟩,⟨some 39,.mov (.tmp 38),none⟩,⟨some 40,.mov (.tmp 1),some ((39,false))⟩,⟨some 41,.mov (.tmp 5),some ((39,false))⟩,⟨some 42,.ia 1 (.tmp 40) (.tmp 41),some ((39,false))⟩,⟨some 43,.load 1 false (.tmp 42),some ((39,false))⟩,⟨some 44,.mov (.tmp 8),some ((39,false))⟩,⟨some 45,.ia 1 (.tmp 43) (.tmp 44),some ((39,false))⟩,⟨some 46,.load 1 false (.tmp 45),some ((39,false))⟩,⟨some 47,.mov (.tmp 0),some ((39,false))⟩,⟨some 48,.mov (.tmp 5),some ((39,false))⟩,⟨some 49,.ia 1 (.tmp 47) (.tmp 48),some ((39,false))⟩,⟨some 50,.load 1 false (.tmp 49),some ((39,false))⟩,⟨some 51,.mov (.tmp 6),some ((39,false))⟩,⟨some 52,.ia 1 (.tmp 50) (.tmp 51),some ((39,false))⟩,⟨some 53,.load 1 false (.tmp 52),some ((39,false))⟩,⟨some 54,.bin .eql (.tmp 46) (.tmp 53),some ((39,false))⟩,⟨some 55,.pick (.tmp 39) (.lit (.bool true)) (.tmp 54),none⟩,⟨some 7,.mov (.tmp 55),none⟩])) (.reg false [⟨some 36,.mov (.tmp 8),none⟩,⟨some 37,.bin .add (.tmp 36) (.lit (.int .i64 1)),none⟩,⟨some 8,.mov (.tmp 37),none⟩])))))) (.seq (.reg false [⟨some 56,.mov (.tmp 7),none⟩,⟨some 57,.not (.tmp 56),none⟩]) (.cond (.tmp 57) (.seq (.reg false [⟨some 4,.mov (.lit (.bool false)),none⟩]) .ret) .skip))))) (.reg false [⟨some 27,.mov (.tmp 6),none⟩,⟨some 28,.bin .add (.tmp 27) (.lit (.int .i64 1)),none⟩,⟨some 6,.mov (.tmp 28),none⟩]))))))) (.reg false [⟨some 18,.mov (.tmp 5),none⟩,⟨some 19,.bin .add (.tmp 18) (.lit (.int .i64 1)),none⟩,⟨some 5,.mov (.tmp 19),none⟩])))))) (.seq (.reg false [⟨some 4,.mov (.lit (.bool true)),none⟩]) .ret))),[.tmp 4]⟩
/-! ### The law of the rules -/
theorem c13_ok : cFn Try.prog an0 Try.f13 = some c13 := by kernel_rfl
abbrev rws (a : List (List Int)) : AV := .rows false 1 (a.map fun l => [ints l])
def seenJ (l : List Int) (x : Int) (j : Nat) : Bool := decide (∃ i : Nat, i < j ∧ gi l i = x)
theorem seenJ_next (l : List Int) (x : Int) (j : Nat) : seenJ l x (j + 1) = (seenJ l x j || decide (gi l j = x)) := by
 unfold seenJ
 rw [Bool.eq_iff_iff]
 simp only [decide_eq_true_eq, Bool.or_eq_true]
 constructor
 ·rintro ⟨i, h1, h2⟩
  rcases Nat.lt_or_ge i j with h3 | h3
  ·exact .inl ⟨i, h3, h2⟩
  ·have : i = j := by omega
   subst this
   exact .inr h2
 ·rintro (⟨i, h1, h2⟩ | h)
  ·exact ⟨i, by omega, h2⟩
  ·exact ⟨j, by omega, h⟩
theorem among13_PF (a b : List (List Int)) (hl : a.length = b.length) (ha : a.length ≤ 1000000) (hb : ∀ l ∈ b, l.length ≤ 1000000) (ha2 : ∀ l ∈ a, l.length ≤ 1000000) (h : ∀ i : Nat, i < a.length → ∀ x ∈ gi a i, x ∈ gi b i) :
  PF Try.prog 13 [rws a, rws b] (.bool true) := by
 refine PFk 9 hm Try.func13 c13_ok (Nat.le_of_ble_eq_true rfl) (by simp) (by simp) ?_
 have hA : a.length ≤ maxA := by unfold maxA; omega
 have hB : b.length ≤ maxA := by omega
 have hlI : (a.length : Int) = b.length := by omega
 simp (maxSteps := 3000000) [-List.length_flatten,-List.map_drop,-List.map_take,Function.comp_def,argsT,Opd.ev,Tm.get,put,ares,mapMo,ares1,snilP,bldParts,bslParts,putAt,AV.cells,AV.one,astore,aload,loadCs,callArgs,abin,abinInt,aapp,elems,appMore,appNone,preLen,aFa,aFld,apart,aExt,aPick,aNot,aLens,aEqa,cellsK,fitsA,LK.fitsA,leavesA,leafA,nilD,aNilc,aCint,aCid,alive,alen,alenOk,Rle,lePs,len_flat, c13, hA, hB, hlI]
 refine run_countK b.length 5 [(0, rws a), (1, rws b)] [] (fun _ => True) (Wk.sub (by simp [Tm.get])) trivial ?_
 intro i hi _ KK kx kr kn
 by_cases hil : i < b.length
 ·have hial : i < a.length := by omega
  have hinx := nxt hil hB
  have hai := ha2 _ (gi_mem hial)
  have hbi := hb _ (gi_mem hil)
  have haiA : (gi a i).length ≤ maxA := by unfold maxA; omega
  have hbiA : (gi b i).length ≤ maxA := by unfold maxA; omega
  simp (maxSteps := 3000000) [-List.length_flatten,-List.map_drop,-List.map_take,Function.comp_def,argsT,Opd.ev,Tm.get,put,ares,mapMo,ares1,snilP,bldParts,bslParts,putAt,AV.cells,AV.one,astore,aload,loadCs,callArgs,abin,abinInt,aapp,elems,appMore,appNone,preLen,aFa,aFld,apart,aExt,aPick,aNot,aLens,aEqa,cellsK,fitsA,LK.fitsA,leavesA,leafA,nilD,aNilc,aCint,aCid,alive,alen,alenOk,Rle,lePs,len_flat, hil, hial, hA, hB, hlI, hl]
  refine run_countK (gi a i).length 6 [(5, i64 i), (0, rws a), (1, rws b)] [] (fun _ => True) (Wk.sub (by simp [Tm.get])) trivial ?_
  intro k hk _ KI ix' ir inn
  by_cases hkl : k < (gi a i).length
  ·have hknx := nxt hkl haiA
   have hmem := h i hial _ (gi_mem hkl)
   simp (maxSteps := 3000000) [-List.length_flatten,-List.map_drop,-List.map_take,Function.comp_def,argsT,Opd.ev,Tm.get,put,ares,mapMo,ares1,snilP,bldParts,bslParts,putAt,AV.cells,AV.one,astore,aload,loadCs,callArgs,abin,abinInt,aapp,elems,appMore,appNone,preLen,aFa,aFld,apart,aExt,aPick,aNot,aLens,aEqa,cellsK,fitsA,LK.fitsA,leavesA,leafA,nilD,aNilc,aCint,aCid,alive,alen,alenOk,Rle,lePs,len_flat, hil, hial, hkl, hA, hB, haiA, hbiA, hl]
   refine run_loopK (fun m T H => ∃ j : Nat, m = (gi b i).length - j ∧ j ≤ (gi b i).length ∧ T = [(8, i64 j), (7, .bool (seenJ (gi b i) (gi (gi a i) k) j)), (6, i64 k), (5, i64 i), (0, rws a), (1, rws b)] ∧ H = [])
    (gi b i).length [(8, i64 (0 : Nat)), (7, .bool false), (6, i64 k), (5, i64 i), (0, rws a), (1, rws b)] [] (Wk.sub (by simp [Tm.get])) ⟨0, rfl, Nat.zero_le _, by simp [seenJ], rfl⟩ ?_
   rintro m T H ⟨j, rfl, hj, rfl, rfl⟩ KJ jx jr jn
   by_cases hjl : j < (gi b i).length
   ·have hjnx := nxt hjl hbiA
    have hs := seenJ_next (gi b i) (gi (gi a i) k) j
    cases hsj : seenJ (gi b i) (gi (gi a i) k) j with
    | true =>
     simp (maxSteps := 3000000) [-List.length_flatten,-List.map_drop,-List.map_take,Function.comp_def,argsT,Opd.ev,Tm.get,put,ares,mapMo,ares1,snilP,bldParts,bslParts,putAt,AV.cells,AV.one,astore,aload,loadCs,callArgs,abin,abinInt,aapp,elems,appMore,appNone,preLen,aFa,aFld,apart,aExt,aPick,aNot,aLens,aEqa,cellsK,fitsA,LK.fitsA,leavesA,leafA,nilD,aNilc,aCint,aCid,alive,alen,alenOk,Rle,lePs,len_flat, hil, hial, hjl, hbiA]
     refine jn _ _ (Kl_sub ((gi b i).length - (j + 1)) ⟨j + 1, rfl, hjl, rfl, rfl⟩ ?_ (by omega))
     rw [hs, hsj]
     simp [Tm.get, hjnx]
    | false =>
     simp (maxSteps := 3000000) [-List.length_flatten,-List.map_drop,-List.map_take,Function.comp_def,argsT,Opd.ev,Tm.get,put,ares,mapMo,ares1,snilP,bldParts,bslParts,putAt,AV.cells,AV.one,astore,aload,loadCs,callArgs,abin,abinInt,aapp,elems,appMore,appNone,preLen,aFa,aFld,apart,aExt,aPick,aNot,aLens,aEqa,cellsK,fitsA,LK.fitsA,leavesA,leafA,nilD,aNilc,aCint,aCid,alive,alen,alenOk,Rle,lePs,len_flat, hil, hial, hkl, hjl, hbiA, haiA]
     refine jn _ _ (Kl_sub ((gi b i).length - (j + 1)) ⟨j + 1, rfl, hjl, rfl, rfl⟩ ?_ (by omega))
     rw [hs, hsj]
     simp [Tm.get, hjnx]
   ·have ej : j = (gi b i).length := by omega
    subst ej
    have hall : seenJ (gi b i) (gi (gi a i) k) (gi b i).length = true := by
     unfold seenJ
     simp only [decide_eq_true_eq]
     obtain ⟨n, hn, he⟩ := List.getElem_of_mem hmem
     have e : ∀ (B : List Int) (hn : n < B.length), gi B (n : Int) = B[n] := fun B hn => by simp [gi, List.getD, hn]
     exact ⟨n, hn, by rw [← he]; exact e _ hn⟩
    simp (maxSteps := 3000000) [-List.length_flatten,-List.map_drop,-List.map_take,Function.comp_def,argsT,Opd.ev,Tm.get,put,ares,mapMo,ares1,snilP,bldParts,bslParts,putAt,AV.cells,AV.one,astore,aload,loadCs,callArgs,abin,abinInt,aapp,elems,appMore,appNone,preLen,aFa,aFld,apart,aExt,aPick,aNot,aLens,aEqa,cellsK,fitsA,LK.fitsA,leavesA,leafA,nilD,aNilc,aCint,aCid,alive,alen,alenOk,Rle,lePs,len_flat, hil, hial, hjl, hbiA, jx, hall]
    exact inn _ _ (Kn_next 0 (by omega) (by omega) trivial (by simp [Tm.get, hknx]) (by simp) rfl (by simp))
  ·simp (maxSteps := 3000000) [-List.length_flatten,-List.map_drop,-List.map_take,Function.comp_def,argsT,Opd.ev,Tm.get,put,ares,mapMo,ares1,snilP,bldParts,bslParts,putAt,AV.cells,AV.one,astore,aload,loadCs,callArgs,abin,abinInt,aapp,elems,appMore,appNone,preLen,aFa,aFld,apart,aExt,aPick,aNot,aLens,aEqa,cellsK,fitsA,LK.fitsA,leavesA,leafA,nilD,aNilc,aCint,aCid,alive,alen,alenOk,Rle,lePs,len_flat, hil, hial, hkl, hA, hB, haiA, ix']
   exact kn _ _ (Kn_next 0 (by omega) (by omega) trivial (by simp [Tm.get, hinx]) (by simp) rfl (by simp))
 ·simp (maxSteps := 3000000) [-List.length_flatten,-List.map_drop,-List.map_take,Function.comp_def,argsT,Opd.ev,Tm.get,put,ares,mapMo,ares1,snilP,bldParts,bslParts,putAt,AV.cells,AV.one,astore,aload,loadCs,callArgs,abin,abinInt,aapp,elems,appMore,appNone,preLen,aFa,aFld,apart,aExt,aPick,aNot,aLens,aEqa,cellsK,fitsA,LK.fitsA,leavesA,leafA,nilD,aNilc,aCint,aCid,alive,alen,alenOk,Rle,lePs,len_flat, hil, hA, hl, kx]
theorem comp_mem {l : List Int} {x : Int} (h : x ∈ compI (sortI l)) : x ∈ l := by
 have h1 : ∀ zs : List Int, x ∈ compI zs → x ∈ zs := by
  intro zs h
  unfold compI Go.Lib.compact Go.Lib.compactUpTo at h
  obtain ⟨j, hj, rfl⟩ := List.mem_map.1 h
  have hj2 := (List.mem_filter.1 hj).1
  have hj3 : j < zs.length := by simpa using hj2
  simp [hj3]
 have h2 := h1 _ h
 unfold sortI at h2
 rwa [List.mem_mergeSort] at h2
theorem filterMap_len {α β : Type} (f : α → Option β) : ∀ l : List α, (l.filterMap f).length ≤ l.length
 | [] => by simp
 | a :: l => by
  have := filterMap_len f l
  rw [List.filterMap_cons]
  split <;> simp <;> omega
theorem holds_snd {p : Pg} {M : Mx} (hp : Of p) (hS : Sh M (locsN p) (locsN p + p.funs.length)) {m : Mc} (h : MOk p m) (hs : Snd p M m) : ∀ i : Nat, i < (holdsF p m).length → ∀ x ∈ gi (holdsF p m) i, x ∈ gi (ptsN M (locsN p + p.funs.length) (locsN p)) i := by
 intro i hi x hx
 have hi : i < locsN p := by simpa [holdsF] using hi
 have e1 : gi (holdsF p m) (i : Int) = compI (sortI (m.cells.filterMap (putsF p m i))) := by simp [holdsF, gi, List.getD, hi]
 have e2 : gi (ptsN M (locsN p + p.funs.length) (locsN p)) (i : Int) = trueIn (rowM M i) (locsN p + p.funs.length) := by simp [ptsN, gi, List.getD, hi]
 rw [e1] at hx
 rw [e2]
 obtain ⟨c, hc, hcx⟩ := List.mem_filterMap.1 (comp_mem hx)
 obtain ⟨j, hj, rfl⟩ := List.getElem_of_mem hc
 have ej : m.cells[j] = gi m.cells (j : Int) := by simp [gi, List.getD, hj]
 rw [ej] at hcx
 have hv := h.cs.vals _ (gi_mem hj)
 have hsn := hs.cs j hj
 unfold putsF at hcx
 split at hcx
 ·rename_i hl
  rw [show (gi m.cells (j : Int)).loc.toNat = i by omega] at hsn
  split at hcx
  ·rename_i hk
   injection hcx with hcx
   obtain ⟨v0, v1⟩ := hv.2.2.2.1 hk
   have hlt := loc_lt h.cs v0 v1
   have h0 : 0 ≤ (gi m.cells (gi m.cells (j : Int)).v).loc := by
    obtain ⟨a, b⟩ := h.cs.locs (gi m.cells (j : Int)).v.toNat (by omega)
    rw [gz v0] at a b
    rcases Nat.lt_or_ge (gi m.cells (j : Int)).v.toNat (varsOf p).length with h | h
    ·rw [a h]; omega
    ·have := b h; omega
   have hval := hsn.1 hk
   rw [← hcx, ← Int.toNat_of_nonneg h0]
   exact mem_trueIn.2 ⟨by omega, hval⟩
  ·split at hcx
   ·rename_i hk
    injection hcx with hcx
    obtain ⟨v0, v1⟩ := hv.2.2.2.2 hk
    have hval := hsn.2 hk
    rw [← hcx, show (locsN p : Int) + (gi m.cells (j : Int)).v = ((locsN p + (gi m.cells (j : Int)).v.toNat : Nat) : Int) by omega]
    exact mem_trueIn.2 ⟨by omega, hval⟩
   ·cases hcx
 ·cases hcx
theorem law3_PF (p : Pg) (hp : SmallP p) (l : List Int) (hl : l.length ≤ 1048576) : PF Try.prog 3 [.agg p.cs, ints l] (.bool true) := by
 refine PFk 9 hm Try.func3 c3_ok (Nat.le_of_ble_eq_true rfl) (by simp) (by simp) ?_
 have hA : l.length ≤ maxA := by unfold maxA; omega
 simp (maxSteps := 3000000) [-List.length_flatten,-List.map_drop,-List.map_take,Function.comp_def,argsT,Opd.ev,Tm.get,put,ares,mapMo,ares1,snilP,bldParts,bslParts,putAt,AV.cells,AV.one,astore,aload,loadCs,callArgs,abin,abinInt,aapp,elems,appMore,appNone,preLen,aFa,aFld,apart,aExt,aPick,aNot,aLens,aEqa,cellsK,fitsA,LK.fitsA,leavesA,leafA,nilD,aNilc,aCint,aCid,alive,alen,alenOk,Rle,lePs,len_flat, c3, hA]
 refine PF.call shown_c 9 (by simp [lePs, -List.length_flatten, -List.map_drop, -List.map_take, Function.comp_def, len_flat]) ?_
 simp (maxSteps := 3000000) [-List.length_flatten,-List.map_drop,-List.map_take,Function.comp_def,argsT,Opd.ev,Tm.get,put,ares,mapMo,ares1,snilP,bldParts,bslParts,putAt,AV.cells,AV.one,astore,aload,loadCs,callArgs,abin,abinInt,aapp,elems,appMore,appNone,preLen,aFa,aFld,apart,aExt,aPick,aNot,aLens,aEqa,cellsK,fitsA,LK.fitsA,leavesA,leafA,nilD,aNilc,aCint,aCid,alive,alen,alenOk,Rle,lePs,len_flat, Kc]
 refine PFE.call (of_E p hp) 9 (by simp [lePs, -List.length_flatten, -List.map_drop, -List.map_take, Function.comp_def, len_flat]) ?_
 rintro _ ⟨b, rfl, hb⟩
 cases b with
 | false => simp (maxSteps := 3000000) [-List.length_flatten,-List.map_drop,-List.map_take,Function.comp_def,argsT,Opd.ev,Tm.get,put,ares,mapMo,ares1,snilP,bldParts,bslParts,putAt,AV.cells,AV.one,astore,aload,loadCs,callArgs,abin,abinInt,aapp,elems,appMore,appNone,preLen,aFa,aFld,apart,aExt,aPick,aNot,aLens,aEqa,cellsK,fitsA,LK.fitsA,leavesA,leafA,nilD,aNilc,aCint,aCid,alive,alen,alenOk,Rle,lePs,len_flat, Kc]
 | true =>
  have hO := hb rfl
  by_cases h : (l.length : Int) ≤ 100
  ·have h' : ¬ (100 : Int) < l.length := by omega
   simp (maxSteps := 3000000) [-List.length_flatten,-List.map_drop,-List.map_take,Function.comp_def,argsT,Opd.ev,Tm.get,put,ares,mapMo,ares1,snilP,bldParts,bslParts,putAt,AV.cells,AV.one,astore,aload,loadCs,callArgs,abin,abinInt,aapp,elems,appMore,appNone,preLen,aFa,aFld,apart,aExt,aPick,aNot,aLens,aEqa,cellsK,fitsA,LK.fitsA,leavesA,leafA,nilD,aNilc,aCint,aCid,alive,alen,alenOk,Rle,lePs,len_flat, Kc, hA, h']
   refine PFE.call (least_E hO) 9 (by simp [lePs, -List.length_flatten, -List.map_drop, -List.map_take, Function.comp_def, len_flat]) ?_
   rintro _ ⟨M, hS, hM, _, rfl⟩
   simp (maxSteps := 3000000) [-List.length_flatten,-List.map_drop,-List.map_take,Function.comp_def,argsT,Opd.ev,Tm.get,put,ares,mapMo,ares1,snilP,bldParts,bslParts,putAt,AV.cells,AV.one,astore,aload,loadCs,callArgs,abin,abinInt,aapp,elems,appMore,appNone,preLen,aFa,aFld,apart,aExt,aPick,aNot,aLens,aEqa,cellsK,fitsA,LK.fitsA,leavesA,leafA,nilD,aNilc,aCint,aCid,alive,alen,alenOk,Rle,lePs,len_flat, Kc]
   refine PF.call (run_PF hO l hl) 9 (by simp [lePs, -List.length_flatten, -List.map_drop, -List.map_take, Function.comp_def, len_flat]) ?_
   have hr : MOk p (runF p l) := run_ok hO l _ (new_ok hO)
   have hs : Snd p M (runF p l) := run_snd hO hM l _ (new_ok hO) (new_snd p M)
   generalize runF p l = m at *
   simp (maxSteps := 3000000) [-List.length_flatten,-List.map_drop,-List.map_take,Function.comp_def,argsT,Opd.ev,Tm.get,put,ares,mapMo,ares1,snilP,bldParts,bslParts,putAt,AV.cells,AV.one,astore,aload,loadCs,callArgs,abin,abinInt,aapp,elems,appMore,appNone,preLen,aFa,aFld,apart,aExt,aPick,aNot,aLens,aEqa,cellsK,fitsA,LK.fitsA,leavesA,leafA,nilD,aNilc,aCint,aCid,alive,alen,alenOk,Rle,lePs,len_flat, Kc]
   refine ⟨one_cellsV', ?_⟩
   refine PF.call (holds_PF hO hr) 9 (by simp [lePs]; exact leP_refl _ _) ?_
   have hn := hO.neat.locs
   have hf := hO.neat.funs
   have hl2 := hO.neat.l
   have hlocs : locsN p ≤ 40 := hn
   have hlen : (holdsF p m).length = (ptsN M (locsN p + p.funs.length) (locsN p)).length := by simp [holdsF, ptsN]
   have hhl : (holdsF p m).length = locsN p := by simp [holdsF]
   have ham := among13_PF _ _ hlen (by omega) (fun r hr => by
    obtain ⟨i, hi, rfl⟩ := List.mem_map.1 hr
    have := trueIn_len (rowM M i) (locsN p + p.funs.length)
    omega) (fun r hr2 => by
    obtain ⟨i, hi, rfl⟩ := List.mem_map.1 hr2
    have h1 := hcl (sortI (m.cells.filterMap (putsF p m i)))
    have h2 : (sortI (m.cells.filterMap (putsF p m i))).length = (m.cells.filterMap (putsF p m i)).length := by simp
    have h3 := filterMap_len (putsF p m i) m.cells
    have h4 := hr.cs.few
    omega) (holds_snd hO hS hr hs)
   simp (maxSteps := 3000000) [-List.length_flatten,-List.map_drop,-List.map_take,Function.comp_def,argsT,Opd.ev,Tm.get,put,ares,mapMo,ares1,snilP,bldParts,bslParts,putAt,AV.cells,AV.one,astore,aload,loadCs,callArgs,abin,abinInt,aapp,elems,appMore,appNone,preLen,aFa,aFld,apart,aExt,aPick,aNot,aLens,aEqa,cellsK,fitsA,LK.fitsA,leavesA,leafA,nilD,aNilc,aCint,aCid,alive,alen,alenOk,Rle,lePs,len_flat, Kc]
   refine PF.call ham 9 (by simp [lePs, -List.length_flatten, -List.map_drop, -List.map_take, Function.comp_def, len_flat]) ?_
   simp (maxSteps := 3000000) [-List.length_flatten,-List.map_drop,-List.map_take,Function.comp_def,argsT,Opd.ev,Tm.get,put,ares,mapMo,ares1,snilP,bldParts,bslParts,putAt,AV.cells,AV.one,astore,aload,loadCs,callArgs,abin,abinInt,aapp,elems,appMore,appNone,preLen,aFa,aFld,apart,aExt,aPick,aNot,aLens,aEqa,cellsK,fitsA,LK.fitsA,leavesA,leafA,nilD,aNilc,aCint,aCid,alive,alen,alenOk,Rle,lePs,len_flat, Kc]
   refine PF.call (edges15_PF m.edges (edgesN p M p.l.length) (by have := hr.esLen hO.neat; omega) hs.edges) 9 (by simp [lePs, -List.length_flatten, -List.map_drop, -List.map_take, Function.comp_def, len_flat]) ?_
   simp (maxSteps := 3000000) [-List.length_flatten,-List.map_drop,-List.map_take,Function.comp_def,argsT,Opd.ev,Tm.get,put,ares,mapMo,ares1,snilP,bldParts,bslParts,putAt,AV.cells,AV.one,astore,aload,loadCs,callArgs,abin,abinInt,aapp,elems,appMore,appNone,preLen,aFa,aFld,apart,aExt,aPick,aNot,aLens,aEqa,cellsK,fitsA,LK.fitsA,leavesA,leafA,nilD,aNilc,aCint,aCid,alive,alen,alenOk,Rle,lePs,len_flat, Kc]
  ·have h' : (100 : Int) < l.length := by omega
   simp (maxSteps := 3000000) [-List.length_flatten,-List.map_drop,-List.map_take,Function.comp_def,argsT,Opd.ev,Tm.get,put,ares,mapMo,ares1,snilP,bldParts,bslParts,putAt,AV.cells,AV.one,astore,aload,loadCs,callArgs,abin,abinInt,aapp,elems,appMore,appNone,preLen,aFa,aFld,apart,aExt,aPick,aNot,aLens,aEqa,cellsK,fitsA,LK.fitsA,leavesA,leafA,nilD,aNilc,aCint,aCid,alive,alen,alenOk,Rle,lePs,len_flat, Kc, hA, h']
end Go.AM
