/- Contracts of the program's functions. -/
import Derived.Test.YtkkeepdlocmgjaaGreatE2
import Derived.Test.YtkkeepdlocmgjaaGreatAm4
import Derived.KernelRfl
import Derived.Test.YtkkeepdlocmgjaaGreatE3
import Derived.Shelf.Small.Bits
import Derived.Shelf.Strconv.Itoa0
import Derived.Shelf.Sort.Plain
import Derived.Shelf.Slices.Turned
import Derived.Ground.Names2Prog
import Derived.Shelf.Slices.CompactI
import Derived.Shelf.Slices.SearchI
import Derived.Shelf.Slices.Cells
import Derived.Shelf.Slices.In.SortNone
import Derived.Test.YtkkeepdlocmgjaaGreatProg
namespace Go.AM
open Go.Proofs
set_option maxRecDepth 100000
set_option linter.unusedVariables false
set_option linter.unusedSimpArgs false
/-! ### What comes in -/
def tyFn : Ty := .struct [.str, .slice .str, .str]
def tyStm : Ty := .struct [.int .i64, .int .i64, .str, .str, .slice .str, .int .i64]
def tyProg : Ty := .struct [.slice tyFn, .slice tyStm]
theorem is_strs {cs : List AV} (h : (Ty.slice .str).is cs) : ∃ l : List ByteArray, cs = [strs l] ∧ smallL l := by
 simp only [Ty.is] at h
 obtain ⟨e1, rfl, hl1, hs1⟩ := h
 obtain ⟨l, rfl, hl⟩ := is_rows (f := fun s : ByteArray => [AV.str s]) (p := fun s => s.size ≤ lim) (fun u hu => hu) hs1
 exact ⟨l, rfl, by unfold lim at hl1; simpa using hl1, hl⟩
theorem is_fn {cs : List AV} (h : tyFn.is cs) : ∃ f : Fn0, cs = f.cs ∧ f.name.size ≤ lm ∧ f.ret.size ≤ lm ∧ smallL f.params := by
 unfold tyFn at h
 rw [Ty.is] at h
 obtain ⟨_, _, rfl, h1, _, _, rfl, h2, _, _, rfl, h3, rfl⟩ := h
 obtain ⟨s, rfl, k1⟩ := is_str h1
 obtain ⟨l, rfl, k2⟩ := is_strs h2
 obtain ⟨r, rfl, k3⟩ := is_str h3
 exact ⟨⟨s, l, r⟩, rfl, k1, k3, k2⟩
theorem is_stm {cs : List AV} (h : tyStm.is cs) : ∃ s : Stm, cs = s.cs ∧ s.x.size ≤ lm ∧ s.y.size ≤ lm ∧ smallL s.args := by
 unfold tyStm at h
 rw [Ty.is] at h
 obtain ⟨_, _, rfl, h1, _, _, rfl, h2, _, _, rfl, h3, _, _, rfl, h4, _, _, rfl, h5, _, _, rfl, h6, rfl⟩ := h
 obtain ⟨k, rfl, _⟩ := is_int h1
 obtain ⟨n, rfl, _⟩ := is_int h2
 obtain ⟨x, rfl, k3⟩ := is_str h3
 obtain ⟨y, rfl, k4⟩ := is_str h4
 obtain ⟨l, rfl, k5⟩ := is_strs h5
 obtain ⟨m, rfl, _⟩ := is_int h6
 exact ⟨⟨k, n, x, y, l, m⟩, rfl, k3, k4, k5⟩
theorem is_prog {cs : List AV} (h : tyProg.is cs) : ∃ p : Pg, cs = p.cs ∧ SmallP p := by
 unfold tyProg at h
 rw [Ty.is] at h
 obtain ⟨_, _, rfl, h1, _, _, rfl, h2, rfl⟩ := h
 rw [Ty.is] at h1 h2
 obtain ⟨e1, rfl, l1, s1⟩ := h1
 obtain ⟨e2, rfl, l2, s2⟩ := h2
 obtain ⟨fs, rfl, q1⟩ := is_rows (f := Fn0.cs) (p := fun f => f.name.size ≤ lm ∧ f.ret.size ≤ lm ∧ smallL f.params) (fun u hu => is_fn hu) s1
 obtain ⟨l, rfl, q2⟩ := is_rows (f := Stm.cs) (p := fun s => s.x.size ≤ lm ∧ s.y.size ≤ lm ∧ smallL s.args) (fun u hu => is_stm hu) s2
 exact ⟨⟨fs, l⟩, rfl, by unfold lim at l1; simpa using l1, by unfold lim at l2; simpa using l2, q1, q2⟩
end Go.AM

namespace Go.AM
open Go.Proofs
set_option maxRecDepth 100000
set_option linter.unusedVariables false
set_option linter.unusedSimpArgs false
/-! ### What the cells hold: the parts -/
theorem sites28_PF (p : Pg) (hp : Fits p) : PF Tryz.prog 33 [.agg p.cs] (i64 (sitesN p.l)) := by
 refine PFk 9 hm Tryz.func33 c33_ok (Nat.le_of_ble_eq_true rfl) (by simp) (by simp) ?_
 have hA : p.l.length ≤ maxA := by have := hp.l; unfold maxA; omega
 simp (maxSteps := 3000000) [-List.length_flatten,-List.map_drop,-List.map_take,Function.comp_def,argsT,Opd.ev,Tm.get,put,ares,mapMo,ares1,snilP,bldParts,bslParts,putAt,AV.cells,AV.one,astore,aload,loadCs,callArgs,abin,abinInt,aapp,elems,appMore,appNone,preLen,aFa,aFld,apart,aExt,aPick,aNot,aLens,aEqa,cellsK,fitsA,LK.fitsA,leavesA,leafA,nilD,aNilc,aCint,aCid,alive,alen,alenOk,Rle,lePs,len_flat, c33, hA]
 refine run_loopK (fun m T H => ∃ i : Nat, m = p.l.length - i ∧ i ≤ p.l.length ∧ T = [(9, i64 i), (8, i64 p.l.length), (7, stms p.l), (3, i64 (sitesN (p.l.take i))), (1, .ptr 0 0 0)] ∧ H = [.cells 0 p.cs]) p.l.length
  [(9, i64 (0 : Nat)), (8, i64 p.l.length), (7, stms p.l), (3, i64 (0 : Nat)), (1, .ptr 0 0 0)] _ (Wk.sub (by simp [Tm.get])) ⟨0, rfl, by omega, by simp [sitesN], rfl⟩ ?_
 rintro m T H ⟨i, rfl, hi, rfl, rfl⟩ KK kx kr kn
 by_cases h : i < p.l.length
 ·have e := sitesN_next h
  have hle : sitesN (p.l.take i) ≤ i := by
   have := List.countP_le_length (p := fun s : Stm => decide (s.kind = 2)) (l := p.l.take i)
   simp only [List.length_take] at this
   unfold sitesN
   omega
  by_cases h2 : (gi p.l i).kind = 2
  ·rw [if_pos h2] at e
   simp (maxSteps := 3000000) [-List.length_flatten,-List.map_drop,-List.map_take,Function.comp_def,argsT,Opd.ev,Tm.get,put,ares,mapMo,ares1,snilP,bldParts,bslParts,putAt,AV.cells,AV.one,astore,aload,loadCs,callArgs,abin,abinInt,aapp,elems,appMore,appNone,preLen,aFa,aFld,apart,aExt,aPick,aNot,aLens,aEqa,cellsK,fitsA,LK.fitsA,leavesA,leafA,nilD,aNilc,aCint,aCid,alive,alen,alenOk,Rle,lePs,len_flat, h, h2]
   exact kn _ _ (Kl_next (p.l.length - (i + 1)) 1 (by simp) (T' := [(9, i64 (i + 1 : Nat)), (8, i64 p.l.length), (7, stms p.l), (3, i64 (sitesN (p.l.take (i + 1)))), (1, .ptr 0 0 0)]) ⟨i + 1, rfl, by omega, rfl, rfl⟩ (by simp [Tm.get, nxt h hA, e, nxt (show sitesN (p.l.take i) < i + 1 by omega) (by omega)]) (by simp) rfl (by simp [RLB]) (by omega))
  ·rw [if_neg h2] at e
   simp (maxSteps := 3000000) [-List.length_flatten,-List.map_drop,-List.map_take,Function.comp_def,argsT,Opd.ev,Tm.get,put,ares,mapMo,ares1,snilP,bldParts,bslParts,putAt,AV.cells,AV.one,astore,aload,loadCs,callArgs,abin,abinInt,aapp,elems,appMore,appNone,preLen,aFa,aFld,apart,aExt,aPick,aNot,aLens,aEqa,cellsK,fitsA,LK.fitsA,leavesA,leafA,nilD,aNilc,aCint,aCid,alive,alen,alenOk,Rle,lePs,len_flat, h, h2]
   exact kn _ _ (Kl_next (p.l.length - (i + 1)) 1 (by simp) (T' := [(9, i64 (i + 1 : Nat)), (8, i64 p.l.length), (7, stms p.l), (3, i64 (sitesN (p.l.take (i + 1)))), (1, .ptr 0 0 0)]) ⟨i + 1, rfl, by omega, rfl, rfl⟩ (by simp [Tm.get, nxt h hA, e]) (by simp) rfl (by simp [RLB]) (by omega))
 ·have : p.l.take i = p.l := List.take_of_length_le (by omega)
  rw [this]
  simp (maxSteps := 3000000) [-List.length_flatten,-List.map_drop,-List.map_take,Function.comp_def,argsT,Opd.ev,Tm.get,put,ares,mapMo,ares1,snilP,bldParts,bslParts,putAt,AV.cells,AV.one,astore,aload,loadCs,callArgs,abin,abinInt,aapp,elems,appMore,appNone,preLen,aFa,aFld,apart,aExt,aPick,aNot,aLens,aEqa,cellsK,fitsA,LK.fitsA,leavesA,leafA,nilD,aNilc,aCint,aCid,alive,alen,alenOk,Rle,lePs,len_flat, h, kx]
end Go.AM

namespace Go.Proofs
open Go.Shelf
def Tryz.lays189_ren : Go.Shelf.Ren := ⟨fun | 189 => 34 | 125 => 67 | 257 => 66 | 128 => 94 | 129 => 95 | 294 => 85 | 295 => 86 | 296 => 87 | 297 => 88 | 298 => 89 | 299 => 90 | 216 => 91 | 300 => 92 | 301 => 93 | 328 => 105 | 329 => 106 | 330 => 107 | 331 => 108 | 332 => 109 | 215 => 110 | 343 => 111 | n => n, fun | 28 => 26 | 3 => 3 | 46 => 102 | 0 => 0 | 51 => 129 | 53 => 131 | 4 => 4 | 183 => 122 | 182 => 121 | 131 => 115 | 5 => 5 | 9 => 9 | 218 => 135 | 222 => 139 | 228 => 142 | 229 => 103 | n => n, fun | n => n⟩
theorem Tryz.lays189 : Go.Proofs.Lays.n189 Tryz.prog Tryz.lays189_ren := {
 mixed := by kernel_rfl
 f125 := Tryz.func67.trans (congrArg some (by kernel_rfl))
 f128 := Tryz.func94.trans (congrArg some (by kernel_rfl))
 f129 := Tryz.func95.trans (congrArg some (by kernel_rfl))
 f189 := Tryz.func34.trans (congrArg some (by kernel_rfl))
 f215 := Tryz.func110.trans (congrArg some (by kernel_rfl))
 f216 := Tryz.func91.trans (congrArg some (by kernel_rfl))
 f257 := Tryz.func66.trans (congrArg some (by kernel_rfl))
 f294 := Tryz.func85.trans (congrArg some (by kernel_rfl))
 f295 := Tryz.func86.trans (congrArg some (by kernel_rfl))
 f296 := Tryz.func87.trans (congrArg some (by kernel_rfl))
 f297 := Tryz.func88.trans (congrArg some (by kernel_rfl))
 f298 := Tryz.func89.trans (congrArg some (by kernel_rfl))
 f299 := Tryz.func90.trans (congrArg some (by kernel_rfl))
 f300 := Tryz.func92.trans (congrArg some (by kernel_rfl))
 f301 := Tryz.func93.trans (congrArg some (by kernel_rfl))
 f328 := Tryz.func105.trans (congrArg some (by kernel_rfl))
 f329 := Tryz.func106.trans (congrArg some (by kernel_rfl))
 f330 := Tryz.func107.trans (congrArg some (by kernel_rfl))
 f331 := Tryz.func108.trans (congrArg some (by kernel_rfl))
 f332 := Tryz.func109.trans (congrArg some (by kernel_rfl))
 f343 := Tryz.func111.trans (congrArg some (by kernel_rfl))
 t0 := Tryz.underlying0
 a0 := Tryz.isAgg0
 z0 := Tryz.sizeOf0
 v0 := Tryz.zeroValue0
 t3 := Tryz.underlying3
 a3 := Tryz.isAgg3
 z3 := Tryz.sizeOf3
 v3 := Tryz.zeroValue3
 t4 := Tryz.underlying4
 a4 := Tryz.isAgg4
 z4 := Tryz.sizeOf4
 v4 := Tryz.zeroValue4
 t5 := Tryz.underlying5
 a5 := Tryz.isAgg5
 z5 := Tryz.sizeOf5
 v5 := Tryz.zeroValue5
 t9 := Tryz.underlying9
 a9 := Tryz.isAgg9
 z9 := Tryz.sizeOf9
 v9 := Tryz.zeroValue9
 t28 := Tryz.underlying26
 a28 := Tryz.isAgg26
 z28 := Tryz.sizeOf26
 v28 := Tryz.zeroValue26
 t46 := Tryz.underlying102
 a46 := Tryz.isAgg102
 z46 := Tryz.sizeOf102
 v46 := Tryz.zeroValue102
 t51 := Tryz.underlying129
 a51 := Tryz.isAgg129
 z51 := Tryz.sizeOf129
 v51 := Tryz.zeroValue129
 t53 := Tryz.underlying131
 a53 := Tryz.isAgg131
 z53 := Tryz.sizeOf131
 v53 := Tryz.zeroValue131
 t131 := Tryz.underlying115
 a131 := Tryz.isAgg115
 z131 := Tryz.sizeOf115
 v131 := Tryz.zeroValue115
 t182 := Tryz.underlying121
 a182 := Tryz.isAgg121
 z182 := Tryz.sizeOf121
 v182 := Tryz.zeroValue121
 t183 := Tryz.underlying122
 a183 := Tryz.isAgg122
 z183 := Tryz.sizeOf122
 v183 := Tryz.zeroValue122
 t218 := Tryz.underlying135
 a218 := Tryz.isAgg135
 z218 := Tryz.sizeOf135
 v218 := Tryz.zeroValue135
 t222 := Tryz.underlying139
 a222 := Tryz.isAgg139
 z222 := Tryz.sizeOf139
 v222 := Tryz.zeroValue139
 t228 := Tryz.underlying142
 a228 := Tryz.isAgg142
 z228 := Tryz.sizeOf142
 v228 := Tryz.zeroValue142
 t229 := Tryz.underlying103
 a229 := Tryz.isAgg103
 z229 := Tryz.sizeOf103
 v229 := Tryz.zeroValue103 }
open Go.Sort Go.RowKit in
theorem Tryz.slices_Sort_int (blk off cap : Nat) (zs : List Int) (w : World) (hH : Holds (Value.int .i64) w blk off zs.toArray) (hblk : blk < w.heap.size) (hsz : zs.length < 4611686018427387904) :
  Calls Tryz.prog 34 #[.slice (some ⟨blk, off, none⟩) zs.length cap] w fun e w' =>
   e = .returned (.tuple #[]) ∧ ∃ n os, w' = grow (putRow (Value.int .i64) (Sort.ahead w n) blk off (zs.mergeSort fun x y => decide (x ≤ y)).toArray) os := Any.slices_Sort_int Tryz.lays189 blk off cap zs w hH hblk hsz
def Tryz.laysNm220_ren : Go.Shelf.Ren := ⟨fun | 20 => 35 | n => n, fun | 22 => 26 | 3 => 3 | 4 => 4 | 0 => 0 | n => n, fun | n => n⟩
theorem Tryz.laysNm220 : Go.Proofs.Lays2.n20 Tryz.prog Tryz.laysNm220_ren := {
 mixed := by kernel_rfl
 f20 := Tryz.func35.trans (congrArg some (by kernel_rfl))
 t0 := Tryz.underlying0
 a0 := Tryz.isAgg0
 z0 := Tryz.sizeOf0
 v0 := Tryz.zeroValue0
 t3 := Tryz.underlying3
 a3 := Tryz.isAgg3
 z3 := Tryz.sizeOf3
 v3 := Tryz.zeroValue3
 t4 := Tryz.underlying4
 a4 := Tryz.isAgg4
 z4 := Tryz.sizeOf4
 v4 := Tryz.zeroValue4
 t22 := Tryz.underlying26
 a22 := Tryz.isAgg26
 z22 := Tryz.sizeOf26
 v22 := Tryz.zeroValue26
 i3 := by kernel_rfl }
open Go.RowKit Go.Lib Go.Sort in
open Go.RowKit Go.Lib Go.Sort in
/-- slices.Compact at []int: "Compact replaces consecutive runs of equal elements with a single copy. This is like the uniq command found on Unix. Compact modifies the contents of the slice s and returns the modified slice, which may have a smaller length. Compact zeroes the elements between the new length and the original length. The result preserves the nilness of s.": IT RETURNS THE SLICE CUT TO 'Lib.compact zs'; ITS CELLS HOLD 'Lib.compact zs', THEN ZERO VALUES up to the old length; all else is as it was, but for the count of draws. IN THE WORDS OF slices.Sort's CONTRACT ('Holds', 'putRow'): so the everyday 'slices.Sort(xs); xs = slices.Compact(xs)' goes from the one contract to the other. It asks 'zs.length ≤ cap' (every slice's: the reslicing 's[:k]' looks at it). Length 0, nil: '.._empty'. (LAID: no walk: one application.) -/
theorem Tryz.slices_Compact_int (blk off cap : Nat) (zs : List Int) (w : World) (hH : Holds (Value.int .i64) w blk off zs.toArray) (hsz : zs.length ≤ 9223372036854775807) (hcap : zs.length ≤ cap) :
  Calls Tryz.prog 35 #[.slice (some ⟨blk, off, none⟩) zs.length cap] w fun e w' => e = .returned (.slice (some ⟨blk, off, none⟩) (Lib.compact zs).length cap) ∧ ∃ q, w' = putRow (Value.int .i64) (Sort.ahead w q) blk off (Lib.compact zs ++ List.replicate (zs.length - (Lib.compact zs).length) 0).toArray := Any.slices_Compact_int Tryz.laysNm220 blk off cap zs w hH hsz hcap
end Go.Proofs

namespace Go.AM
open Go.Proofs
set_option maxRecDepth 100000
set_option linter.unusedVariables false
set_option linter.unusedSimpArgs false
/-! ### What the cells hold: the library -/
abbrev sortI (l : List Int) : List Int := l.mergeSort fun x y => decide (x ≤ y)
abbrev compI (l : List Int) : List Int := Go.Lib.compact l
theorem call29 : Callable Tryz.prog 34 := ⟨Tryz.f34, rfl, rfl, by kernel_rfl⟩
theorem call30 : Callable Tryz.prog 35 := ⟨Tryz.f35, rfl, rfl, by kernel_rfl⟩
theorem sort0 (c : Bool) : PF Tryz.prog 34 [.rows c 1 []] (.tuple []) := by
 cases c
 ·exact PF_eval hm envOk pss 60 30 rfl (by kernel_rfl)
 ·exact PF_eval hm envOk pss 60 30 rfl (by kernel_rfl)
theorem set_same {H : AHeap} {k : Nat} {b : ABlk} (h : H[k]? = some b) : H.set k b = H := by
 have hk := lt_of_get h
 rw [List.getElem?_eq_getElem hk] at h
 injection h with h
 rw [← h]
 exact List.set_getElem_self hk
theorem sort29_FT {H : AHeap} {k g : Nat} {l : List Int} (h : H[k]? = some (.cells g (i64s l))) :
  FT Tryz.prog 34 [.loc k g 0 l.length 1 false] H fun rv H' => rv = .tuple [] ∧ H' = H.set k (.cells g (i64s (sortI l))) := by
 by_cases h0 : l = []
 ·subst h0
  refine PF.borrow (sort0 false) 9 9 rfl ?_ ⟨rfl, ?_⟩
  ·simp [lePs, h, chunk]
  ·rw [show sortI [] = [] from by simp [sortI], set_same h]
 ·exact sort_FT (fun l => by simp [sortI]) call29 (fun blk off cap zs w a b d => Tryz.slices_Sort_int blk off cap zs w a b d) (List.length_pos_iff.2 h0) h
theorem hcl (l : List Int) : (compI l).length ≤ l.length := by
 unfold compI Go.Lib.compact Go.Lib.compactUpTo
 rw [List.length_map]
 exact Nat.le_trans (List.length_filter_le _ _) (by simp)
theorem comp30_FT {H : AHeap} {k g : Nat} {l : List Int} (h : H[k]? = some (.cells g (i64s l))) :
  FT Tryz.prog 35 [.loc k g 0 l.length 1 false] H fun rv H' => rv = .loc k g 0 (compI l).length 1 false ∧ ∃ zs : List Int, zs.length = l.length - (compI l).length ∧ H' = H.set k (.cells g (i64s (compI l ++ zs))) := by
 by_cases h0 : l = []
 ·subst h0
  refine FTk hm Tryz.func35 c35_ok (Nat.le_of_ble_eq_true rfl) ?_
  simp (maxSteps := 3000000) [-List.length_flatten,-List.map_drop,-List.map_take,Function.comp_def,argsT,Opd.ev,Tm.get,put,ares,mapMo,ares1,snilP,bldParts,bslParts,putAt,AV.cells,AV.one,astore,aload,loadCs,callArgs,abin,abinInt,aapp,elems,appMore,appNone,preLen,aFa,aFld,apart,aExt,aPick,aNot,aLens,aEqa,cellsK,fitsA,LK.fitsA,leavesA,leafA,nilD,aNilc,aCint,aCid,alive,alen,alenOk,Rle,lePs,len_flat, c35, h]
  have e : compI [] = [] := rfl
  exact ⟨by rw [e]; rfl, by rw [e]; exact (set_same h).symm⟩
 ·refine (cut_FT (S := fun l => compI l ++ List.replicate (l.length - (compI l).length) 0) (C := compI) (fun l => by have := hcl l; simp; omega) hcl call30 (fun blk off cap zs w a b d => ?_) (List.length_pos_iff.2 h0) h).mono ?_
  ·refine (Tryz.slices_Compact_int blk off cap zs w a b d).mono ?_
   rintro e w' ⟨rfl, q, rfl⟩
   exact ⟨rfl, q, #[], by simp [rowW]⟩
  ·rintro rv H' ⟨rfl, rfl⟩
   exact ⟨rfl, _, by simp, rfl⟩
end Go.AM

namespace Go.AM
open Go.Proofs
set_option maxRecDepth 100000
set_option linter.unusedVariables false
set_option linter.unusedSimpArgs false
/-! ### What the cells hold -/
def iv (l : List Int) : List AV := l.map fun n => AV.int .i64 n
@[simp] theorem iv_len (l : List Int) : (iv l).length = l.length := by simp [iv]
@[simp] theorem iv_take (l : List Int) : List.take l.length (iv l) = iv l := List.take_of_length_le (by simp)
theorem iv_app (l : List Int) (v : Int) : iv l ++ [AV.int .i64 v] = iv (l ++ [v]) := by simp [iv]
@[simp] theorem iv_nil : iv [] = [] := rfl
abbrev Rw := Nat × List Int
def rblk (r : Rw) : ABlk := .cells r.1 (iv r.2)
def outC (rs : List Rw) : List AV := rs.mapIdx fun i r => .loc (i + 3) r.1 0 r.2.length 1 false
@[simp] theorem outC_len (rs : List Rw) : (outC rs).length = rs.length := by simp [outC]
theorem outC_set {rs : List Rw} {N : Nat} {r : Rw} : (outC rs).set N (.loc (N + 3) r.1 0 r.2.length 1 false) = outC (rs.set N r) := by
 unfold outC
 rw [List.mapIdx_set]
theorem outC_get {rs : List Rw} {N : Nat} (h : N < rs.length) : (outC rs)[N]? = some (.loc (N + 3) (gi rs N).1 0 (gi rs N).2.length 1 false) := by
 simp [outC, gi, List.getD, h]
@[simp] theorem outC_get2 {rs : List Rw} {N : Nat} (h : N < (outC rs).length) : (outC rs)[N] = .loc (N + 3) (gi rs N).1 0 (gi rs N).2.length 1 false := by
 simp at h
 simp [outC, gi, List.getD, h]
def HH (p : Pg) (m : Mc) (oc : List AV) (rs : List Rw) : AHeap := .cells 0 p.cs :: .cells 0 m.av :: .cells 0 oc :: rs.map rblk
section
variable {p : Pg} {m : Mc} {oc : List AV} {rs : List Rw} {t : AHeap}
@[simp] theorem HH_len : (HH p m oc rs).length = rs.length + 3 := by simp [HH]
@[simp high] theorem HH_0 : (HH p m oc rs)[0]? = some (.cells 0 p.cs) := rfl
@[simp high] theorem HH_1 : (HH p m oc rs)[1]? = some (.cells 0 m.av) := rfl
@[simp high] theorem HH_2 : (HH p m oc rs)[2]? = some (.cells 0 oc) := rfl
@[simp high] theorem HH_0' : (HH p m oc rs ++ t)[0]? = some (.cells 0 p.cs) := rfl
@[simp high] theorem HH_1' : (HH p m oc rs ++ t)[1]? = some (.cells 0 m.av) := rfl
@[simp high] theorem HH_2' : (HH p m oc rs ++ t)[2]? = some (.cells 0 oc) := rfl
@[simp high] theorem HH_c {b : ABlk} : (HH p m oc rs ++ [b])[rs.length + 3]? = some b := by
 rw [List.getElem?_append_right (by simp)]
 simp
theorem HH_n {N : Nat} (h : N < rs.length) : (HH p m oc rs)[N + 3]? = some (.cells (gi rs N).1 (iv (gi rs N).2)) := by
 simp [HH, rblk, gi, List.getD, h]
theorem HH_n' {N : Nat} (h : N < rs.length) : (HH p m oc rs ++ t)[N + 3]? = some (.cells (gi rs N).1 (iv (gi rs N).2)) := by
 rw [List.getElem?_append_left (by simp; omega), HH_n h]
@[simp high] theorem HH_out {oc' : List AV} : (HH p m oc rs).set 2 (.cells 0 oc') = HH p m oc' rs := rfl
@[simp high] theorem HH_out' {oc' : List AV} : (HH p m oc rs ++ t).set 2 (.cells 0 oc') = HH p m oc' rs ++ t := rfl
@[simp high] theorem HH_row {N g : Nat} {l : List Int} : (HH p m oc rs).set (N + 3) (.cells g (iv l)) = HH p m oc (rs.set N (g, l)) := by
 simp [HH, rblk, List.map_set]
theorem HH_row' {N g : Nat} {l : List Int} (h : N < rs.length) : (HH p m oc rs ++ t).set (N + 3) (.cells g (iv l)) = HH p m oc (rs.set N (g, l)) ++ t := by
 rw [List.set_append_left _ _ (by simp; omega), HH_row]
end
theorem HH_al {p : Pg} {m : Mc} {rs : List Rw} : al (RLB (rs.length + 3)) (HH p m (outC rs) rs) := by
 have key : ∀ l : List Rw, al (RLB (rs.length + 3)) (l.map rblk) := by
  intro l
  induction l with
  | nil => trivial
  | cons r l ih =>
   refine ⟨?_, ih⟩
   intro y hy
   simp only [iv, List.mem_map] at hy
   obtain ⟨n, _, rfl⟩ := hy
   simp
 refine ⟨by simp [RLB], by simp [RLB], ?_, key rs⟩
 intro y hy
 simp only [outC, List.mem_mapIdx] at hy
 obtain ⟨i, hi, rfl⟩ := hy
 simp
 omega
theorem HH_take {p : Pg} {m : Mc} {oc : List AV} {rs : List Rw} {t : AHeap} : (HH p m oc rs ++ t).take (rs.length + 3) = HH p m oc rs := by
 rw [List.take_left' (by simp)]
/-- A row of slices that are nil ones, told as own empty ones. -/
theorem Wk.rows {lo : Nat} {T : Tm} {p : Pg} {m : Mc} {n : Nat} : Wk lo T [.cells 0 p.cs, .cells 0 m.av, .cells 0 (List.replicate n .nilS)] T (HH p m (outC (List.replicate n (0, []))) (List.replicate n (0, []))) := by
 have key : ∀ i : Nat, i ≤ n → Wk lo T [.cells 0 p.cs, .cells 0 m.av, .cells 0 (List.replicate n .nilS)] T (HH p m (outC (List.replicate i (0, [])) ++ List.replicate (n - i) .nilS) (List.replicate i (0, []))) := by
  intro i
  induction i with
  | zero => intro _; exact fun X E0 w0 n a w hlo hs => hs
  | succ i ih =>
   intro hi
   have e1 : List.replicate (i + 1) ((0, []) : Rw) = List.replicate i (0, []) ++ [(0, [])] := List.replicate_succ'
   have e2 : outC (List.replicate i ((0, []) : Rw) ++ [(0, [])]) = outC (List.replicate i (0, [])) ++ [.loc (i + 3) 0 0 0 1 false] := by
    unfold outC
    rw [List.mapIdx_append]
    simp
   have e3 : HH p m (outC (List.replicate i (0, [])) ++ List.replicate (n - i) .nilS) (List.replicate i (0, [])) ++ [.cells 0 []] = HH p m (outC (List.replicate i (0, [])) ++ List.replicate (n - i) .nilS) (List.replicate (i + 1) (0, [])) := by
    rw [e1]
    simp [HH, rblk]
   have e4 : n - i = (n - (i + 1)) + 1 := by omega
   have h0 := ih (by omega)
   refine h0.trans (Wk.own.trans ?_)
   rw [e3]
   have h1 := Wk.nilAt (lo := lo) (T := T) (H := HH p m (outC (List.replicate i (0, [])) ++ List.replicate (n - i) .nilS) (List.replicate (i + 1) (0, []))) 2 i (i + 3) 1 (g := 0) (cs := outC (List.replicate i (0, [])) ++ List.replicate (n - i) .nilS) HH_2
    (by rw [e4, List.replicate_succ, List.getElem?_append_right (by simp)]; simp) (by rw [HH_n (by simp)]; simp [gi, List.getD])
   rw [HH_out] at h1
   have e5 : (outC (List.replicate i ((0, []) : Rw)) ++ List.replicate (n - i) AV.nilS).set i (.loc (i + 3) 0 0 0 1 false) = outC (List.replicate (i + 1) (0, [])) ++ List.replicate (n - (i + 1)) .nilS := by
    rw [e1, e2, e4, List.replicate_succ, List.set_append_right _ _ (by simp)]
    simp
   rw [e5] at h1
   exact h1
 have := key n (Nat.le_refl _)
 simpa using this
def locsN (p : Pg) : Nat := (varsOf p).length + sitesN p.l
/-- What a cell puts into its location's row. -/
def putsF (p : Pg) (m : Mc) (n : Nat) (c : Cl) : Option Int :=
 if c.loc = n then (if c.kind = 1 then some (gi m.cells c.v).loc else if c.kind = 2 then some (locsN p + c.v) else none) else none
def rowN (p : Pg) (m : Mc) (i n : Nat) : List Int := (m.cells.take i).filterMap (putsF p m n)
def rowsN (p : Pg) (m : Mc) (i : Nat) : List (List Int) := (List.range (locsN p)).map (rowN p m i)
def holdsF (p : Pg) (m : Mc) : List (List Int) := (List.range (locsN p)).map fun n => compI (sortI ((m.cells).filterMap (putsF p m n)))
theorem chunk1 : ∀ (n : Nat) (xs : List AV), n ≤ xs.length → chunk 1 xs n = (xs.take n).map fun x => [x]
 | 0, _, _ => by simp [chunk]
 | n + 1, [], h => by simp at h
 | n + 1, x :: xs, h => by
  simp only [chunk, List.drop_succ_cons, List.drop_zero]
  rw [chunk1 n xs (by simpa using h)]
  simp
/-- The row of rows, each one as long as what is seen of it. -/
def outD (rs : List Rw) (ds : List (List Int)) : List AV := rs.mapIdx fun i r => .loc (i + 3) r.1 0 (gi ds i).length 1 false
@[simp] theorem outD_len (rs : List Rw) (ds : List (List Int)) : (outD rs ds).length = rs.length := by simp [outD]
theorem outD_get {rs : List Rw} {ds : List (List Int)} {N : Nat} (h : N < (outD rs ds).length) : (outD rs ds)[N] = .loc (N + 3) (gi rs N).1 0 (gi ds N).length 1 false := by
 simp at h
 simp [outD, gi, List.getD, h]
theorem outC_D (rs : List Rw) : outC rs = outD rs (rs.map Prod.snd) := by
 unfold outC outD
 apply List.ext_getElem
 ·simp
 ·intro i h1 h2
  simp at h1
  simp [gi, List.getD, h1]
theorem outD_set {rs : List Rw} {ds : List (List Int)} {N g : Nat} {l d : List Int} (h : N < ds.length) : (outD rs ds).set N (.loc (N + 3) g 0 d.length 1 false) = outD (rs.set N (g, l)) (ds.set N d) := by
 apply List.ext_getElem
 ·simp
 ·intro i h1 h2
  simp at h1
  rw [List.getElem_set]
  simp only [outD, List.getElem_mapIdx, List.getElem_set]
  by_cases hi : N = i
  ·subst hi
   simp [gi, List.getD, h]
  ·simp [hi, gi, List.getD]
structure Seen (rs : List Rw) (ds : List (List Int)) : Prop where
 len : ds.length = rs.length
 all : ∀ k : Nat, k < rs.length → ∃ zs, (gi rs k).2 = gi ds k ++ zs
theorem frz_out {p : Pg} {m : Mc} {rs : List Rw} {ds : List (List Int)} (h : Seen rs ds) : frz true (HH p m (outD rs ds) rs) 9 (.loc 2 0 0 rs.length 1 false) = .rows false 1 (ds.map fun l => [ints l]) := by
 have e : frz true (HH p m (outD rs ds) rs) 9 (.loc 2 0 0 rs.length 1 false) = .rows false 1 ((chunk 1 (outD rs ds) rs.length).map fun e => e.map (frz true (HH p m (outD rs ds) rs) 8)) := by
  simp [frz]
 rw [e, chunk1 _ _ (by simp), List.take_of_length_le (by simp)]
 congr 1
 apply List.ext_getElem
 ·simp [h.len]
 ·intro k h1 h2
  have hk : k < rs.length := by simpa using h1
  simp only [List.getElem_map, List.map_cons, List.map_nil]
  congr 1
  rw [outD_get]
  obtain ⟨zs, hz⟩ := h.all k hk
  have hd : ds[k]'(by rw [h.len]; exact hk) = gi ds k := by simp [gi, List.getD, h.len, hk]
  rw [hd]
  have e2 : frz true (HH p m (outD rs ds) rs) 8 (.loc (k + 3) (gi rs k).1 0 (gi ds k).length 1 false) = .rows false 1 ((chunk 1 (iv (gi rs k).2) (gi ds k).length).map fun e => e.map (frz true (HH p m (outD rs ds) rs) 7)) := by
   have hle : (gi ds k).length ≤ (gi rs k).2.length := by rw [hz]; simp
   simp [frz, HH_n hk, hle]
  rw [e2, hz, chunk1 _ _ (by simp)]
  congr 1
  unfold iv
  rw [List.map_append, List.take_left' (by simp)]
  simp [Function.comp_def, frz]
def doneN (p : Pg) (m : Mc) (i : Nat) : List (List Int) := (List.range (locsN p)).map fun n => if n < i then compI (sortI (rowN p m m.cells.length n)) else rowN p m m.cells.length n
theorem doneN_0 (p : Pg) (m : Mc) : doneN p m 0 = rowsN p m m.cells.length := by simp [doneN, rowsN]
theorem doneN_all (p : Pg) (m : Mc) {i : Nat} (h : locsN p ≤ i) : doneN p m i = holdsF p m := by
 unfold doneN holdsF
 refine List.map_congr_left fun n hn => ?_
 rw [if_pos (by have := List.mem_range.1 hn; omega)]
 unfold rowN
 rw [List.take_length]
theorem doneN_get {p : Pg} {m : Mc} {i : Nat} (h : i < locsN p) : gi (doneN p m i) (i : Int) = rowN p m m.cells.length i := by
 simp [doneN, gi, List.getD, h]
theorem doneN_next {p : Pg} {m : Mc} {i : Nat} (h : i < locsN p) : (doneN p m i).set i (compI (sortI (rowN p m m.cells.length i))) = doneN p m (i + 1) := by
 apply List.ext_getElem
 ·simp [doneN]
 ·intro n h1 h2
  rw [List.getElem_set]
  simp only [doneN, List.getElem_map, List.getElem_range]
  by_cases hn : i = n
  ·subst hn
   simp
  ·rw [if_neg hn]
   by_cases hlt : n < i
   ·rw [if_pos hlt, if_pos (by omega)]
   ·rw [if_neg hlt, if_neg (by omega)]
theorem rowN_next {p : Pg} {m : Mc} {i n : Nat} (h : i < m.cells.length) : rowN p m (i + 1) n = rowN p m i n ++ (putsF p m n (gi m.cells i)).toList := by
 unfold rowN
 rw [take_next h, List.filterMap_append]
 simp only [List.filterMap_cons, List.filterMap_nil]
 cases putsF p m n (gi m.cells i) <;> rfl
theorem rowsN_put {p : Pg} {m : Mc} {i N : Nat} {v : Int} (h : i < m.cells.length) (hN : (gi m.cells i).loc = N) (hv : putsF p m N (gi m.cells i) = some v) : (rowsN p m i).set N (rowN p m i N ++ [v]) = rowsN p m (i + 1) := by
 apply List.ext_getElem
 ·simp [rowsN]
 ·intro n h1 h2
  simp only [rowsN, List.length_set, List.length_map, List.length_range] at h1 h2
  rw [List.getElem_set]
  simp only [rowsN, List.getElem_map, List.getElem_range]
  rw [rowN_next h]
  by_cases hn : N = n
  ·subst hn
   rw [if_pos rfl, hv]
   rfl
  ·have : putsF p m n (gi m.cells i) = none := by
    unfold putsF
    rw [if_neg (by omega)]
   rw [if_neg hn, this]
   simp
theorem rowsN_skip {p : Pg} {m : Mc} {i : Nat} (h : i < m.cells.length) (h1 : (gi m.cells i).kind ≠ 1) (h2 : (gi m.cells i).kind ≠ 2) : rowsN p m i = rowsN p m (i + 1) := by
 unfold rowsN
 refine List.map_congr_left fun n _ => ?_
 have : putsF p m n (gi m.cells i) = none := by
  unfold putsF
  rw [if_neg h1, if_neg h2]
  simp
 rw [rowN_next h, this]
 simp
theorem rowsN_0 (p : Pg) (m : Mc) : rowsN p m 0 = List.replicate (locsN p) [] := by
 apply List.ext_getElem <;> simp [rowsN, rowN]
theorem sort29i {H : AHeap} {k g : Nat} {l : List Int} (h : H[k]? = some (.cells g (iv l))) :
  FT Tryz.prog 34 [.loc k g 0 l.length 1 false] H fun rv H' => rv = .tuple [] ∧ H' = H.set k (.cells g (iv (sortI l))) := sort29_FT h
theorem comp30i {H : AHeap} {k g : Nat} {l : List Int} (h : H[k]? = some (.cells g (iv l))) :
  FT Tryz.prog 35 [.loc k g 0 l.length 1 false] H fun rv H' => rv = .loc k g 0 (compI l).length 1 false ∧ ∃ zs : List Int, zs.length = l.length - (compI l).length ∧ H' = H.set k (.cells g (iv (compI l ++ zs))) := comp30_FT h
theorem holds_PF {p : Pg} (hp : Of p) {m : Mc} (h : MOk p m) : PF Tryz.prog 12 [.agg p.cs, .agg m.av] (.rows false 1 ((holdsF p m).map fun l => [ints l])) := by
 refine PFk 9 hm Tryz.func12 c12_ok (Nat.le_of_ble_eq_true rfl) (by simp) (by simp) ?_
 have hl := hp.neat.locs
 have hw : IntKind.i64.wrap (((varsOf p).length : Int) + sitesN p.l) = locsN p := by rw [w64 (by omega) (by omega)]; simp [locsN]
 have hn : locsN p ≤ 40 := hl
 have hA : locsN p ≤ maxA := by unfold maxA; omega
 have a1 : m.cells.length ≤ maxA := by have := h.cs.few; unfold maxA; omega
 simp (maxSteps := 3000000) [-List.length_flatten, -List.map_drop, -List.map_take, Function.comp_def, argsT, Opd.ev, Tm.get, put, ares, mapMo, ares1, snilP, bldParts, bslParts, putAt, AV.cells, AV.one, astore, aload, loadCs, callArgs, abin, abinInt, aapp, elems, appMore, appNone, preLen, aFa, aFld, apart, aExt, aPick, aNot, aLens, aEqa, cellsK, fitsA, LK.fitsA, leavesA, leafA, nilD, aNilc, aCint, aCid, alive, Rle, lePs, len_flat, c12]
 refine ⟨_, (vars27_PF p hp.fits).le 9 (by simp [lePs, -List.length_flatten, -List.map_drop, -List.map_take, Function.comp_def, len_flat]) (by simp), ?_⟩
 simp (maxSteps := 3000000) [-List.length_flatten, -List.map_drop, -List.map_take, Function.comp_def, argsT, Opd.ev, Tm.get, put, ares, mapMo, ares1, snilP, bldParts, bslParts, putAt, AV.cells, AV.one, astore, aload, loadCs, callArgs, abin, abinInt, aapp, elems, appMore, appNone, preLen, aFa, aFld, apart, aExt, aPick, aNot, aLens, aEqa, cellsK, fitsA, LK.fitsA, leavesA, leafA, nilD, aNilc, aCint, aCid, alive, Rle, lePs, len_flat, Kc]
 intro _
 refine ⟨_, (sites28_PF p hp.fits).le 9 (by simp [lePs, -List.length_flatten, -List.map_drop, -List.map_take, Function.comp_def, len_flat]) (by simp), ?_⟩
 have hmk : ∀ H, aMksl 1 24 [.nilS] H (i64 (locsN p)) (i64 (locsN p)) = some (.loc H.length 0 0 (locsN p) 1 false, H ++ [.cells 0 (List.replicate (locsN p) .nilS)]) := by
  intro H
  have hf : ∀ n : Nat, (List.replicate n [AV.nilS]).flatten = List.replicate n .nilS := by
   intro n
   induction n with
   | zero => rfl
   | succ n ih => simp [List.replicate_succ, ih]
  have b1 : (locsN p : Int) * 24 ≤ limB := by unfold limB; omega
  have b2 : (locsN p : Int) ≤ maxA := by omega
  simp [aMksl, b1, b2, hf]
 simp (maxSteps := 3000000) [-List.length_flatten, -List.map_drop, -List.map_take, Function.comp_def, argsT, Opd.ev, Tm.get, put, ares, mapMo, ares1, snilP, bldParts, bslParts, putAt, AV.cells, AV.one, astore, aload, loadCs, callArgs, abin, abinInt, aapp, elems, appMore, appNone, preLen, aFa, aFld, apart, aExt, aPick, aNot, aLens, aEqa, cellsK, fitsA, LK.fitsA, leavesA, leafA, nilD, aNilc, aCint, aCid, alive, Rle, lePs, len_flat, Kc, hw, hA, hmk]
 intro _
 refine run_loopK (fun k T H => ∃ (i : Nat) (rs : List Rw), k = m.cells.length - i ∧ i ≤ m.cells.length ∧ rs.map Prod.snd = rowsN p m i ∧ T = [(21, i64 i), (20, i64 m.cells.length), (19, cellsV m.cells), (6, .loc 2 0 0 (locsN p) 1 false), (5, i64 (locsN p)), (3, .ptr 1 0 0), (2, .ptr 0 0 0)] ∧ H = HH p m (outC rs) rs) m.cells.length
  [(21, i64 (0 : Nat)), (20, i64 m.cells.length), (19, cellsV m.cells), (6, .loc 2 0 0 (locsN p) 1 false), (5, i64 (locsN p)), (3, .ptr 1 0 0), (2, .ptr 0 0 0)] _ ((Wk.sub (T' := [(21, i64 (0 : Nat)), (20, i64 m.cells.length), (19, cellsV m.cells), (6, .loc 2 0 0 (locsN p) 1 false), (5, i64 (locsN p)), (3, .ptr 1 0 0), (2, .ptr 0 0 0)]) (by simp [Tm.get])).trans Wk.rows) ⟨0, _, rfl, by omega, ?_, rfl, rfl⟩ ?_
 ·simp [rowsN_0]
 rintro k T H ⟨i, rs, rfl, hi, hrs, rfl, rfl⟩ KK kx kr kn
 have hrl : rs.length = locsN p := by
  have := congrArg List.length hrs
  simpa [rowsN] using this
 by_cases hic : i < m.cells.length
 ·have hne : cellsV m.cells = .rows false 3 (m.cells.map Cl.cs) := cellsV_ne (fun e => by rw [e] at hic; simp at hic)
  have hcm := gi_mem hic
  obtain ⟨v1, v2, v3, v4, v5⟩ := h.cs.vals _ hcm
  obtain ⟨N, hN, hNl⟩ : ∃ N : Nat, (gi m.cells i).loc = N ∧ N < rs.length := by
   obtain ⟨q1, q2⟩ := h.cs.locs i hic
   rw [hrl]
   unfold locsN
   by_cases hv : i < (varsOf p).length
   ·exact ⟨i, q1 hv, by omega⟩
   ·obtain ⟨q3, q4⟩ := q2 (by omega)
    exact ⟨(gi m.cells i).loc.toNat, by omega, by omega⟩
  have h1N : 1 ≤ rs.length - N := by omega
  have hNe : ¬ N = rs.length := by omega
  have hNe' : ¬ rs.length = N := by omega
  have hrow : (gi rs N).2 = rowN p m i N := by
   have e : gi (rs.map Prod.snd) (N : Int) = gi (rowsN p m i) N := by rw [hrs]
   have e1 : gi (rs.map Prod.snd) (N : Int) = (gi rs N).2 := by simp [gi, List.getD, hNl]
   have e2 : gi (rowsN p m i) (N : Int) = rowN p m i N := by
    rw [hrl] at hNl
    simp [gi, List.getD, rowsN, hNl]
   rw [← e1, e, e2]
  have hLe0 : (gi rs N).2.length ≤ i := by
   rw [hrow]
   exact Nat.le_trans (List.length_filterMap_le _ _) (by simp; omega)
  have hLe : (gi rs N).2.length ≤ maxA := by omega
  have hLe2 : (gi rs N).2.length + 1 ≤ maxA := by omega
  have nx : ∀ (T : Tm) (v : Int) (b : ABlk), al (fun q => T.get q.1 = q.2) [(21, i64 (i + 1 : Nat)), (20, i64 m.cells.length), (19, cellsV m.cells), (6, .loc 2 0 0 (locsN p) 1 false), (5, i64 (locsN p)), (3, .ptr 1 0 0), (2, .ptr 0 0 0)] →
    putsF p m N (gi m.cells i) = some v → KK .normal T (HH p m ((outC rs).set N (.loc (N + 3) ((gi rs N).1 + 1) 0 ((gi rs N).2.length + 1) 1 false)) (rs.set N ((gi rs N).1 + 1, (gi rs N).2 ++ [v])) ++ [b]) := by
   intro T v b ht hv
   have e := outC_set (rs := rs) (N := N) (r := ((gi rs N).1 + 1, (gi rs N).2 ++ [v]))
   simp only [List.length_append, List.length_singleton] at e
   rw [e]
   refine kn _ _ (Kl_next (m.cells.length - (i + 1)) ((rs.set N ((gi rs N).1 + 1, (gi rs N).2 ++ [v])).length + 3) (by simp) ⟨i + 1, _, rfl, by omega, ?_, rfl, rfl⟩ ht (by simp [RL_cellsV]) HH_take HH_al (by omega))
   rw [List.map_set, hrs, ← rowsN_put hic hN hv, hrow]
  by_cases hk1 : (gi m.cells i).kind = 1
  ·obtain ⟨v41, v42⟩ := v4 hk1
   simp (maxSteps := 3000000) [-List.length_flatten, -List.map_drop, -List.map_take, Function.comp_def, argsT, Opd.ev, Tm.get, put, ares, mapMo, ares1, snilP, bldParts, bslParts, putAt, AV.cells, AV.one, astore, aload, loadCs, callArgs, abin, abinInt, aapp, elems, appMore, appNone, preLen, aFa, aFld, apart, aExt, aPick, aNot, aLens, aEqa, cellsK, fitsA, LK.fitsA, leavesA, leafA, nilD, aNilc, aCint, aCid, alive, Rle, lePs, len_flat, h1N, hLe, hLe2, hic, hne, hk1, hN, hNl, HH_n' hNl, HH_n hNl, outC_get hNl, HH_row' hNl, iv_app, ← hrl, v41, v42, indB, apartB, apartS, refA, aliveRd, hNe, hNe']
   intro _
   exact ⟨hNl, nx _ _ _ (by simp [Tm.get, nxt hic a1, hrl, hne]) (by simp [putsF, hN, hk1])⟩
  ·by_cases hk2 : (gi m.cells i).kind = 2
   ·have hwv : IntKind.i64.wrap ((rs.length : Int) + (gi m.cells i).v) = rs.length + (gi m.cells i).v := by
     obtain ⟨q1, q2⟩ := v5 hk2
     have := hp.neat.funs
     rw [w64 (by omega) (by omega)]
    simp (maxSteps := 3000000) [-List.length_flatten, -List.map_drop, -List.map_take, Function.comp_def, argsT, Opd.ev, Tm.get, put, ares, mapMo, ares1, snilP, bldParts, bslParts, putAt, AV.cells, AV.one, astore, aload, loadCs, callArgs, abin, abinInt, aapp, elems, appMore, appNone, preLen, aFa, aFld, apart, aExt, aPick, aNot, aLens, aEqa, cellsK, fitsA, LK.fitsA, leavesA, leafA, nilD, aNilc, aCint, aCid, alive, Rle, lePs, len_flat, h1N, hLe, hLe2, hic, hne, hk1, hk2, hN, hNl, HH_n' hNl, HH_n hNl, outC_get hNl, HH_row' hNl, iv_app, ← hrl, hwv, indB, apartB, apartS, refA, aliveRd, hNe, hNe']
    intro _
    exact ⟨hNl, nx _ _ _ (by simp [Tm.get, nxt hic a1, hrl, hne]) (by simp [putsF, hN, hk1, hk2, hrl])⟩
   ·simp (maxSteps := 3000000) [-List.length_flatten, -List.map_drop, -List.map_take, Function.comp_def, argsT, Opd.ev, Tm.get, put, ares, mapMo, ares1, snilP, bldParts, bslParts, putAt, AV.cells, AV.one, astore, aload, loadCs, callArgs, abin, abinInt, aapp, elems, appMore, appNone, preLen, aFa, aFld, apart, aExt, aPick, aNot, aLens, aEqa, cellsK, fitsA, LK.fitsA, leavesA, leafA, nilD, aNilc, aCint, aCid, alive, Rle, lePs, len_flat, hic, hne, hk1, hk2, hN]
    refine kn _ _ (Kl_next (m.cells.length - (i + 1)) (rs.length + 3) (by simp) (T' := [(21, i64 (i + 1 : Nat)), (20, i64 m.cells.length), (19, cellsV m.cells), (6, .loc 2 0 0 (locsN p) 1 false), (5, i64 (locsN p)), (3, .ptr 1 0 0), (2, .ptr 0 0 0)]) ⟨i + 1, rs, rfl, by omega, by rw [hrs, rowsN_skip hic hk1 hk2], rfl, rfl⟩ (by simp [Tm.get, nxt hic a1, hne]) (by simp) HH_take HH_al (by omega))
 ·have hall : m.cells.take i = m.cells := List.take_of_length_le (by omega)
  simp (maxSteps := 3000000) [-List.length_flatten, -List.map_drop, -List.map_take, Function.comp_def, argsT, Opd.ev, Tm.get, put, ares, mapMo, ares1, snilP, bldParts, bslParts, putAt, AV.cells, AV.one, astore, aload, loadCs, callArgs, abin, abinInt, aapp, elems, appMore, appNone, preLen, aFa, aFld, apart, aExt, aPick, aNot, aLens, aEqa, cellsK, fitsA, LK.fitsA, leavesA, leafA, nilD, aNilc, aCint, aCid, alive, Rle, lePs, len_flat, hic, kx]
  have hil : i = m.cells.length := by omega
  rw [hil] at hrs
  simp (maxSteps := 3000000) [-List.length_flatten,-List.map_drop,-List.map_take,Function.comp_def,argsT,Opd.ev,Tm.get,put,ares,mapMo,ares1,snilP,bldParts,bslParts,putAt,AV.cells,AV.one,astore,aload,loadCs,callArgs,abin,abinInt,aapp,elems,appMore,appNone,preLen,aFa,aFld,apart,aExt,aPick,aNot,aLens,aEqa,cellsK,fitsA,LK.fitsA,leavesA,leafA,nilD,aNilc,aCint,aCid,alive,alen,alenOk,Rle,lePs,len_flat, hA]
  rw [outC_D, hrs, ← doneN_0]
  refine run_loopK (fun k T H => ∃ (i : Nat) (rs : List Rw), k = locsN p - i ∧ i ≤ locsN p ∧ rs.length = locsN p ∧ Seen rs (doneN p m i) ∧ (∀ k : Nat, i ≤ k → k < locsN p → (gi rs k).2 = rowN p m m.cells.length k) ∧ T = [(67, i64 i), (66, i64 (locsN p)), (6, .loc 2 0 0 (locsN p) 1 false)] ∧ H = HH p m (outD rs (doneN p m i)) rs) (locsN p)
   [(67, i64 (0 : Nat)), (66, i64 (locsN p)), (6, .loc 2 0 0 (locsN p) 1 false)] _ (Wk.sub (T' := [(67, i64 (0 : Nat)), (66, i64 (locsN p)), (6, .loc 2 0 0 (locsN p) 1 false)]) (by simp [Tm.get])) ⟨0, rs, rfl, by omega, hrl, ?_, ?_, rfl, rfl⟩ ?_
  ·refine ⟨by simp [doneN, hrl], fun k hk => ⟨[], ?_⟩⟩
   rw [List.append_nil, doneN_0, ← hrs]
   simp [gi, List.getD, hk]
  ·intro k _ hk
   have e1 : gi (rs.map Prod.snd) (k : Int) = (gi rs k).2 := by simp [gi, List.getD, hrl, hk]
   rw [← e1, hrs]
   simp [rowsN, gi, List.getD, hk]
  clear kx kr kn hrs hrl hic hil hall
  clear hi
  clear rs
  rintro k T H ⟨i, rs, rfl, hi, hrl, hse, hlt, rfl, rfl⟩ KK kx kr kn
  by_cases hin : i < locsN p
  ·have hir : i < rs.length := by omega
   have h1i : 1 ≤ rs.length - i := by omega
   have hgi := doneN_get (m := m) hin
   have hrow := hlt i (Nat.le_refl _) hin
   have hnx := doneN_next (m := m) hin
   have hdl : i < (doneN p m i).length := by rw [hse.len]; exact hir
   generalize rowN p m m.cells.length i = Rr at *
   have hH := HH_n (p := p) (m := m) (oc := outD rs (doneN p m i)) hir
   rw [hrow] at hH
   simp (maxSteps := 3000000) [-List.length_flatten,-List.map_drop,-List.map_take,Function.comp_def,argsT,Opd.ev,Tm.get,put,ares,mapMo,ares1,snilP,bldParts,bslParts,putAt,AV.cells,AV.one,astore,aload,loadCs,callArgs,abin,abinInt,aapp,elems,appMore,appNone,preLen,aFa,aFld,apart,aExt,aPick,aNot,aLens,aEqa,cellsK,fitsA,LK.fitsA,leavesA,leafA,nilD,aNilc,aCint,aCid,alive,alen,alenOk,Rle,lePs,len_flat, hin, hir, ← hrl, outD_get, h1i, hgi]
   refine (sort29i hH).mono ?_
   rintro _ _ ⟨rfl, rfl⟩
   rw [HH_row]
   simp (maxSteps := 3000000) [-List.length_flatten,-List.map_drop,-List.map_take,Function.comp_def,argsT,Opd.ev,Tm.get,put,ares,mapMo,ares1,snilP,bldParts,bslParts,putAt,AV.cells,AV.one,astore,aload,loadCs,callArgs,abin,abinInt,aapp,elems,appMore,appNone,preLen,aFa,aFld,apart,aExt,aPick,aNot,aLens,aEqa,cellsK,fitsA,LK.fitsA,leavesA,leafA,nilD,aNilc,aCint,aCid,alive,alen,alenOk,Rle,lePs,len_flat, Kc, hir, outD_get, h1i, hgi]
   have hH2 := HH_n (p := p) (m := m) (oc := outD rs (doneN p m i)) (rs := rs.set i ((gi rs i).1, sortI Rr)) (N := i) (by simpa using hir)
   have hg2 : gi (rs.set i ((gi rs i).1, sortI Rr)) (i : Int) = ((gi rs i).1, sortI Rr) := by simp [gi, List.getD, hir]
   rw [hg2] at hH2
   have hsl : Rr.length = (sortI Rr).length := by simp [sortI]
   rw [hsl]
   refine (comp30i hH2).mono ?_
   rintro _ _ ⟨rfl, zs, _, rfl⟩
   rw [HH_row]
   simp (maxSteps := 3000000) [-List.length_flatten,-List.map_drop,-List.map_take,Function.comp_def,argsT,Opd.ev,Tm.get,put,ares,mapMo,ares1,snilP,bldParts,bslParts,putAt,AV.cells,AV.one,astore,aload,loadCs,callArgs,abin,abinInt,aapp,elems,appMore,appNone,preLen,aFa,aFld,apart,aExt,aPick,aNot,aLens,aEqa,cellsK,fitsA,LK.fitsA,leavesA,leafA,nilD,aNilc,aCint,aCid,alive,alen,alenOk,Rle,lePs,len_flat, Kc, hir, outD_get, h1i]
   refine ⟨hir, ?_⟩
   rw [outD_set (l := compI (sortI Rr) ++ zs) hdl, hnx]
   have hgs : ∀ k : Nat, gi (rs.set i ((gi rs i).1, compI (sortI Rr) ++ zs)) (k : Int) = if i = k then ((gi rs i).1, compI (sortI Rr) ++ zs) else gi rs k := fun k => gi_set hir
   refine kn _ _ (Kl_sub (locsN p - (i + 1)) (T' := [(67, i64 (i + 1 : Nat)), (66, i64 (locsN p)), (6, .loc 2 0 0 (locsN p) 1 false)]) ⟨i + 1, _, rfl, by omega, by simpa using hrl, ⟨by simp [doneN, hrl], fun k hk => ?_⟩, fun k h1 h2 => ?_, rfl, rfl⟩ (by simp [Tm.get, nxt hin hA, hrl]) (by omega))
   ·simp only [List.length_set] at hk
    rw [hgs k, ← hnx, gi_set hdl]
    by_cases hik : i = k
    ·rw [if_pos hik, if_pos hik]
     exact ⟨zs, rfl⟩
    ·rw [if_neg hik, if_neg hik]
     exact hse.all k hk
   ·rw [hgs k, if_neg (by omega)]
    exact hlt k (by omega) h2
  ·simp (maxSteps := 3000000) [-List.length_flatten,-List.map_drop,-List.map_take,Function.comp_def,argsT,Opd.ev,Tm.get,put,ares,mapMo,ares1,snilP,bldParts,bslParts,putAt,AV.cells,AV.one,astore,aload,loadCs,callArgs,abin,abinInt,aapp,elems,appMore,appNone,preLen,aFa,aFld,apart,aExt,aPick,aNot,aLens,aEqa,cellsK,fitsA,LK.fitsA,leavesA,leafA,nilD,aNilc,aCint,aCid,alive,alen,alenOk,Rle,lePs,len_flat, hin, kx]
   have e := frz_out (p := p) (m := m) hse
   have e2 := leP_refl 9 (frz true (HH p m (outD rs (doneN p m i)) rs) 9 (.loc 2 0 0 rs.length 1 false))
   conv at e2 => rhs; rw [e]
   rw [← doneN_all p m (show locsN p ≤ i by omega)]
   simpa [hrl] using e2
end Go.AM

namespace Go.AM
open Go.Proofs
set_option maxRecDepth 100000
set_option linter.unusedVariables false
set_option linter.unusedSimpArgs false
/-! ### The document's machine -/
theorem mc_RL (n : Nat) (m : Mc) : RL n (.agg m.cs) := by
 refine .agg _ fun y hy => ?_
 simp only [List.mem_cons, List.not_mem_nil, or_false] at hy
 rcases hy with rfl | rfl | rfl | rfl
 ·simp
 ·simp
 ·exact pairs_RL _ _
 ·simp
theorem mcs_RL (n : Nat) (m : Mc) : RLB n (.cells 0 m.cs) := by
 intro y hy
 simp only [List.mem_cons, List.not_mem_nil, or_false] at hy
 rcases hy with rfl | rfl | rfl | rfl
 ·simp
 ·simp
 ·exact pairs_RL _ _
 ·simp
theorem halted_PF (m : Mc) (why : Int) : PF Tryz.prog 62 [.agg m.cs, i64 why] (.agg { m with halt := why }.cs) := by
 refine PFk 9 hm Tryz.func62 c62_ok (Nat.le_of_ble_eq_true rfl) (by simp) (mc_RL _ _) ?_
 simp (maxSteps := 3000000) [-List.length_flatten,-List.map_drop,-List.map_take,Function.comp_def,argsT,Opd.ev,Tm.get,put,ares,mapMo,ares1,snilP,bldParts,bslParts,putAt,AV.cells,AV.one,astore,aload,loadCs,callArgs,abin,abinInt,aapp,elems,appMore,appNone,preLen,aFa,aFld,apart,aExt,aPick,aNot,aLens,aEqa,cellsK,fitsA,LK.fitsA,leavesA,leafA,nilD,aNilc,aCint,aCid,alive,alen,alenOk,Rle,lePs,len_flat, c62]
/-- A value that tells a row: it, or a slice of the call's own that holds it. -/
def Tells {α : Type} (f : α → List AV) (sz : Nat) (H : AHeap) (a : AV) (l : List α) : Prop := a = .rows false sz (l.map f) ∨ ∃ i g, a = .loc i g 0 l.length sz false ∧ H[i]? = some (.cells g (l.map f).flatten)
theorem Tells.frz {α : Type} {f : α → List AV} {sz : Nat} {H : AHeap} {a : AV} {l : List α} (hf : ∀ x, (f x).length = sz) (hz : ∀ x, (f x).map (Go.AM.frz true H 7) = f x) (h : Tells f sz H a l) : Go.AM.frz true H 8 a = .rows false sz (l.map f) := by
 rcases h with rfl | ⟨i, g, rfl, h⟩
 ·show AV.rows _ _ ((l.map f).map fun e : List AV => e.map (Go.AM.frz true H 7)) = _
  rw [List.map_map]
  congr 1
  exact List.map_congr_left fun x _ => hz x
 ·have h1 : (l.map f).flatten.length = l.length * sz := len_flat hf
  have h2 : chunk sz ((l.map f).flatten) l.length = l.map f := chunk_flat hf
  show (match H[i]? with
   | some (.cells g' cs) => if g = g' ∧ 0 + l.length * sz ≤ cs.length then AV.rows (true && false) sz ((chunk sz (cs.drop 0) l.length).map fun e : List AV => e.map (Go.AM.frz true H 7)) else .any
   | _ => .any) = _
  rw [h]
  show (if g = g ∧ 0 + l.length * sz ≤ (l.map f).flatten.length then _ else _) = _
  rw [if_pos ⟨rfl, by rw [h1]; omega⟩, List.drop_zero, h2, List.map_map]
  congr 1
  exact List.map_congr_left fun x _ => hz x
theorem Rle_mc {H : AHeap} {a b e : AV} (m : Mc) (ha : Tells Cl.cs 3 H a m.cells) (hb : Tells Ps.cs 3 H b m.stack) (he : Tells Ed.cs 2 H e m.edges) : Rle 9 (.agg m.cs) (.agg [a, b, e, i64 m.halt]) H := by
 have h1 := ha.frz (by simp) (fun x => rfl)
 have h2 := hb.frz (by simp) (fun x => rfl)
 have h3 := he.frz (by simp) (fun x => rfl)
 show leP 9 (.agg [frz true H 8 a, frz true H 8 b, frz true H 8 e, frz true H 8 (i64 m.halt)]) _
 rw [h1, h2, h3]
 exact leP_refl _ _
theorem set3 {α : Type} {f : α → List AV} (x : α) (a b c : AV) (hx : f x = [a, b, c]) (hf : ∀ x, (f x).length = 3) : ∀ (cs : List α) (k : Nat), k < cs.length → (((cs.map f).flatten.set (k * 3) a).set (k * 3 + 1) b).set (k * 3 + 1 + 1) c = ((cs.set k x).map f).flatten
 | y :: cs, 0, h => by
  have := hf y
  match hy : f y with
  | [p, q, r] => simp [hx, hy]
  | [] => rw [hy] at this; simp at this
  | [_] => rw [hy] at this; simp at this
  | [_, _] => rw [hy] at this; simp at this
  | _ :: _ :: _ :: _ :: _ => rw [hy] at this; simp at this
 | y :: cs, k + 1, h => by
  have ih := set3 x a b c hx hf cs k (by simpa using h)
  have hy := hf y
  simp only [List.map_cons, List.flatten_cons, List.set_cons_succ]
  rw [List.set_append_right _ _ (by omega), List.set_append_right _ _ (by omega), List.set_append_right _ _ (by omega), hy,
   show (k + 1) * 3 - 3 = k * 3 by omega, show (k + 1) * 3 + 1 - 3 = k * 3 + 1 by omega, show (k + 1) * 3 + 1 + 1 - 3 = k * 3 + 1 + 1 by omega, ih]
 | [], k, h => by simp at h
theorem load0 {cs : List Cl} {i : Int} (h0 : 0 ≤ i) (h1 : i < cs.length) : loadCs 1 false ((cs.map Cl.cs).flatten.drop (i.toNat * 3)) = some (i64 (gi cs i).loc) := by
 have e := flat_at (f := Cl.cs) (sz := 3) (by simp) h0 h1
 have hl : 3 ≤ (((cs.map Cl.cs).flatten).drop (i.toNat * 3)).length := by
  have : ((cs.map Cl.cs).flatten).length = cs.length * 3 := len_flat (by simp)
  rw [List.length_drop, this]
  omega
 generalize ((cs.map Cl.cs).flatten).drop (i.toNat * 3) = r at *
 match r with
 | a :: r =>
  have : a = i64 (gi cs i).loc := by
   have := congrArg List.head? e
   simpa using this
  simp [loadCs, this]
 | [] => simp at hl
theorem hold63_PF (m : Mc) (to : Int) (c : Cl) (h0 : 0 ≤ to) (h1 : to < m.cells.length) (hA : m.cells.length ≤ 1000) : PF Tryz.prog 63 [.agg m.cs, i64 to, .agg c.cs] (.agg { m with cells := holdF m.cells to c }.cs) := by
 refine PFk 9 hm Tryz.func63 c63_ok (Nat.le_of_ble_eq_true rfl) (by simp) (mc_RL _ _) ?_
 have hA' : m.cells.length ≤ maxA := by unfold maxA; omega
 have hne : m.cells ≠ [] := fun e => by rw [e] at h1; simp at h1; omega
 have hk : to.toNat < m.cells.length := by omega
 have hfl : ((m.cells.map Cl.cs).flatten).length = m.cells.length * 3 := len_flat (by simp)
 have hl0 := load0 h0 h1
 have hset := set3 (f := Cl.cs) (⟨(gi m.cells to).loc, c.kind, c.v⟩ : Cl) _ _ _ rfl (by simp) m.cells to.toNat hk
 generalize hQ : Rle 9 (.agg ({ m with cells := holdF m.cells to c } : Mc).cs) = Q
 simp (maxSteps := 3000000) [-List.length_flatten,-List.map_drop,-List.map_take,Function.comp_def,argsT,Opd.ev,Tm.get,put,ares,mapMo,ares1,snilP,bldParts,bslParts,putAt,AV.cells,AV.one,astore,aload,loadCs,callArgs,abin,abinInt,aapp,elems,appMore,appNone,preLen,aFa,aFld,apart,aExt,aPick,aNot,aLens,aEqa,cellsK,fitsA,LK.fitsA,leavesA,leafA,nilD,aNilc,aCint,aCid,alive,alen,alenOk,Rle,lePs,len_flat, c63, hA', hne, h0, h1, hfl, ↓hl0]
 refine ⟨by omega, ?_⟩
 rw [hset, ← hQ]
 exact Rle_mc ({ m with cells := holdF m.cells to c } : Mc) (.inr ⟨3, 0, by simp [holdF], rfl⟩) (.inl rfl) (.inl rfl)
theorem loadP {st : List Ps} {k : Nat} (hk : k < st.length) : loadCs 3 true ((st.map Ps.cs).flatten.drop (k * 3)) = some (.agg (gi st k).cs) := by
 have e := flat_at (f := Ps.cs) (sz := 3) (by simp) (i := (k : Int)) (by omega) (by omega) (l := st)
 have hl : ((st.map Ps.cs).flatten).length = st.length * 3 := len_flat (by simp)
 rw [Int.toNat_natCast] at e
 simp [loadCs, hl, e]
 omega
theorem moved27_PF (m : Mc) (v : Int) (h0 : 0 < m.stack.length) (hA : m.stack.length ≤ 1000) : PF Tryz.prog 27 [.agg m.cs, i64 v] (.agg { m with stack := moveF m.stack (m.stack.length - 1) v }.cs) := by
 refine PFk 9 hm Tryz.func27 c27_ok (Nat.le_of_ble_eq_true rfl) (by simp) (mc_RL _ _) ?_
 have hA' : m.stack.length ≤ maxA := by unfold maxA; omega
 have hne : m.stack ≠ [] := fun e => by rw [e] at h0; simp at h0
 have hk : m.stack.length - 1 < m.stack.length := by omega
 have hfl : ((m.stack.map Ps.cs).flatten).length = m.stack.length * 3 := len_flat (by simp)
 have hw : IntKind.i64.wrap ((m.stack.length : Int) - 1) = ((m.stack.length - 1 : Nat) : Int) := by rw [w64 (by omega) (by omega)]; omega
 have hl0 := loadP hk
 have hset := set3 (f := Ps.cs) ({ (gi m.stack (m.stack.length - 1 : Nat)) with at' := v } : Ps) _ _ _ rfl (by simp) m.stack (m.stack.length - 1) hk
 have hmv : moveF m.stack (m.stack.length - 1) v = m.stack.set (m.stack.length - 1) { (gi m.stack (m.stack.length - 1 : Nat)) with at' := v } := by simp [moveF, gi]
 generalize hQ : Rle 9 (.agg ({ m with stack := moveF m.stack (m.stack.length - 1) v } : Mc).cs) = Q
 have hkl : m.stack.length - 1 + 1 ≤ m.stack.length := by omega
 have hk3 : (m.stack.length - 1) * 3 + 3 ≤ m.stack.length * 3 := by omega
 generalize m.stack.length - 1 = k at *
 simp (maxSteps := 3000000) [-List.length_flatten,-List.map_drop,-List.map_take,Function.comp_def,argsT,Opd.ev,Tm.get,put,ares,mapMo,ares1,snilP,bldParts,bslParts,putAt,AV.cells,AV.one,astore,aload,loadCs,callArgs,abin,abinInt,aapp,elems,appMore,appNone,preLen,aFa,aFld,apart,aExt,aPick,aNot,aLens,aEqa,cellsK,fitsA,LK.fitsA,leavesA,leafA,nilD,aNilc,aCint,aCid,alive,alen,alenOk,Rle,lePs,len_flat, c27, hA', hne, h0, hfl, hw, hk, ↓hl0]
 refine ⟨by omega, ?_⟩
 rw [hset, ← hQ, hmv]
 exact Rle_mc ({ m with stack := m.stack.set k { (gi m.stack (k : Int)) with at' := v } } : Mc) (.inl rfl) (.inr ⟨2, 0, by simp, rfl⟩) (.inl rfl)
theorem func65_PF (p : Pg) (hp : p.funs.length ≤ 1000) (name : ByteArray) : PF Tryz.prog 65 [.agg p.cs, .str name] (i64 (fx p name)) := by
 refine PFk 9 hm Tryz.func65 c65_ok (Nat.le_of_ble_eq_true rfl) (by simp) (by simp) ?_
 have hA : p.funs.length ≤ maxA := by unfold maxA; omega
 simp (maxSteps := 3000000) [-List.length_flatten,-List.map_drop,-List.map_take,Function.comp_def,argsT,Opd.ev,Tm.get,put,ares,mapMo,ares1,snilP,bldParts,bslParts,putAt,AV.cells,AV.one,astore,aload,loadCs,callArgs,abin,abinInt,aapp,elems,appMore,appNone,preLen,aFa,aFld,apart,aExt,aPick,aNot,aLens,aEqa,cellsK,fitsA,LK.fitsA,leavesA,leafA,nilD,aNilc,aCint,aCid,alive,alen,alenOk,Rle,lePs,len_flat, c65]
 refine run_countK p.funs.length 5 [(2, .ptr 0 0 0), (1, .str name)] [.cells 0 p.cs] (fun i => ∀ j : Nat, j < i → ¬ (gi p.funs j).name = name) (Wk.sub (by simp [Tm.get])) (fun j hj => by omega) ?_
 intro i hi hj KK kx kr kn
 by_cases h : i < p.funs.length
 ·by_cases h1 : (gi p.funs i).name = name
  ·have : fx p name = i := fstAt_some h (by simp [h1]) (fun j hl => by simpa using hj j hl)
   simp (maxSteps := 3000000) [-List.length_flatten,-List.map_drop,-List.map_take,Function.comp_def,argsT,Opd.ev,Tm.get,put,ares,mapMo,ares1,snilP,bldParts,bslParts,putAt,AV.cells,AV.one,astore,aload,loadCs,callArgs,abin,abinInt,aapp,elems,appMore,appNone,preLen,aFa,aFld,apart,aExt,aPick,aNot,aLens,aEqa,cellsK,fitsA,LK.fitsA,leavesA,leafA,nilD,aNilc,aCint,aCid,alive,alen,alenOk,Rle,lePs,len_flat, h, kr, h1, hA, this]
  ·simp (maxSteps := 3000000) [-List.length_flatten,-List.map_drop,-List.map_take,Function.comp_def,argsT,Opd.ev,Tm.get,put,ares,mapMo,ares1,snilP,bldParts,bslParts,putAt,AV.cells,AV.one,astore,aload,loadCs,callArgs,abin,abinInt,aapp,elems,appMore,appNone,preLen,aFa,aFld,apart,aExt,aPick,aNot,aLens,aEqa,cellsK,fitsA,LK.fitsA,leavesA,leafA,nilD,aNilc,aCint,aCid,alive,alen,alenOk,Rle,lePs,len_flat, h, h1, hA]
   refine kn _ _ (Kn_next 1 (by omega) (by omega) (fun j hl => ?_) (by simp [Tm.get, nxt h hA]) (by simp) rfl (by simp [RLB]))
   rcases Nat.lt_or_ge j i with h3 | h3
   ·exact hj j h3
   ·have : j = i := by omega
    subst this
    exact h1
 ·have : fx p name = -1 := fstAt_none (fun j hl => by simpa using hj j (by omega))
  simp (maxSteps := 3000000) [-List.length_flatten,-List.map_drop,-List.map_take,Function.comp_def,argsT,Opd.ev,Tm.get,put,ares,mapMo,ares1,snilP,bldParts,bslParts,putAt,AV.cells,AV.one,astore,aload,loadCs,callArgs,abin,abinInt,aapp,elems,appMore,appNone,preLen,aFa,aFld,apart,aExt,aPick,aNot,aLens,aEqa,cellsK,fitsA,LK.fitsA,leavesA,leafA,nilD,aNilc,aCint,aCid,alive,alen,alenOk,Rle,lePs,len_flat, h, kx, hA, this]
theorem atv_PF (p : Pg) (name : ByteArray) : PF Tryz.prog 61 [strs (varsOf p), .str name] (i64 (ix p name)) := at_PF _ _
theorem done29_PF {p : Pg} {s : Stm} (hn : Neat p) (m : Mc) (hh : m.halt = 0) (hc : CsOk p m.cells) (hs : StOk p s) (hk : s.kind ≠ 7) :
  PF Tryz.prog 29 [.agg p.cs, strs (varsOf p), .agg m.cs, .agg s.cs] (.agg (⟨(doneF p m.cells s).1, m.stack, m.edges, (doneF p m.cells s).2⟩ : Mc).cs) := by
 refine PFk 9 hm Tryz.func29 c29_ok (Nat.le_of_ble_eq_true rfl) (by simp) (mc_RL _ _) ?_
 obtain ⟨cs, st, es, hl⟩ := m
 simp only at hh hc
 subst hh
 have hfew := hc.few
 have hA' : cs.length ≤ maxA := by unfold maxA; omega
 have hv := hc.vars
 have hvA : (varsOf p).length ≤ maxA := by omega
 obtain ⟨x0, x1⟩ := hs.x
 have hx1 : ix p s.x < cs.length := by omega
 have hkk := hs.kind
 have hlocs := hn.locs
 have hkc : s.kind = 1 ∨ s.kind = 2 ∨ s.kind = 3 ∨ s.kind = 4 ∨ s.kind = 5 ∨ s.kind = 6 := by omega
 have atx := atv_PF p s.x
 have aty := atv_PF p s.y
 simp (maxSteps := 3000000) [-List.length_flatten,-List.map_drop,-List.map_take,Function.comp_def,argsT,Opd.ev,Tm.get,put,ares,mapMo,ares1,snilP,bldParts,bslParts,putAt,AV.cells,AV.one,astore,aload,loadCs,callArgs,abin,abinInt,aapp,elems,appMore,appNone,preLen,aFa,aFld,apart,aExt,aPick,aNot,aLens,aEqa,cellsK,fitsA,LK.fitsA,leavesA,leafA,nilD,aNilc,aCint,aCid,alive,alen,alenOk,Rle,lePs,len_flat, c29]
 refine PF.call atx 9 (by simp [lePs, -List.length_flatten, -List.map_drop, -List.map_take, Function.comp_def, len_flat]) ?_
 simp (maxSteps := 3000000) [-List.length_flatten,-List.map_drop,-List.map_take,Function.comp_def,argsT,Opd.ev,Tm.get,put,ares,mapMo,ares1,snilP,bldParts,bslParts,putAt,AV.cells,AV.one,astore,aload,loadCs,callArgs,abin,abinInt,aapp,elems,appMore,appNone,preLen,aFa,aFld,apart,aExt,aPick,aNot,aLens,aEqa,cellsK,fitsA,LK.fitsA,leavesA,leafA,nilD,aNilc,aCint,aCid,alive,alen,alenOk,Rle,lePs,len_flat, Kc]
 refine PF.call aty 9 (by simp [lePs, -List.length_flatten, -List.map_drop, -List.map_take, Function.comp_def, len_flat]) ?_
 have hold := fun (cs : List Cl) (to : Int) (c : Cl) (h0 : 0 ≤ to) (h1 : to < cs.length) (hA : cs.length ≤ 1000) => hold63_PF ⟨cs, st, es, 0⟩ to c h0 h1 hA
 simp only at hold
 rcases hkc with hk | hk | hk | hk | hk | hk
 ·obtain ⟨y0, y1⟩ := hs.y (by omega) (by omega)
  rw [show doneF p cs s = (holdF cs (ix p s.x) ⟨0, 1, ix p s.y⟩, 0) by simp [doneF, hk]]
  simp (maxSteps := 3000000) [-List.length_flatten,-List.map_drop,-List.map_take,Function.comp_def,argsT,Opd.ev,Tm.get,put,ares,mapMo,ares1,snilP,bldParts,bslParts,putAt,AV.cells,AV.one,astore,aload,loadCs,callArgs,abin,abinInt,aapp,elems,appMore,appNone,preLen,aFa,aFld,apart,aExt,aPick,aNot,aLens,aEqa,cellsK,fitsA,LK.fitsA,leavesA,leafA,nilD,aNilc,aCint,aCid,alive,alen,alenOk,Rle,lePs,len_flat, Kc, hk]
  refine PF.call (hold cs (ix p s.x) ⟨0, 1, ix p s.y⟩ x0 hx1 (by omega)) 9 (by simp [lePs, -List.length_flatten, -List.map_drop, -List.map_take, Function.comp_def, len_flat]) ?_
  simp (maxSteps := 3000000) [-List.length_flatten,-List.map_drop,-List.map_take,Function.comp_def,argsT,Opd.ev,Tm.get,put,ares,mapMo,ares1,snilP,bldParts,bslParts,putAt,AV.cells,AV.one,astore,aload,loadCs,callArgs,abin,abinInt,aapp,elems,appMore,appNone,preLen,aFa,aFld,apart,aExt,aPick,aNot,aLens,aEqa,cellsK,fitsA,LK.fitsA,leavesA,leafA,nilD,aNilc,aCint,aCid,alive,alen,alenOk,Rle,lePs,len_flat, Kc]
 ·have hnn := hs.n hk
  rw [show doneF p cs s = (if cs.length = 200 then (cs, 5) else (holdF (cs ++ [⟨(varsOf p).length + s.n, 0, 0⟩]) (ix p s.x) ⟨0, 1, cs.length⟩, 0)) by simp [doneF, hk]]
  by_cases h200 : cs.length = 200
  ·have h2 : (200 : Int) ≤ cs.length := by omega
   rw [if_pos h200]
   simp (maxSteps := 3000000) [-List.length_flatten,-List.map_drop,-List.map_take,Function.comp_def,argsT,Opd.ev,Tm.get,put,ares,mapMo,ares1,snilP,bldParts,bslParts,putAt,AV.cells,AV.one,astore,aload,loadCs,callArgs,abin,abinInt,aapp,elems,appMore,appNone,preLen,aFa,aFld,apart,aExt,aPick,aNot,aLens,aEqa,cellsK,fitsA,LK.fitsA,leavesA,leafA,nilD,aNilc,aCint,aCid,alive,alen,alenOk,Rle,lePs,len_flat, Kc, hk, hA', h2]
   refine PF.call (halted_PF ⟨cs, st, es, 0⟩ 5) 9 (by simp [lePs, -List.length_flatten, -List.map_drop, -List.map_take, Function.comp_def, len_flat]) ?_
   simp (maxSteps := 3000000) [-List.length_flatten,-List.map_drop,-List.map_take,Function.comp_def,argsT,Opd.ev,Tm.get,put,ares,mapMo,ares1,snilP,bldParts,bslParts,putAt,AV.cells,AV.one,astore,aload,loadCs,callArgs,abin,abinInt,aapp,elems,appMore,appNone,preLen,aFa,aFld,apart,aExt,aPick,aNot,aLens,aEqa,cellsK,fitsA,LK.fitsA,leavesA,leafA,nilD,aNilc,aCint,aCid,alive,alen,alenOk,Rle,lePs,len_flat, Kc]
  ·have h2 : ¬ (200 : Int) ≤ cs.length := by omega
   rw [if_neg h200]
   have hne : cs ≠ [] := fun e => by rw [e] at hx1; simp at hx1; omega
   have hw : IntKind.i64.wrap (((varsOf p).length : Int) + s.n) = (varsOf p).length + s.n := by rw [w64 (by omega) (by omega)]
   have hfl : ((cs.map Cl.cs).flatten).length = cs.length * 3 := len_flat (by simp)
   have hcA : cs.length + 1 ≤ maxA := by unfold maxA; omega
   have htk : (cs.map Cl.cs).flatten.take (cs.length * 3) = (cs.map Cl.cs).flatten := List.take_of_length_le (by omega)
   have happ : (cs.map Cl.cs).flatten ++ [i64 ((varsOf p).length + s.n), i64 0, i64 0] = ((cs ++ [(⟨(varsOf p).length + s.n, 0, 0⟩ : Cl)]).map Cl.cs).flatten := by simp
   have hch := chunk_flat (sz := 3) (f := Cl.cs) (l := cs ++ [(⟨(varsOf p).length + s.n, 0, 0⟩ : Cl)]) (by simp)
   have hfl2 : (((cs ++ [(⟨(varsOf p).length + s.n, 0, 0⟩ : Cl)]).map Cl.cs).flatten).length = (cs.length + 1) * 3 := by rw [len_flat (sz := 3) (by simp)]; simp
   have hlen : (cs ++ [(⟨(varsOf p).length + s.n, 0, 0⟩ : Cl)]).length = cs.length + 1 := by simp
   rw [hlen] at hch
   have ho := hold (cs ++ [(⟨(varsOf p).length + s.n, 0, 0⟩ : Cl)]) (ix p s.x) ⟨0, 1, cs.length⟩ x0 (by simp; omega) (by simp; omega)
   generalize cs ++ [(⟨(varsOf p).length + s.n, 0, 0⟩ : Cl)] = cs2 at *
   simp (maxSteps := 3000000) [-List.length_flatten,-List.map_drop,-List.map_take,Function.comp_def,argsT,Opd.ev,Tm.get,put,ares,mapMo,ares1,snilP,bldParts,bslParts,putAt,AV.cells,AV.one,astore,aload,loadCs,callArgs,abin,abinInt,aapp,elems,appMore,appNone,preLen,aFa,aFld,apart,aExt,aPick,aNot,aLens,aEqa,cellsK,fitsA,LK.fitsA,leavesA,leafA,nilD,aNilc,aCint,aCid,alive,alen,alenOk,Rle,lePs,len_flat, Kc, hk, hA', h2, hvA, hne, disP_cons, indB, apartB, apartS, refA, aliveRd, hw, hfl, hcA, htk, chunk, ↓happ]
   intro _
   refine FT.letgo 5 9 rfl ?_
   simp (maxSteps := 3000000) [-List.length_flatten,-List.map_drop,-List.map_take,Function.comp_def,argsT,Opd.ev,Tm.get,put,ares,mapMo,ares1,snilP,bldParts,bslParts,putAt,AV.cells,AV.one,astore,aload,loadCs,callArgs,abin,abinInt,aapp,elems,appMore,appNone,preLen,aFa,aFld,apart,aExt,aPick,aNot,aLens,aEqa,cellsK,fitsA,LK.fitsA,leavesA,leafA,nilD,aNilc,aCint,aCid,alive,alen,alenOk,Rle,lePs,len_flat, fz, hch, hfl2]
   refine PF.call ho 9 (by simp [lePs, -List.length_flatten, -List.map_drop, -List.map_take, Function.comp_def, len_flat]) ?_
   simp (maxSteps := 3000000) [-List.length_flatten,-List.map_drop,-List.map_take,Function.comp_def,argsT,Opd.ev,Tm.get,put,ares,mapMo,ares1,snilP,bldParts,bslParts,putAt,AV.cells,AV.one,astore,aload,loadCs,callArgs,abin,abinInt,aapp,elems,appMore,appNone,preLen,aFa,aFld,apart,aExt,aPick,aNot,aLens,aEqa,cellsK,fitsA,LK.fitsA,leavesA,leafA,nilD,aNilc,aCint,aCid,alive,alen,alenOk,Rle,lePs,len_flat, Kc]
 ·obtain ⟨y0, y1⟩ := hs.y (by omega) (by omega)
  rw [show doneF p cs s = (holdF cs (ix p s.x) (gi cs (ix p s.y)), 0) by simp [doneF, hk]]
  have e2 := flat_at (f := Cl.cs) (sz := 3) (by simp) (l := cs) y0 (by omega)
  have hy1 : ix p s.y < cs.length := by omega
  simp (maxSteps := 3000000) [-List.length_flatten,-List.map_drop,-List.map_take,Function.comp_def,argsT,Opd.ev,Tm.get,put,ares,mapMo,ares1,snilP,bldParts,bslParts,putAt,AV.cells,AV.one,astore,aload,loadCs,callArgs,abin,abinInt,aapp,elems,appMore,appNone,preLen,aFa,aFld,apart,aExt,aPick,aNot,aLens,aEqa,cellsK,fitsA,LK.fitsA,leavesA,leafA,nilD,aNilc,aCint,aCid,alive,alen,alenOk,Rle,lePs,len_flat, Kc, hk, hA', y0, hy1]
  refine ⟨_, hold cs (ix p s.x) (gi cs (ix p s.y)) x0 hx1 (by omega), ?_⟩
  simp (maxSteps := 3000000) [-List.length_flatten,-List.map_drop,-List.map_take,Function.comp_def,argsT,Opd.ev,Tm.get,put,ares,mapMo,ares1,snilP,bldParts,bslParts,putAt,AV.cells,AV.one,astore,aload,loadCs,callArgs,abin,abinInt,aapp,elems,appMore,appNone,preLen,aFa,aFld,apart,aExt,aPick,aNot,aLens,aEqa,cellsK,fitsA,LK.fitsA,leavesA,leafA,nilD,aNilc,aCint,aCid,alive,alen,alenOk,Rle,lePs,len_flat, Kc]
 ·obtain ⟨y0, y1⟩ := hs.y (by omega) (by omega)
  have hy1 : ix p s.y < cs.length := by omega
  rw [show doneF p cs s = (if (gi cs (ix p s.y)).kind = 1 then (holdF cs (ix p s.x) (gi cs (gi cs (ix p s.y)).v), 0) else (cs, 2)) by simp [doneF, hk]]
  by_cases hk1 : (gi cs (ix p s.y)).kind = 1
  ·obtain ⟨v0, v1⟩ := (hc.vals _ (giz_mem y0 hy1)).2.2.2.1 hk1
   rw [if_pos hk1]
   simp (maxSteps := 3000000) [-List.length_flatten,-List.map_drop,-List.map_take,Function.comp_def,argsT,Opd.ev,Tm.get,put,ares,mapMo,ares1,snilP,bldParts,bslParts,putAt,AV.cells,AV.one,astore,aload,loadCs,callArgs,abin,abinInt,aapp,elems,appMore,appNone,preLen,aFa,aFld,apart,aExt,aPick,aNot,aLens,aEqa,cellsK,fitsA,LK.fitsA,leavesA,leafA,nilD,aNilc,aCint,aCid,alive,alen,alenOk,Rle,lePs,len_flat, Kc, hk, hA', y0, hy1, hk1, v0, v1]
   refine ⟨_, hold cs (ix p s.x) (gi cs (gi cs (ix p s.y)).v) x0 hx1 (by omega), ?_⟩
   simp (maxSteps := 3000000) [-List.length_flatten,-List.map_drop,-List.map_take,Function.comp_def,argsT,Opd.ev,Tm.get,put,ares,mapMo,ares1,snilP,bldParts,bslParts,putAt,AV.cells,AV.one,astore,aload,loadCs,callArgs,abin,abinInt,aapp,elems,appMore,appNone,preLen,aFa,aFld,apart,aExt,aPick,aNot,aLens,aEqa,cellsK,fitsA,LK.fitsA,leavesA,leafA,nilD,aNilc,aCint,aCid,alive,alen,alenOk,Rle,lePs,len_flat, Kc]
  ·rw [if_neg hk1]
   simp (maxSteps := 3000000) [-List.length_flatten,-List.map_drop,-List.map_take,Function.comp_def,argsT,Opd.ev,Tm.get,put,ares,mapMo,ares1,snilP,bldParts,bslParts,putAt,AV.cells,AV.one,astore,aload,loadCs,callArgs,abin,abinInt,aapp,elems,appMore,appNone,preLen,aFa,aFld,apart,aExt,aPick,aNot,aLens,aEqa,cellsK,fitsA,LK.fitsA,leavesA,leafA,nilD,aNilc,aCint,aCid,alive,alen,alenOk,Rle,lePs,len_flat, Kc, hk, hA', y0, hy1, hk1]
   refine PF.call (halted_PF ⟨cs, st, es, 0⟩ 2) 9 (by simp [lePs, -List.length_flatten, -List.map_drop, -List.map_take, Function.comp_def, len_flat]) ?_
   simp (maxSteps := 3000000) [-List.length_flatten,-List.map_drop,-List.map_take,Function.comp_def,argsT,Opd.ev,Tm.get,put,ares,mapMo,ares1,snilP,bldParts,bslParts,putAt,AV.cells,AV.one,astore,aload,loadCs,callArgs,abin,abinInt,aapp,elems,appMore,appNone,preLen,aFa,aFld,apart,aExt,aPick,aNot,aLens,aEqa,cellsK,fitsA,LK.fitsA,leavesA,leafA,nilD,aNilc,aCint,aCid,alive,alen,alenOk,Rle,lePs,len_flat, Kc]
 ·obtain ⟨y0, y1⟩ := hs.y (by omega) (by omega)
  have hy1 : ix p s.y < cs.length := by omega
  rw [show doneF p cs s = (if (gi cs (ix p s.x)).kind = 1 then (holdF cs (gi cs (ix p s.x)).v (gi cs (ix p s.y)), 0) else (cs, 2)) by simp [doneF, hk]]
  by_cases hk1 : (gi cs (ix p s.x)).kind = 1
  ·obtain ⟨v0, v1⟩ := (hc.vals _ (giz_mem x0 hx1)).2.2.2.1 hk1
   rw [if_pos hk1]
   simp (maxSteps := 3000000) [-List.length_flatten,-List.map_drop,-List.map_take,Function.comp_def,argsT,Opd.ev,Tm.get,put,ares,mapMo,ares1,snilP,bldParts,bslParts,putAt,AV.cells,AV.one,astore,aload,loadCs,callArgs,abin,abinInt,aapp,elems,appMore,appNone,preLen,aFa,aFld,apart,aExt,aPick,aNot,aLens,aEqa,cellsK,fitsA,LK.fitsA,leavesA,leafA,nilD,aNilc,aCint,aCid,alive,alen,alenOk,Rle,lePs,len_flat, Kc, hk, hA', x0, hx1, y0, hy1, hk1, v0, v1]
   refine ⟨_, hold cs (gi cs (ix p s.x)).v (gi cs (ix p s.y)) v0 v1 (by omega), ?_⟩
   simp (maxSteps := 3000000) [-List.length_flatten,-List.map_drop,-List.map_take,Function.comp_def,argsT,Opd.ev,Tm.get,put,ares,mapMo,ares1,snilP,bldParts,bslParts,putAt,AV.cells,AV.one,astore,aload,loadCs,callArgs,abin,abinInt,aapp,elems,appMore,appNone,preLen,aFa,aFld,apart,aExt,aPick,aNot,aLens,aEqa,cellsK,fitsA,LK.fitsA,leavesA,leafA,nilD,aNilc,aCint,aCid,alive,alen,alenOk,Rle,lePs,len_flat, Kc]
  ·rw [if_neg hk1]
   simp (maxSteps := 3000000) [-List.length_flatten,-List.map_drop,-List.map_take,Function.comp_def,argsT,Opd.ev,Tm.get,put,ares,mapMo,ares1,snilP,bldParts,bslParts,putAt,AV.cells,AV.one,astore,aload,loadCs,callArgs,abin,abinInt,aapp,elems,appMore,appNone,preLen,aFa,aFld,apart,aExt,aPick,aNot,aLens,aEqa,cellsK,fitsA,LK.fitsA,leavesA,leafA,nilD,aNilc,aCint,aCid,alive,alen,alenOk,Rle,lePs,len_flat, Kc, hk, hA', x0, hx1, hk1]
   refine PF.call (halted_PF ⟨cs, st, es, 0⟩ 2) 9 (by simp [lePs, -List.length_flatten, -List.map_drop, -List.map_take, Function.comp_def, len_flat]) ?_
   simp (maxSteps := 3000000) [-List.length_flatten,-List.map_drop,-List.map_take,Function.comp_def,argsT,Opd.ev,Tm.get,put,ares,mapMo,ares1,snilP,bldParts,bslParts,putAt,AV.cells,AV.one,astore,aload,loadCs,callArgs,abin,abinInt,aapp,elems,appMore,appNone,preLen,aFa,aFld,apart,aExt,aPick,aNot,aLens,aEqa,cellsK,fitsA,LK.fitsA,leavesA,leafA,nilD,aNilc,aCint,aCid,alive,alen,alenOk,Rle,lePs,len_flat, Kc]
 ·rw [show doneF p cs s = (holdF cs (ix p s.x) ⟨0, 2, fx p s.y⟩, 0) by simp [doneF, hk]]
  have hpf := func65_PF p (by have := hn.funs; omega) s.y
  simp (maxSteps := 3000000) [-List.length_flatten,-List.map_drop,-List.map_take,Function.comp_def,argsT,Opd.ev,Tm.get,put,ares,mapMo,ares1,snilP,bldParts,bslParts,putAt,AV.cells,AV.one,astore,aload,loadCs,callArgs,abin,abinInt,aapp,elems,appMore,appNone,preLen,aFa,aFld,apart,aExt,aPick,aNot,aLens,aEqa,cellsK,fitsA,LK.fitsA,leavesA,leafA,nilD,aNilc,aCint,aCid,alive,alen,alenOk,Rle,lePs,len_flat, Kc, hk]
  refine ⟨_, hpf, ?_⟩
  simp (maxSteps := 3000000) [-List.length_flatten,-List.map_drop,-List.map_take,Function.comp_def,argsT,Opd.ev,Tm.get,put,ares,mapMo,ares1,snilP,bldParts,bslParts,putAt,AV.cells,AV.one,astore,aload,loadCs,callArgs,abin,abinInt,aapp,elems,appMore,appNone,preLen,aFa,aFld,apart,aExt,aPick,aNot,aLens,aEqa,cellsK,fitsA,LK.fitsA,leavesA,leafA,nilD,aNilc,aCint,aCid,alive,alen,alenOk,Rle,lePs,len_flat, Kc]
  refine ⟨_, hold cs (ix p s.x) ⟨0, 2, fx p s.y⟩ x0 hx1 (by omega), ?_⟩
  simp (maxSteps := 3000000) [-List.length_flatten,-List.map_drop,-List.map_take,Function.comp_def,argsT,Opd.ev,Tm.get,put,ares,mapMo,ares1,snilP,bldParts,bslParts,putAt,AV.cells,AV.one,astore,aload,loadCs,callArgs,abin,abinInt,aapp,elems,appMore,appNone,preLen,aFa,aFld,apart,aExt,aPick,aNot,aLens,aEqa,cellsK,fitsA,LK.fitsA,leavesA,leafA,nilD,aNilc,aCint,aCid,alive,alen,alenOk,Rle,lePs,len_flat, Kc]
end Go.AM

namespace Go.AM
open Go.Proofs
set_option maxRecDepth 100000
set_option linter.unusedVariables false
set_option linter.unusedSimpArgs false
/-! ### The document's call -/
theorem fstAt_inE {l : List Ed} {e : Ed} : 0 ≤ fstAt (fun x => decide (x = e)) l ↔ e ∈ l := by
 constructor
 ·intro h
  refine Classical.byContradiction fun hn => ?_
  have : fstAt (fun x => decide (x = e)) l = -1 := fstAt_none fun j hj => by
   have hm := gi_mem hj
   simp only [decide_eq_false_iff_not]
   exact fun e' => hn (e' ▸ hm)
  omega
 ·intro hm
  exact (fstAt_range (P := fun x => decide (x = e)) ⟨e, hm, by simp⟩).1
theorem call28_PF {p : Pg} (hn : Neat p) {cs : List Cl} {st : List Ps} {es : List Ed} {i : Int} (hc : CsOk p cs) (i0 : 0 ≤ i) (i1 : i < p.l.length) (hs : StOk p (gi p.l i)) (hk : (gi p.l i).kind = 7) (hst0 : 0 < st.length) (hst : st.length ≤ 20) (hes : es.length ≤ 100000)
  (hpar : ∀ f ∈ p.funs, ∀ a ∈ f.params, 0 ≤ ix p a ∧ ix p a < (varsOf p).length) :
  PF Tryz.prog 28 [.agg p.cs, strs (varsOf p), .agg (⟨cs, st, es, 0⟩ : Mc).cs, i64 i] (.agg (⟨(callF p cs st es i (gi p.l i)).1, (callF p cs st es i (gi p.l i)).2.1, (callF p cs st es i (gi p.l i)).2.2.1, (callF p cs st es i (gi p.l i)).2.2.2⟩ : Mc).cs) := by
 refine PFk 9 hm Tryz.func28 c28_ok (Nat.le_of_ble_eq_true rfl) (by simp) (mc_RL _ _) ?_
 have hfew := hc.few
 have hA' : cs.length ≤ maxA := by unfold maxA; omega
 have hv := hc.vars
 have hvA : (varsOf p).length ≤ maxA := by omega
 have hfu := hn.funs
 have hll := hn.l
 have hfA : p.funs.length ≤ maxA := by unfold maxA; omega
 have hlA : p.l.length ≤ maxA := by unfold maxA; omega
 obtain ⟨y0, y1⟩ := hs.y (by omega) (by omega)
 have hy1 : ix p (gi p.l i).y < cs.length := by omega
 have hcv := hc.vals _ (giz_mem y0 hy1)
 have aty := atv_PF p (gi p.l i).y
 have haf := hs.few
 have hargA : (gi p.l i).args.length ≤ maxA := by unfold maxA; omega
 have hargs := hs.args
 generalize hsg : gi p.l i = s at *
 simp (maxSteps := 3000000) [-List.length_flatten,-List.map_drop,-List.map_take,Function.comp_def,argsT,Opd.ev,Tm.get,put,ares,mapMo,ares1,snilP,bldParts,bslParts,putAt,AV.cells,AV.one,astore,aload,loadCs,callArgs,abin,abinInt,aapp,elems,appMore,appNone,preLen,aFa,aFld,apart,aExt,aPick,aNot,aLens,aEqa,cellsK,fitsA,LK.fitsA,leavesA,leafA,nilD,aNilc,aCint,aCid,alive,alen,alenOk,Rle,lePs,len_flat, c28, i0, i1, hsg, hlA]
 refine ⟨_, aty, ?_⟩
 have hcm := fun (h : (gi cs (ix p s.y)).kind = 2) => hcv.2.2.2.2 h
 generalize hcc : gi cs (ix p s.y) = c at *
 by_cases k2 : c.kind = 2
 ·obtain ⟨v0, v1⟩ := hcm k2
  have hfm := giz_mem v0 v1
  have hpl := hn.params _ hfm
  have hparA : (gi p.funs c.v).params.length ≤ maxA := by unfold maxA; omega
  by_cases hpa : (gi p.funs c.v).params.length = s.args.length
  ·by_cases h20 : 20 ≤ st.length
   ·have e : callF p cs st es i s = (cs, st, es, 4) := by unfold callF; rw [hcc, if_pos ⟨k2, hpa⟩, if_pos h20]
    have h20' : (20 : Int) ≤ st.length := by omega
    have hsA : st.length ≤ maxA := by unfold maxA; omega
    rw [e]
    simp (maxSteps := 3000000) [-List.length_flatten,-List.map_drop,-List.map_take,Function.comp_def,argsT,Opd.ev,Tm.get,put,ares,mapMo,ares1,snilP,bldParts,bslParts,putAt,AV.cells,AV.one,astore,aload,loadCs,callArgs,abin,abinInt,aapp,elems,appMore,appNone,preLen,aFa,aFld,apart,aExt,aPick,aNot,aLens,aEqa,cellsK,fitsA,LK.fitsA,leavesA,leafA,nilD,aNilc,aCint,aCid,alive,alen,alenOk,Rle,lePs,len_flat, Kc, y0, hy1, hcc, k2, v0, v1, hpa, hargA, hparA, hA', hfA, h20', hsA]
    refine PF.call (halted_PF ⟨cs, st, es, 0⟩ 4) 9 (by simp [lePs, -List.length_flatten, -List.map_drop, -List.map_take, Function.comp_def, len_flat]) ?_
    simp (maxSteps := 3000000) [-List.length_flatten,-List.map_drop,-List.map_take,Function.comp_def,argsT,Opd.ev,Tm.get,put,ares,mapMo,ares1,snilP,bldParts,bslParts,putAt,AV.cells,AV.one,astore,aload,loadCs,callArgs,abin,abinInt,aapp,elems,appMore,appNone,preLen,aFa,aFld,apart,aExt,aPick,aNot,aLens,aEqa,cellsK,fitsA,LK.fitsA,leavesA,leafA,nilD,aNilc,aCint,aCid,alive,alen,alenOk,Rle,lePs,len_flat, Kc]
   ·have h20' : ¬ (20 : Int) ≤ st.length := by omega
    have hsA : st.length + 1 ≤ maxA := by unfold maxA; omega
    have hsA' : st.length ≤ maxA := by omega
    have e : callF p cs st es i s = (passN p cs (gi p.funs c.v).params s.args s.args.length, st ++ [⟨c.v, 0, i⟩], (if 0 ≤ fstAt (fun x => decide (x = ⟨i, c.v⟩)) es then es else es ++ [⟨i, c.v⟩]), 0) := by
     unfold callF; rw [hcc, if_pos ⟨k2, hpa⟩, if_neg h20]
    rw [e]
    generalize hQ : Rle 9 (.agg (⟨passN p cs (gi p.funs c.v).params s.args s.args.length, st ++ [⟨c.v, 0, i⟩], (if 0 ≤ fstAt (fun x => decide (x = ⟨i, c.v⟩)) es then es else es ++ [⟨i, c.v⟩]), 0⟩ : Mc).cs) = Q
    simp (maxSteps := 3000000) [-List.length_flatten,-List.map_drop,-List.map_take,Function.comp_def,argsT,Opd.ev,Tm.get,put,ares,mapMo,ares1,snilP,bldParts,bslParts,putAt,AV.cells,AV.one,astore,aload,loadCs,callArgs,abin,abinInt,aapp,elems,appMore,appNone,preLen,aFa,aFld,apart,aExt,aPick,aNot,aLens,aEqa,cellsK,fitsA,LK.fitsA,leavesA,leafA,nilD,aNilc,aCint,aCid,alive,alen,alenOk,Rle,lePs,len_flat, Kc, y0, hy1, hcc, k2, v0, v1, hpa, hargA, hparA, hA', hfA, h20', hsA']
    refine run_loopK (fun m T H => ∃ k : Nat, m = s.args.length - k ∧ k ≤ s.args.length ∧ T = [(12, i64 k), (11, .ptr 5 0 0), (10, .ptr 4 0 0), (9, .ptr 3 0 0), (8, .ptr 2 0 0), (6, .ptr 1 0 0), (4, .ptr 0 0 0), (1, strs (varsOf p)), (3, i64 i)] ∧
      H = [.cells 0 p.cs, .cells 0 (⟨cs, st, es, 0⟩ : Mc).cs, .cells 0 [.nilS, .nilS, .nilS, i64 0], .cells 0 s.cs, .cells 0 [i64 c.loc, i64 2, i64 c.v], .cells 0 (⟨passN p cs (gi p.funs c.v).params s.args k, st, es, 0⟩ : Mc).cs])
     s.args.length [(12, i64 (0 : Nat)), (11, .ptr 5 0 0), (10, .ptr 4 0 0), (9, .ptr 3 0 0), (8, .ptr 2 0 0), (6, .ptr 1 0 0), (4, .ptr 0 0 0), (1, strs (varsOf p)), (3, i64 i)] [.cells 0 p.cs, .cells 0 (⟨cs, st, es, 0⟩ : Mc).cs, .cells 0 [.nilS, .nilS, .nilS, i64 0], .cells 0 s.cs, .cells 0 [i64 c.loc, i64 2, i64 c.v], .cells 0 (⟨cs, st, es, 0⟩ : Mc).cs]
     (Wk.sub (by simp [Tm.get])) ⟨0, rfl, Nat.zero_le _, rfl, rfl⟩ ?_
    rintro m T H ⟨k, rfl, hkl, rfl, rfl⟩ KK kx kr kn
    have hpn := passN_len p cs (gi p.funs c.v).params s.args k
    by_cases hlt : k < s.args.length
    ·have hltp : k < (gi p.funs c.v).params.length := by omega
     have h1 := hpar _ hfm _ (gi_mem hltp)
     have h2 := hargs _ (gi_mem hlt)
     have h2' : ix p (gi s.args k) < cs.length := by omega
     have hho := hold63_PF ⟨passN p cs (gi p.funs c.v).params s.args k, st, es, 0⟩ (ix p (gi (gi p.funs c.v).params k)) (gi cs (ix p (gi s.args k))) h1.1 (by simp only; rw [hpn]; omega) (by simp only; rw [hpn]; omega)
     have hnx := nxt hlt hargA
     simp (maxSteps := 3000000) [-List.length_flatten,-List.map_drop,-List.map_take,Function.comp_def,argsT,Opd.ev,Tm.get,put,ares,mapMo,ares1,snilP,bldParts,bslParts,putAt,AV.cells,AV.one,astore,aload,loadCs,callArgs,abin,abinInt,aapp,elems,appMore,appNone,preLen,aFa,aFld,apart,aExt,aPick,aNot,aLens,aEqa,cellsK,fitsA,LK.fitsA,leavesA,leafA,nilD,aNilc,aCint,aCid,alive,alen,alenOk,Rle,lePs,len_flat, hlt, hargA, v0, v1, hfA, hltp, hparA]
     refine ⟨_, atv_PF p (gi (gi p.funs c.v).params k), ?_⟩
     simp (maxSteps := 3000000) [-List.length_flatten,-List.map_drop,-List.map_take,Function.comp_def,argsT,Opd.ev,Tm.get,put,ares,mapMo,ares1,snilP,bldParts,bslParts,putAt,AV.cells,AV.one,astore,aload,loadCs,callArgs,abin,abinInt,aapp,elems,appMore,appNone,preLen,aFa,aFld,apart,aExt,aPick,aNot,aLens,aEqa,cellsK,fitsA,LK.fitsA,leavesA,leafA,nilD,aNilc,aCint,aCid,alive,alen,alenOk,Rle,lePs,len_flat, Kc, hlt, hargA]
     refine ⟨_, atv_PF p (gi s.args k), ?_⟩
     simp (maxSteps := 3000000) [-List.length_flatten,-List.map_drop,-List.map_take,Function.comp_def,argsT,Opd.ev,Tm.get,put,ares,mapMo,ares1,snilP,bldParts,bslParts,putAt,AV.cells,AV.one,astore,aload,loadCs,callArgs,abin,abinInt,aapp,elems,appMore,appNone,preLen,aFa,aFld,apart,aExt,aPick,aNot,aLens,aEqa,cellsK,fitsA,LK.fitsA,leavesA,leafA,nilD,aNilc,aCint,aCid,alive,alen,alenOk,Rle,lePs,len_flat, Kc, h2.1, h2', hA']
     refine ⟨_, hho, ?_⟩
     simp (maxSteps := 3000000) [-List.length_flatten,-List.map_drop,-List.map_take,Function.comp_def,argsT,Opd.ev,Tm.get,put,ares,mapMo,ares1,snilP,bldParts,bslParts,putAt,AV.cells,AV.one,astore,aload,loadCs,callArgs,abin,abinInt,aapp,elems,appMore,appNone,preLen,aFa,aFld,apart,aExt,aPick,aNot,aLens,aEqa,cellsK,fitsA,LK.fitsA,leavesA,leafA,nilD,aNilc,aCint,aCid,alive,alen,alenOk,Rle,lePs,len_flat, Kc]
     exact kn _ _ (Kl_next (s.args.length - (k + 1)) 6 (by omega) ⟨k + 1, rfl, hlt, rfl, rfl⟩ (by simp [Tm.get, hnx]) (by simp) rfl (by
      simp only [al_cons, al_nil, and_true]
      exact ⟨by simp [RLB], mcs_RL _ _, by simp [RLB], by simp [RLB], by simp [RLB], mcs_RL _ _⟩) (by omega))
    ·have ek : k = s.args.length := by omega
     subst ek
     simp (maxSteps := 3000000) [-List.length_flatten,-List.map_drop,-List.map_take,Function.comp_def,argsT,Opd.ev,Tm.get,put,ares,mapMo,ares1,snilP,bldParts,bslParts,putAt,AV.cells,AV.one,astore,aload,loadCs,callArgs,abin,abinInt,aapp,elems,appMore,appNone,preLen,aFa,aFld,apart,aExt,aPick,aNot,aLens,aEqa,cellsK,fitsA,LK.fitsA,leavesA,leafA,nilD,aNilc,aCint,aCid,alive,alen,alenOk,Rle,lePs,len_flat, hlt, hargA, kx]
     refine PF.call (in31_PF es ⟨i, c.v⟩) 9 (by simp [lePs, -List.length_flatten, -List.map_drop, -List.map_take, Function.comp_def, len_flat]) ?_
     generalize passN p cs (gi p.funs c.v).params s.args s.args.length = pc at *
     have hsf : ((st.map Ps.cs).flatten).length = st.length * 3 := len_flat (by simp)
     have hstk : (st.map Ps.cs).flatten.take (st.length * 3) = (st.map Ps.cs).flatten := List.take_of_length_le (by omega)
     have hsap : (st.map Ps.cs).flatten ++ [i64 c.v, i64 0, i64 i] = ((st ++ [(⟨c.v, 0, i⟩ : Ps)]).map Ps.cs).flatten := by simp
     have hsl : (st ++ [(⟨c.v, 0, i⟩ : Ps)]).length = st.length + 1 := by simp
     have hne : st ≠ [] := fun e => by rw [e] at hst0; simp at hst0
     have heA : es.length + 1 ≤ maxA := by unfold maxA; omega
     have heA' : es.length ≤ maxA := by omega
     by_cases hin : (⟨i, c.v⟩ : Ed) ∈ es
     ·have hin2 := fstAt_inE.2 hin
      rw [if_pos hin2] at hQ
      have hfin : ∀ H a b, Tells Cl.cs 3 H a pc → Tells Ps.cs 3 H b (st ++ [⟨c.v, 0, i⟩]) → Tells Ed.cs 2 H (pairs es) es → Q (.agg [a, b, pairs es, i64 0]) H := fun H a b q1 q2 q3 => by
       rw [← hQ]
       exact Rle_mc ⟨pc, st ++ [⟨c.v, 0, i⟩], es, 0⟩ q1 q2 q3
      clear hQ
      simp (maxSteps := 3000000) [-List.length_flatten,-List.map_drop,-List.map_take,Function.comp_def,argsT,Opd.ev,Tm.get,put,ares,mapMo,ares1,snilP,bldParts,bslParts,putAt,AV.cells,AV.one,astore,aload,loadCs,callArgs,abin,abinInt,aapp,elems,appMore,appNone,preLen,aFa,aFld,apart,aExt,aPick,aNot,aLens,aEqa,cellsK,fitsA,LK.fitsA,leavesA,leafA,nilD,aNilc,aCint,aCid,alive,alen,alenOk,Rle,lePs,len_flat, Kc, hin, hne, disP_cons, indB, apartB, apartS, refA, aliveRd, hsA, hsA', chunk, hsf, hstk]
      refine fun _ => ?_
      rw [hsap]
      exact hfin _ _ _ (.inl rfl) (.inr ⟨6, 1, by rw [hsl], by simp⟩) (.inl rfl)
     ·have hin2 : ¬ 0 ≤ fstAt (fun x => decide (x = (⟨i, c.v⟩ : Ed))) es := fun h => hin (fstAt_inE.1 h)
      rw [if_neg hin2] at hQ
      have hfin : ∀ H a b d, Tells Cl.cs 3 H a pc → Tells Ps.cs 3 H b (st ++ [⟨c.v, 0, i⟩]) → Tells Ed.cs 2 H d (es ++ [⟨i, c.v⟩]) → Q (.agg [a, b, d, i64 0]) H := fun H a b d q1 q2 q3 => by
       rw [← hQ]
       exact Rle_mc ⟨pc, st ++ [⟨c.v, 0, i⟩], es ++ [⟨i, c.v⟩], 0⟩ q1 q2 q3
      clear hQ
      have hef : ((es.map Ed.cs).flatten).length = es.length * 2 := len_flat (by simp)
      have hetk : (es.map Ed.cs).flatten.take (es.length * 2) = (es.map Ed.cs).flatten := List.take_of_length_le (by omega)
      have heap : (es.map Ed.cs).flatten ++ [i64 i, i64 c.v] = ((es ++ [(⟨i, c.v⟩ : Ed)]).map Ed.cs).flatten := by simp
      have hel : (es ++ [(⟨i, c.v⟩ : Ed)]).length = es.length + 1 := by simp
      by_cases he0 : es = []
      ·subst he0
       simp (maxSteps := 3000000) [-List.length_flatten,-List.map_drop,-List.map_take,Function.comp_def,argsT,Opd.ev,Tm.get,put,ares,mapMo,ares1,snilP,bldParts,bslParts,putAt,AV.cells,AV.one,astore,aload,loadCs,callArgs,abin,abinInt,aapp,elems,appMore,appNone,preLen,aFa,aFld,apart,aExt,aPick,aNot,aLens,aEqa,cellsK,fitsA,LK.fitsA,leavesA,leafA,nilD,aNilc,aCint,aCid,alive,alen,alenOk,Rle,lePs,len_flat, Kc, hin, hne, disP_cons, indB, apartB, apartS, refA, aliveRd, hsA, hsA', chunk, hsf, hstk]
       refine fun h1A => ⟨h1A, fun _ => ?_⟩
       rw [hsap]
       exact hfin _ _ _ _ (.inl rfl) (.inr ⟨7, 1, by rw [hsl], by simp⟩) (.inr ⟨6, 0, rfl, by simp⟩)
      ·simp (maxSteps := 3000000) [-List.length_flatten,-List.map_drop,-List.map_take,Function.comp_def,argsT,Opd.ev,Tm.get,put,ares,mapMo,ares1,snilP,bldParts,bslParts,putAt,AV.cells,AV.one,astore,aload,loadCs,callArgs,abin,abinInt,aapp,elems,appMore,appNone,preLen,aFa,aFld,apart,aExt,aPick,aNot,aLens,aEqa,cellsK,fitsA,LK.fitsA,leavesA,leafA,nilD,aNilc,aCint,aCid,alive,alen,alenOk,Rle,lePs,len_flat, Kc, hin, hne, he0, disP_cons, indB, apartB, apartS, refA, aliveRd, hsA, hsA', chunk, hsf, hstk, hef, hetk, heA, heA']
       refine fun _ => ?_
       rw [hsap, heap]
       exact hfin _ _ _ _ (.inl rfl) (.inr ⟨7, 1, by rw [hsl], by simp⟩) (.inr ⟨6, 1, by rw [hel], by simp⟩)
  ·have e : callF p cs st es i s = (cs, st, es, 3) := by unfold callF; rw [hcc, if_neg (fun h => hpa h.2)]
   have hpa' : ¬ ((gi p.funs c.v).params.length : Int) = s.args.length := by omega
   rw [e]
   simp (maxSteps := 3000000) [-List.length_flatten,-List.map_drop,-List.map_take,Function.comp_def,argsT,Opd.ev,Tm.get,put,ares,mapMo,ares1,snilP,bldParts,bslParts,putAt,AV.cells,AV.one,astore,aload,loadCs,callArgs,abin,abinInt,aapp,elems,appMore,appNone,preLen,aFa,aFld,apart,aExt,aPick,aNot,aLens,aEqa,cellsK,fitsA,LK.fitsA,leavesA,leafA,nilD,aNilc,aCint,aCid,alive,alen,alenOk,Rle,lePs,len_flat, Kc, y0, hy1, hcc, k2, v0, v1, hpa', hargA, hparA, hA', hfA]
   refine PF.call (halted_PF ⟨cs, st, es, 0⟩ 3) 9 (by simp [lePs, -List.length_flatten, -List.map_drop, -List.map_take, Function.comp_def, len_flat]) ?_
   simp (maxSteps := 3000000) [-List.length_flatten,-List.map_drop,-List.map_take,Function.comp_def,argsT,Opd.ev,Tm.get,put,ares,mapMo,ares1,snilP,bldParts,bslParts,putAt,AV.cells,AV.one,astore,aload,loadCs,callArgs,abin,abinInt,aapp,elems,appMore,appNone,preLen,aFa,aFld,apart,aExt,aPick,aNot,aLens,aEqa,cellsK,fitsA,LK.fitsA,leavesA,leafA,nilD,aNilc,aCint,aCid,alive,alen,alenOk,Rle,lePs,len_flat, Kc]
 ·have e : callF p cs st es i s = (cs, st, es, 3) := by unfold callF; rw [hcc, if_neg (fun h => k2 h.1)]
  rw [e]
  simp (maxSteps := 3000000) [-List.length_flatten,-List.map_drop,-List.map_take,Function.comp_def,argsT,Opd.ev,Tm.get,put,ares,mapMo,ares1,snilP,bldParts,bslParts,putAt,AV.cells,AV.one,astore,aload,loadCs,callArgs,abin,abinInt,aapp,elems,appMore,appNone,preLen,aFa,aFld,apart,aExt,aPick,aNot,aLens,aEqa,cellsK,fitsA,LK.fitsA,leavesA,leafA,nilD,aNilc,aCint,aCid,alive,alen,alenOk,Rle,lePs,len_flat, Kc, y0, hy1, hcc, k2, hA']
  refine PF.call (halted_PF ⟨cs, st, es, 0⟩ 3) 9 (by simp [lePs, -List.length_flatten, -List.map_drop, -List.map_take, Function.comp_def, len_flat]) ?_
  simp (maxSteps := 3000000) [-List.length_flatten,-List.map_drop,-List.map_take,Function.comp_def,argsT,Opd.ev,Tm.get,put,ares,mapMo,ares1,snilP,bldParts,bslParts,putAt,AV.cells,AV.one,astore,aload,loadCs,callArgs,abin,abinInt,aapp,elems,appMore,appNone,preLen,aFa,aFld,apart,aExt,aPick,aNot,aLens,aEqa,cellsK,fitsA,LK.fitsA,leavesA,leafA,nilD,aNilc,aCint,aCid,alive,alen,alenOk,Rle,lePs,len_flat, Kc]
end Go.AM

namespace Go.AM
open Go.Proofs
set_option maxRecDepth 100000
set_option linter.unusedVariables false
set_option linter.unusedSimpArgs false
/-! ### The document's end of a body, and choice -/
theorem ended30_PF {p : Pg} (hn : Neat p) {cs : List Cl} {st : List Ps} {es : List Ed} (hc : CsOk p cs) (hst : 0 < st.length) (hst2 : st.length ≤ 20) (ha : ∀ t ∈ st, 0 ≤ t.at' ∧ t.at' ≤ 1000)
  (hb : 0 ≤ (gi st (st.length - 1 : Nat)).body → 1 < st.length ∧ (gi st (st.length - 1 : Nat)).body < p.funs.length ∧ 0 ≤ (gi st (st.length - 1 : Nat)).call ∧ (gi st (st.length - 1 : Nat)).call < p.l.length ∧
   (0 ≤ ix p (gi p.l (gi st (st.length - 1 : Nat)).call).x ∧ ix p (gi p.l (gi st (st.length - 1 : Nat)).call).x < (varsOf p).length) ∧ (0 ≤ ix p (gi p.funs (gi st (st.length - 1 : Nat)).body).ret ∧ ix p (gi p.funs (gi st (st.length - 1 : Nat)).body).ret < (varsOf p).length)) :
  PF Tryz.prog 30 [.agg p.cs, strs (varsOf p), .agg (⟨cs, st, es, 0⟩ : Mc).cs] (.agg (if (gi st (st.length - 1 : Nat)).body < 0 then (⟨cs, st, es, 1⟩ : Mc) else
   ⟨holdF cs (ix p (gi p.l (gi st (st.length - 1 : Nat)).call).x) (gi cs (ix p (gi p.funs (gi st (st.length - 1 : Nat)).body).ret)), moveF (st.take (st.length - 1)) (st.length - 2) ((gi st (st.length - 2 : Nat)).at' + 1), es, 0⟩).cs) := by
 refine PFk 9 hm Tryz.func30 c30_ok (Nat.le_of_ble_eq_true rfl) (by simp) (mc_RL _ _) ?_
 have hfew := hc.few
 have hA' : cs.length ≤ maxA := by unfold maxA; omega
 have hv := hc.vars
 have hfu := hn.funs
 have hll := hn.l
 have hfA : p.funs.length ≤ maxA := by unfold maxA; omega
 have hlA : p.l.length ≤ maxA := by unfold maxA; omega
 have hsA : st.length ≤ maxA := by unfold maxA; omega
 have hw : IntKind.i64.wrap ((st.length : Int) - 1) = ((st.length - 1 : Nat) : Int) := by rw [w64 (by omega) (by omega)]; omega
 have hk : st.length - 1 < st.length := by omega
 obtain ⟨t, ht⟩ : ∃ t, gi st (st.length - 1 : Nat) = t := ⟨_, rfl⟩
 rw [ht] at hb ⊢
 by_cases hneg : t.body < 0
 ·rw [if_pos hneg]
  simp (maxSteps := 3000000) [-List.length_flatten,-List.map_drop,-List.map_take,Function.comp_def,argsT,Opd.ev,Tm.get,put,ares,mapMo,ares1,snilP,bldParts,bslParts,putAt,AV.cells,AV.one,astore,aload,loadCs,callArgs,abin,abinInt,aapp,elems,appMore,appNone,preLen,aFa,aFld,apart,aExt,aPick,aNot,aLens,aEqa,cellsK,fitsA,LK.fitsA,leavesA,leafA,nilD,aNilc,aCint,aCid,alive,alen,alenOk,Rle,lePs,len_flat, c30, hsA, hw, hk, ht, hneg]
  refine PF.call (halted_PF ⟨cs, st, es, 0⟩ 1) 9 (by simp [lePs, -List.length_flatten, -List.map_drop, -List.map_take, Function.comp_def, len_flat]) ?_
  simp (maxSteps := 3000000) [-List.length_flatten,-List.map_drop,-List.map_take,Function.comp_def,argsT,Opd.ev,Tm.get,put,ares,mapMo,ares1,snilP,bldParts,bslParts,putAt,AV.cells,AV.one,astore,aload,loadCs,callArgs,abin,abinInt,aapp,elems,appMore,appNone,preLen,aFa,aFld,apart,aExt,aPick,aNot,aLens,aEqa,cellsK,fitsA,LK.fitsA,leavesA,leafA,nilD,aNilc,aCint,aCid,alive,alen,alenOk,Rle,lePs,len_flat, Kc]
 ·rw [if_neg hneg]
  obtain ⟨h1, b1, c0, c1, ⟨x0, x1⟩, ⟨r0, r1⟩⟩ := hb (by omega)
  have hneg' : 0 ≤ t.body := by omega
  have hx1 : ix p (gi p.l t.call).x < cs.length := by omega
  have hr1 : ix p (gi p.funs t.body).ret < cs.length := by omega
  have hho := hold63_PF ⟨cs, st, es, 0⟩ (ix p (gi p.l t.call).x) (gi cs (ix p (gi p.funs t.body).ret)) x0 hx1 (by simp only; omega)
  generalize holdF cs (ix p (gi p.l t.call).x) (gi cs (ix p (gi p.funs t.body).ret)) = cs2 at *
  have htl : (st.take (st.length - 1)).length = st.length - 1 := by simp
  have hk2 : st.length - 1 - 1 < st.length - 1 := by omega
  have hw2 : IntKind.i64.wrap (((st.length - 1 : Nat) : Int) - 1) = ((st.length - 1 - 1 : Nat) : Int) := by rw [w64 (by omega) (by omega)]; omega
  have hat : gi (st.take (st.length - 1)) (st.length - 1 - 1 : Nat) = gi st (st.length - 2 : Nat) := by
   rw [show st.length - 1 - 1 = st.length - 2 by omega]
   have : st.length - 2 < st.length - 1 := by omega
   have h3 : st.length - 2 < st.length := by omega
   simp [gi, List.getD, List.getElem?_take, this, h3]
  simp (maxSteps := 3000000) [-List.length_flatten,-List.map_drop,-List.map_take,Function.comp_def,argsT,Opd.ev,Tm.get,put,ares,mapMo,ares1,snilP,bldParts,bslParts,putAt,AV.cells,AV.one,astore,aload,loadCs,callArgs,abin,abinInt,aapp,elems,appMore,appNone,preLen,aFa,aFld,apart,aExt,aPick,aNot,aLens,aEqa,cellsK,fitsA,LK.fitsA,leavesA,leafA,nilD,aNilc,aCint,aCid,alive,alen,alenOk,Rle,lePs,len_flat, c30, hsA, hw, hk, ht, hneg, c0, c1, hlA, hfA, hneg', b1]
  refine ⟨_, atv_PF p (gi p.l t.call).x, ?_⟩
  simp (maxSteps := 3000000) [-List.length_flatten,-List.map_drop,-List.map_take,Function.comp_def,argsT,Opd.ev,Tm.get,put,ares,mapMo,ares1,snilP,bldParts,bslParts,putAt,AV.cells,AV.one,astore,aload,loadCs,callArgs,abin,abinInt,aapp,elems,appMore,appNone,preLen,aFa,aFld,apart,aExt,aPick,aNot,aLens,aEqa,cellsK,fitsA,LK.fitsA,leavesA,leafA,nilD,aNilc,aCint,aCid,alive,alen,alenOk,Rle,lePs,len_flat, Kc, hfA, hneg', b1]
  refine ⟨_, atv_PF p (gi p.funs t.body).ret, ?_⟩
  simp (maxSteps := 3000000) [-List.length_flatten,-List.map_drop,-List.map_take,Function.comp_def,argsT,Opd.ev,Tm.get,put,ares,mapMo,ares1,snilP,bldParts,bslParts,putAt,AV.cells,AV.one,astore,aload,loadCs,callArgs,abin,abinInt,aapp,elems,appMore,appNone,preLen,aFa,aFld,apart,aExt,aPick,aNot,aLens,aEqa,cellsK,fitsA,LK.fitsA,leavesA,leafA,nilD,aNilc,aCint,aCid,alive,alen,alenOk,Rle,lePs,len_flat, Kc, r0, hr1, hA']
  refine ⟨_, hho, ?_⟩
  have hsA1 : st.length - 1 ≤ maxA := by omega
  have h2m : st.length - 2 < st.length := by omega
  have hat2 := ha _ (gi_mem h2m)
  have hmv := moved27_PF ⟨cs2, st.take (st.length - 1), es, 0⟩ ((gi st (st.length - 2 : Nat)).at' + 1) (by simp only; rw [htl]; omega) (by simp only; rw [htl]; omega)
  simp only at hmv
  rw [htl, show st.length - 1 - 1 = st.length - 2 by omega] at hmv
  rw [show st.length - 1 - 1 = st.length - 2 by omega] at hw2 hat hk2
  have hwa : IntKind.i64.wrap ((gi st (st.length - 2 : Nat)).at' + 1) = (gi st (st.length - 2 : Nat)).at' + 1 := by rw [w64 (by omega) (by omega)]
  simp (maxSteps := 3000000) [-List.length_flatten,-List.map_drop,-List.map_take,Function.comp_def,argsT,Opd.ev,Tm.get,put,ares,mapMo,ares1,snilP,bldParts,bslParts,putAt,AV.cells,AV.one,astore,aload,loadCs,callArgs,abin,abinInt,aapp,elems,appMore,appNone,preLen,aFa,aFld,apart,aExt,aPick,aNot,aLens,aEqa,cellsK,fitsA,LK.fitsA,leavesA,leafA,nilD,aNilc,aCint,aCid,alive,alen,alenOk,Rle,lePs,len_flat, Kc, hsA, hw, hk, htl, hw2, hk2, hat, hwa, hsA1]
  refine ⟨_, hmv, ?_⟩
  simp (maxSteps := 3000000) [-List.length_flatten,-List.map_drop,-List.map_take,Function.comp_def,argsT,Opd.ev,Tm.get,put,ares,mapMo,ares1,snilP,bldParts,bslParts,putAt,AV.cells,AV.one,astore,aload,loadCs,callArgs,abin,abinInt,aapp,elems,appMore,appNone,preLen,aFa,aFld,apart,aExt,aPick,aNot,aLens,aEqa,cellsK,fitsA,LK.fitsA,leavesA,leafA,nilD,aNilc,aCint,aCid,alive,alen,alenOk,Rle,lePs,len_flat, Kc]
end Go.AM

namespace Go.AM
open Go.Proofs
set_option maxRecDepth 100000
set_option linter.unusedVariables false
set_option linter.unusedSimpArgs false
/-! ### The document's choice -/
theorem bodyN_app {l : List Stm} {b : Int} : ∀ {n i : Nat}, i ≤ n → ∃ r, bodyN l b n = bodyN l b i ++ r
 | 0, i, h => ⟨[], by rw [show i = 0 by omega]; simp⟩
 | n + 1, i, h => by
  rcases Nat.lt_or_ge n i with h1 | h1
  ·exact ⟨[], by rw [show i = n + 1 by omega]; simp⟩
  ·obtain ⟨r, hr⟩ := bodyN_app (l := l) (b := b) h1
   rw [bodyN]
   split
   ·exact ⟨r ++ [(n : Int)], by rw [hr, List.append_assoc]⟩
   ·exact ⟨r, hr⟩
theorem bodyN_at {l : List Stm} {b : Int} {n i : Nat} (hi : i < n) (hb : (gi l i).inn = b) : (bodyN l b i).length < (bodyN l b n).length ∧ gi (bodyN l b n) ((bodyN l b i).length : Nat) = i := by
 obtain ⟨r, hr⟩ := bodyN_app (l := l) (b := b) (n := n) (i := i + 1) hi
 have e : bodyN l b (i + 1) = bodyN l b i ++ [(i : Int)] := by rw [bodyN, if_pos hb]
 rw [hr, e]
 refine ⟨by simp, ?_⟩
 simp [gi, List.getD]
theorem at_few {p : Pg} (hp : Of p) {m : Mc} (h : MOk p m) : ∀ t ∈ m.stack, 0 ≤ t.at' ∧ t.at' ≤ 1000 := by
 intro t ht
 obtain ⟨j, hj, rfl⟩ := List.getElem_of_mem ht
 have := h.pos j hj
 have e : gi m.stack (j : Int) = m.stack[j] := by simp [gi, List.getD, hj]
 rw [e] at this
 have h2 := body_len p m.stack[j].body
 have h3 := hp.neat.l
 omega
theorem rdo_PF {p : Pg} (hp : Of p) {m : Mc} (h : MOk p m) (c : Int) : PF Tryz.prog 9 [.agg p.cs, .agg m.cs, i64 c] (.agg (doF p m c).cs) := by
 have ho := h.one
 have hf := h.few
 have hkl : m.stack.length - 1 < m.stack.length := by omega
 have hpos := h.pos (m.stack.length - 1) hkl
 refine PFk 9 hm Tryz.func9 c9_ok (Nat.le_of_ble_eq_true rfl) (by simp) (mc_RL _ _) ?_
 obtain ⟨cs, st, es, hl⟩ := m
 simp only at ho hf hkl hpos
 by_cases hh : hl = 0
 ·subst hh
  by_cases c0 : c < 0
  ·have e : doF p ⟨cs, st, es, 0⟩ c = ⟨cs, st, es, 0⟩ := by unfold doF; rw [if_pos (.inr (.inl c0))]
   rw [e]
   simp (maxSteps := 3000000) [-List.length_flatten,-List.map_drop,-List.map_take,Function.comp_def,argsT,Opd.ev,Tm.get,put,ares,mapMo,ares1,snilP,bldParts,bslParts,putAt,AV.cells,AV.one,astore,aload,loadCs,callArgs,abin,abinInt,aapp,elems,appMore,appNone,preLen,aFa,aFld,apart,aExt,aPick,aNot,aLens,aEqa,cellsK,fitsA,LK.fitsA,leavesA,leafA,nilD,aNilc,aCint,aCid,alive,alen,alenOk,Rle,lePs,len_flat, c9, c0]
  by_cases c2 : 2 < c
  ·have e : doF p ⟨cs, st, es, 0⟩ c = ⟨cs, st, es, 0⟩ := by unfold doF; rw [if_pos (.inr (.inr c2))]
   rw [e]
   simp (maxSteps := 3000000) [-List.length_flatten,-List.map_drop,-List.map_take,Function.comp_def,argsT,Opd.ev,Tm.get,put,ares,mapMo,ares1,snilP,bldParts,bslParts,putAt,AV.cells,AV.one,astore,aload,loadCs,callArgs,abin,abinInt,aapp,elems,appMore,appNone,preLen,aFa,aFld,apart,aExt,aPick,aNot,aLens,aEqa,cellsK,fitsA,LK.fitsA,leavesA,leafA,nilD,aNilc,aCint,aCid,alive,alen,alenOk,Rle,lePs,len_flat, c9, c0, c2]
  have hno : ¬ ((0 : Int) ≠ 0 ∨ c < 0 ∨ 2 < c) := by omega
  by_cases ce : c = 2
  ·have e : doF p ⟨cs, st, es, 0⟩ c = ⟨cs, moveF st (st.length - 1) 0, es, 0⟩ := by unfold doF; rw [if_neg hno, if_pos ce]
   rw [e]
   have hmv := moved27_PF ⟨cs, st, es, 0⟩ 0 (by simp only; omega) (by simp only; omega)
   simp (maxSteps := 3000000) [-List.length_flatten,-List.map_drop,-List.map_take,Function.comp_def,argsT,Opd.ev,Tm.get,put,ares,mapMo,ares1,snilP,bldParts,bslParts,putAt,AV.cells,AV.one,astore,aload,loadCs,callArgs,abin,abinInt,aapp,elems,appMore,appNone,preLen,aFa,aFld,apart,aExt,aPick,aNot,aLens,aEqa,cellsK,fitsA,LK.fitsA,leavesA,leafA,nilD,aNilc,aCint,aCid,alive,alen,alenOk,Rle,lePs,len_flat, c9, c0, c2, ce]
   refine PF.call hmv 9 (by simp [lePs, -List.length_flatten, -List.map_drop, -List.map_take, Function.comp_def, len_flat]) ?_
   simp (maxSteps := 3000000) [-List.length_flatten,-List.map_drop,-List.map_take,Function.comp_def,argsT,Opd.ev,Tm.get,put,ares,mapMo,ares1,snilP,bldParts,bslParts,putAt,AV.cells,AV.one,astore,aload,loadCs,callArgs,abin,abinInt,aapp,elems,appMore,appNone,preLen,aFa,aFld,apart,aExt,aPick,aNot,aLens,aEqa,cellsK,fitsA,LK.fitsA,leavesA,leafA,nilD,aNilc,aCint,aCid,alive,alen,alenOk,Rle,lePs,len_flat, Kc]
  have hsA : st.length ≤ maxA := by unfold maxA; omega
  have hll := hp.neat.l
  have hlA : p.l.length ≤ maxA := by unfold maxA; omega
  have hw : IntKind.i64.wrap ((st.length : Int) - 1) = ((st.length - 1 : Nat) : Int) := by rw [w64 (by omega) (by omega)]; omega
  have hbl := body_len p (gi st (st.length - 1 : Nat)).body
  obtain ⟨t, ht⟩ : ∃ t, gi st (st.length - 1 : Nat) = t := ⟨_, rfl⟩
  rw [ht] at hpos hbl
  have hwa : IntKind.i64.wrap (t.at' + 1) = t.at' + 1 := by rw [w64 (by omega) (by omega)]
  simp (maxSteps := 3000000) [-List.length_flatten,-List.map_drop,-List.map_take,Function.comp_def,argsT,Opd.ev,Tm.get,put,ares,mapMo,ares1,snilP,bldParts,bslParts,putAt,AV.cells,AV.one,astore,aload,loadCs,callArgs,abin,abinInt,aapp,elems,appMore,appNone,preLen,aFa,aFld,apart,aExt,aPick,aNot,aLens,aEqa,cellsK,fitsA,LK.fitsA,leavesA,leafA,nilD,aNilc,aCint,aCid,alive,alen,alenOk,Rle,lePs,len_flat, c9, c0, c2, ce]
  refine PF.call (vars_PF p hp.fits) 9 (by simp [lePs, -List.length_flatten, -List.map_drop, -List.map_take, Function.comp_def, len_flat]) ?_
  generalize hQ : Rle 9 (.agg (doF p ⟨cs, st, es, 0⟩ c).cs) = Q
  simp (maxSteps := 3000000) [-List.length_flatten,-List.map_drop,-List.map_take,Function.comp_def,argsT,Opd.ev,Tm.get,put,ares,mapMo,ares1,snilP,bldParts,bslParts,putAt,AV.cells,AV.one,astore,aload,loadCs,callArgs,abin,abinInt,aapp,elems,appMore,appNone,preLen,aFa,aFld,apart,aExt,aPick,aNot,aLens,aEqa,cellsK,fitsA,LK.fitsA,leavesA,leafA,nilD,aNilc,aCint,aCid,alive,alen,alenOk,Rle,lePs,len_flat, Kc, hsA, hw, hkl, ht]
  refine run_loopK (fun m T H => ∃ i : Nat, m = p.l.length - i ∧ i ≤ p.l.length ∧ ((bodyN p.l t.body i).length : Int) ≤ t.at' ∧ T = [(10, i64 i), (9, i64 (bodyN p.l t.body i).length), (8, .ptr 3 0 0), (7, strs (varsOf p)), (6, .ptr 2 0 0), (4, .ptr 1 0 0), (3, .ptr 0 0 0), (2, i64 c)] ∧
    H = [.cells 0 p.cs, .cells 0 (⟨cs, st, es, 0⟩ : Mc).cs, .cells 0 [.nilS, .nilS, .nilS, i64 0], .cells 0 t.cs])
   p.l.length [(10, i64 (0 : Nat)), (9, i64 (0 : Nat)), (8, .ptr 3 0 0), (7, strs (varsOf p)), (6, .ptr 2 0 0), (4, .ptr 1 0 0), (3, .ptr 0 0 0), (2, i64 c)] [.cells 0 p.cs, .cells 0 (⟨cs, st, es, 0⟩ : Mc).cs, .cells 0 [.nilS, .nilS, .nilS, i64 0], .cells 0 t.cs]
   (Wk.sub (by simp [Tm.get])) ⟨0, rfl, Nat.zero_le _, by simp [bodyN]; omega, rfl, rfl⟩ ?_
  rintro m T H ⟨i, rfl, hi, hb, rfl, rfl⟩ KK kx kr kn
  have hbn := bodyN_len p.l t.body i
  have hRl : al (RLB 4) [.cells 0 p.cs, .cells 0 (⟨cs, st, es, 0⟩ : Mc).cs, .cells 0 [.nilS, .nilS, .nilS, i64 0], .cells 0 t.cs] := by
   simp only [al_cons, al_nil, and_true]
   exact ⟨by simp [RLB], mcs_RL _ _, by simp [RLB], by simp [RLB]⟩
  by_cases hil : i < p.l.length
  ·have hnx := nxt hil hlA
   have hst := hp.stm hil
   by_cases hin : (gi p.l i).inn = t.body
   ·obtain ⟨q1, q2⟩ := bodyN_at hil hin
    have hbe : (bodyN p.l t.body (i + 1)).length = (bodyN p.l t.body i).length + 1 := by rw [bodyN, if_pos hin]; simp
    by_cases hka : ((bodyN p.l t.body i).length : Int) < t.at'
    ·have hwk : IntKind.i64.wrap (((bodyN p.l t.body i).length : Int) + 1) = ((bodyN p.l t.body (i + 1)).length : Int) := by rw [hbe, w64 (by omega) (by omega)]; simp
     simp (maxSteps := 3000000) [-List.length_flatten,-List.map_drop,-List.map_take,Function.comp_def,argsT,Opd.ev,Tm.get,put,ares,mapMo,ares1,snilP,bldParts,bslParts,putAt,AV.cells,AV.one,astore,aload,loadCs,callArgs,abin,abinInt,aapp,elems,appMore,appNone,preLen,aFa,aFld,apart,aExt,aPick,aNot,aLens,aEqa,cellsK,fitsA,LK.fitsA,leavesA,leafA,nilD,aNilc,aCint,aCid,alive,alen,alenOk,Rle,lePs,len_flat, hil, hlA, hin, hka]
     exact kn _ _ (Kl_next (p.l.length - (i + 1)) 4 (by omega) ⟨i + 1, rfl, hil, by rw [hbe]; omega, rfl, rfl⟩ (by simp [Tm.get, hnx, hwk]) (by simp) rfl hRl (by omega))
    ·have hat : t.at' = ((bodyN p.l t.body i).length : Int) := by omega
     have hlt : ¬ ((bodyOf p t.body).length : Int) ≤ t.at' := by unfold bodyOf; omega
     have hgi : gi (bodyOf p t.body) t.at' = i := by rw [hat]; exact q2
     have hdo : doF p ⟨cs, st, es, 0⟩ c = (if c = 1 then ⟨cs, moveF st (st.length - 1) (t.at' + 1), es, 0⟩ else if (gi p.l i).kind = 7 then ⟨(callF p cs st es i (gi p.l i)).1, (callF p cs st es i (gi p.l i)).2.1, (callF p cs st es i (gi p.l i)).2.2.1, (callF p cs st es i (gi p.l i)).2.2.2⟩
       else ⟨(doneF p cs (gi p.l i)).1, if (doneF p cs (gi p.l i)).2 = 0 then moveF st (st.length - 1) (t.at' + 1) else st, es, (doneF p cs (gi p.l i)).2⟩) := by
      unfold doF
      simp only
      rw [if_neg hno, if_neg ce, ht, if_neg hlt, hgi]
     have h' : MOk p ⟨cs, st, es, 0⟩ := h
     have hc := h'.cs
     simp only at hc
     rw [hdo] at hQ
     have hinT : ((gi p.l i).inn = t.body) = True := eq_true hin
     by_cases c1 : c = 1
     ·rw [if_pos c1] at hQ
      have hmv := moved27_PF ⟨cs, st, es, 0⟩ (t.at' + 1) (by simp only; omega) (by simp only; omega)
      simp only at hmv
      generalize moveF st (st.length - 1) (t.at' + 1) = st2 at *
      simp (maxSteps := 3000000) [-List.length_flatten,-List.map_drop,-List.map_take,Function.comp_def,argsT,Opd.ev,Tm.get,put,ares,mapMo,ares1,snilP,bldParts,bslParts,putAt,AV.cells,AV.one,astore,aload,loadCs,callArgs,abin,abinInt,aapp,elems,appMore,appNone,preLen,aFa,aFld,apart,aExt,aPick,aNot,aLens,aEqa,cellsK,fitsA,LK.fitsA,leavesA,leafA,nilD,aNilc,aCint,aCid,alive,alen,alenOk,Rle,lePs,len_flat, hil, hlA, hinT, hka, c1, kr, hwa]
      refine PF.call hmv 9 (by simp [lePs, -List.length_flatten, -List.map_drop, -List.map_take, Function.comp_def, len_flat]) ?_
      simp (maxSteps := 3000000) [-List.length_flatten,-List.map_drop,-List.map_take,Function.comp_def,argsT,Opd.ev,Tm.get,put,ares,mapMo,ares1,snilP,bldParts,bslParts,putAt,AV.cells,AV.one,astore,aload,loadCs,callArgs,abin,abinInt,aapp,elems,appMore,appNone,preLen,aFa,aFld,apart,aExt,aPick,aNot,aLens,aEqa,cellsK,fitsA,LK.fitsA,leavesA,leafA,nilD,aNilc,aCint,aCid,alive,alen,alenOk,Rle,lePs,len_flat, Kc, kr]
      rw [← hQ]
      exact Rle_mc ⟨cs, st2, es, 0⟩ (.inl rfl) (.inl rfl) (.inl rfl)
     ·rw [if_neg c1] at hQ
      by_cases k7 : (gi p.l i).kind = 7
      ·rw [if_pos k7] at hQ
       have hcall := call28_PF hp.neat (cs := cs) (st := st) (es := es) (i := (i : Int)) hc (by omega) (by omega) hst k7 ho (by omega) (by have := h'.esLen hp.neat; simp only at this; omega) (fun f hf a ha => hp.ok.param hf ha)
       generalize callF p cs st es i (gi p.l i) = r at *
       simp (maxSteps := 3000000) [-List.length_flatten,-List.map_drop,-List.map_take,Function.comp_def,argsT,Opd.ev,Tm.get,put,ares,mapMo,ares1,snilP,bldParts,bslParts,putAt,AV.cells,AV.one,astore,aload,loadCs,callArgs,abin,abinInt,aapp,elems,appMore,appNone,preLen,aFa,aFld,apart,aExt,aPick,aNot,aLens,aEqa,cellsK,fitsA,LK.fitsA,leavesA,leafA,nilD,aNilc,aCint,aCid,alive,alen,alenOk,Rle,lePs,len_flat, hil, hlA, hinT, hka, c1, k7, kr]
       refine PF.call hcall 9 (by simp [lePs, -List.length_flatten, -List.map_drop, -List.map_take, Function.comp_def, len_flat]) ?_
       simp (maxSteps := 3000000) [-List.length_flatten,-List.map_drop,-List.map_take,Function.comp_def,argsT,Opd.ev,Tm.get,put,ares,mapMo,ares1,snilP,bldParts,bslParts,putAt,AV.cells,AV.one,astore,aload,loadCs,callArgs,abin,abinInt,aapp,elems,appMore,appNone,preLen,aFa,aFld,apart,aExt,aPick,aNot,aLens,aEqa,cellsK,fitsA,LK.fitsA,leavesA,leafA,nilD,aNilc,aCint,aCid,alive,alen,alenOk,Rle,lePs,len_flat, Kc, kr]
       rw [← hQ]
       exact Rle_mc ⟨r.1, r.2.1, r.2.2.1, r.2.2.2⟩ (.inl rfl) (.inl rfl) (.inl rfl)
      ·rw [if_neg k7] at hQ
       have hdn := done29_PF hp.neat ⟨cs, st, es, 0⟩ rfl hc hst k7
       simp only at hdn
       generalize doneF p cs (gi p.l i) = r at *
       by_cases r0 : r.2 = 0
       ·rw [if_pos r0] at hQ
        have hmv := moved27_PF ⟨r.1, st, es, 0⟩ (t.at' + 1) (by simp only; omega) (by simp only; omega)
        simp only at hmv
        generalize moveF st (st.length - 1) (t.at' + 1) = st2 at *
        simp (maxSteps := 3000000) [-List.length_flatten,-List.map_drop,-List.map_take,Function.comp_def,argsT,Opd.ev,Tm.get,put,ares,mapMo,ares1,snilP,bldParts,bslParts,putAt,AV.cells,AV.one,astore,aload,loadCs,callArgs,abin,abinInt,aapp,elems,appMore,appNone,preLen,aFa,aFld,apart,aExt,aPick,aNot,aLens,aEqa,cellsK,fitsA,LK.fitsA,leavesA,leafA,nilD,aNilc,aCint,aCid,alive,alen,alenOk,Rle,lePs,len_flat, hil, hlA, hinT, hka, c1, k7, kr]
        refine ⟨_, hdn, ?_⟩
        simp (maxSteps := 3000000) [-List.length_flatten,-List.map_drop,-List.map_take,Function.comp_def,argsT,Opd.ev,Tm.get,put,ares,mapMo,ares1,snilP,bldParts,bslParts,putAt,AV.cells,AV.one,astore,aload,loadCs,callArgs,abin,abinInt,aapp,elems,appMore,appNone,preLen,aFa,aFld,apart,aExt,aPick,aNot,aLens,aEqa,cellsK,fitsA,LK.fitsA,leavesA,leafA,nilD,aNilc,aCint,aCid,alive,alen,alenOk,Rle,lePs,len_flat, Kc, r0, hwa]
        refine PF.call hmv 9 (by simp [lePs, -List.length_flatten, -List.map_drop, -List.map_take, Function.comp_def, len_flat]) ?_
        simp (maxSteps := 3000000) [-List.length_flatten,-List.map_drop,-List.map_take,Function.comp_def,argsT,Opd.ev,Tm.get,put,ares,mapMo,ares1,snilP,bldParts,bslParts,putAt,AV.cells,AV.one,astore,aload,loadCs,callArgs,abin,abinInt,aapp,elems,appMore,appNone,preLen,aFa,aFld,apart,aExt,aPick,aNot,aLens,aEqa,cellsK,fitsA,LK.fitsA,leavesA,leafA,nilD,aNilc,aCint,aCid,alive,alen,alenOk,Rle,lePs,len_flat, Kc, kr]
        rw [← hQ, r0]
        exact Rle_mc ⟨r.1, st2, es, 0⟩ (.inl rfl) (.inl rfl) (.inl rfl)
       ·rw [if_neg r0] at hQ
        simp (maxSteps := 3000000) [-List.length_flatten,-List.map_drop,-List.map_take,Function.comp_def,argsT,Opd.ev,Tm.get,put,ares,mapMo,ares1,snilP,bldParts,bslParts,putAt,AV.cells,AV.one,astore,aload,loadCs,callArgs,abin,abinInt,aapp,elems,appMore,appNone,preLen,aFa,aFld,apart,aExt,aPick,aNot,aLens,aEqa,cellsK,fitsA,LK.fitsA,leavesA,leafA,nilD,aNilc,aCint,aCid,alive,alen,alenOk,Rle,lePs,len_flat, hil, hlA, hinT, hka, c1, k7, kr]
        refine ⟨_, hdn, ?_⟩
        simp (maxSteps := 3000000) [-List.length_flatten,-List.map_drop,-List.map_take,Function.comp_def,argsT,Opd.ev,Tm.get,put,ares,mapMo,ares1,snilP,bldParts,bslParts,putAt,AV.cells,AV.one,astore,aload,loadCs,callArgs,abin,abinInt,aapp,elems,appMore,appNone,preLen,aFa,aFld,apart,aExt,aPick,aNot,aLens,aEqa,cellsK,fitsA,LK.fitsA,leavesA,leafA,nilD,aNilc,aCint,aCid,alive,alen,alenOk,Rle,lePs,len_flat, Kc, r0, kr]
        rw [← hQ]
        exact Rle_mc ⟨r.1, st, es, r.2⟩ (.inl rfl) (.inl rfl) (.inl rfl)
   ·have hbe : bodyN p.l t.body (i + 1) = bodyN p.l t.body i := by rw [bodyN, if_neg hin]
    simp (maxSteps := 3000000) [-List.length_flatten,-List.map_drop,-List.map_take,Function.comp_def,argsT,Opd.ev,Tm.get,put,ares,mapMo,ares1,snilP,bldParts,bslParts,putAt,AV.cells,AV.one,astore,aload,loadCs,callArgs,abin,abinInt,aapp,elems,appMore,appNone,preLen,aFa,aFld,apart,aExt,aPick,aNot,aLens,aEqa,cellsK,fitsA,LK.fitsA,leavesA,leafA,nilD,aNilc,aCint,aCid,alive,alen,alenOk,Rle,lePs,len_flat, hil, hlA, hin]
    exact kn _ _ (Kl_next (p.l.length - (i + 1)) 4 (by omega) ⟨i + 1, rfl, hil, by rw [hbe]; omega, rfl, rfl⟩ (by simp [Tm.get, hnx, hbe]) (by simp) rfl hRl (by omega))
  ·have ei : i = p.l.length := by omega
   subst ei
   have hle : ((bodyOf p t.body).length : Int) ≤ t.at' := hb
   have hdo : doF p ⟨cs, st, es, 0⟩ c = (if t.body < 0 then ⟨cs, st, es, 1⟩ else
     ⟨holdF cs (ix p (gi p.l t.call).x) (gi cs (ix p (gi p.funs t.body).ret)), moveF (st.take (st.length - 1)) (st.length - 2) ((gi st (st.length - 2 : Nat)).at' + 1), es, 0⟩) := by
    unfold doF
    simp only
    rw [if_neg hno, if_neg ce, ht, if_pos hle]
    split
    ·rfl
    ·rw [moveF, moveF, List.take_set]
     have e : (st.take (st.length - 1)).getD (st.length - 2) default = st.getD (st.length - 2) default := by
      have h1 : st.length - 2 < st.length - 1 := by
       rcases Nat.lt_or_ge 1 st.length with h1 | h1
       ·omega
       ·have e : st.length - 1 = 0 := by omega
        rename_i hneg
        rw [e] at ht
        have := h.bot.1
        simp only at this
        rw [ht] at this
        omega
      have h2 : st.length - 2 < st.length := by omega
      simp [List.getD, List.getElem?_take, h1, h2]
     rw [e]
   have h' : MOk p ⟨cs, st, es, 0⟩ := h
   have hc := h'.cs
   simp only at hc
   have hend := ended30_PF hp.neat (cs := cs) (st := st) (es := es) hc ho hf (at_few hp h') (fun hb => by
    obtain ⟨b1, b2, b3, b4⟩ := hp.body h' hkl hb
    have h0 : 1 < st.length := by
     rcases Nat.lt_or_ge 1 st.length with h1 | h1
     ·exact h1
     ·have e : st.length - 1 = 0 := by omega
      rw [e] at hb
      have := h'.bot.1
      simp only at this
      omega
    exact ⟨h0, b1, b2, b3, (hp.stmz b2 b3).x, hp.ok.ret (giz_mem hb b1)⟩)
   rw [ht] at hend
   rw [hdo] at hQ
   simp (maxSteps := 3000000) [-List.length_flatten,-List.map_drop,-List.map_take,Function.comp_def,argsT,Opd.ev,Tm.get,put,ares,mapMo,ares1,snilP,bldParts,bslParts,putAt,AV.cells,AV.one,astore,aload,loadCs,callArgs,abin,abinInt,aapp,elems,appMore,appNone,preLen,aFa,aFld,apart,aExt,aPick,aNot,aLens,aEqa,cellsK,fitsA,LK.fitsA,leavesA,leafA,nilD,aNilc,aCint,aCid,alive,alen,alenOk,Rle,lePs,len_flat, hil, hlA, kx]
   refine PF.call hend 9 (by simp [lePs, -List.length_flatten, -List.map_drop, -List.map_take, Function.comp_def, len_flat]) ?_
   simp (maxSteps := 3000000) [-List.length_flatten,-List.map_drop,-List.map_take,Function.comp_def,argsT,Opd.ev,Tm.get,put,ares,mapMo,ares1,snilP,bldParts,bslParts,putAt,AV.cells,AV.one,astore,aload,loadCs,callArgs,abin,abinInt,aapp,elems,appMore,appNone,preLen,aFa,aFld,apart,aExt,aPick,aNot,aLens,aEqa,cellsK,fitsA,LK.fitsA,leavesA,leafA,nilD,aNilc,aCint,aCid,alive,alen,alenOk,Rle,lePs,len_flat, Kc]
   rw [← hQ]
   split
   ·exact Rle_mc ⟨cs, st, es, 1⟩ (.inl rfl) (.inl rfl) (.inl rfl)
   ·exact Rle_mc (⟨_, _, es, 0⟩ : Mc) (.inl rfl) (.inl rfl) (.inl rfl)
 ·have e : doF p ⟨cs, st, es, hl⟩ c = ⟨cs, st, es, hl⟩ := by unfold doF; rw [if_pos (.inl hh)]
  rw [e]
  simp (maxSteps := 3000000) [-List.length_flatten,-List.map_drop,-List.map_take,Function.comp_def,argsT,Opd.ev,Tm.get,put,ares,mapMo,ares1,snilP,bldParts,bslParts,putAt,AV.cells,AV.one,astore,aload,loadCs,callArgs,abin,abinInt,aapp,elems,appMore,appNone,preLen,aFa,aFld,apart,aExt,aPick,aNot,aLens,aEqa,cellsK,fitsA,LK.fitsA,leavesA,leafA,nilD,aNilc,aCint,aCid,alive,alen,alenOk,Rle,lePs,len_flat, c9, hh]
end Go.AM

namespace Go.AM
open Go.Proofs
set_option maxRecDepth 100000
set_option linter.unusedVariables false
set_option linter.unusedSimpArgs false
/-! ### Rows compared -/
theorem eq37_PF (a b : List Cl) (ha : a.length ≤ 1000000) (hb : b.length ≤ 1000000) : PF Tryz.prog 37 [.rows false 3 (a.map Cl.cs), .rows false 3 (b.map Cl.cs)] (.bool (decide (a = b))) := by
 refine PFk 9 hm Tryz.func37 c37_ok (Nat.le_of_ble_eq_true rfl) (by simp) (by simp) ?_
 have aA : a.length ≤ maxA := by unfold maxA; omega
 have bA : b.length ≤ maxA := by unfold maxA; omega
 by_cases hl : a.length = b.length
 ·have hlI : (a.length : Int) = b.length := by omega
  simp (maxSteps := 3000000) [-List.length_flatten,-List.map_drop,-List.map_take,Function.comp_def,argsT,Opd.ev,Tm.get,put,ares,mapMo,ares1,snilP,bldParts,bslParts,putAt,AV.cells,AV.one,astore,aload,loadCs,callArgs,abin,abinInt,aapp,elems,appMore,appNone,preLen,aFa,aFld,apart,aExt,aPick,aNot,aLens,aEqa,cellsK,fitsA,LK.fitsA,leavesA,leafA,nilD,aNilc,aCint,aCid,alive,alen,alenOk,Rle,lePs,len_flat, c37, aA, bA, hl, hlI]
  refine run_countK b.length 13 [(12, i64 b.length), (0, .rows false 3 (a.map Cl.cs)), (1, .rows false 3 (b.map Cl.cs))] [] (fun i => ∀ j : Nat, j < i → gi a j = gi b j) (Wk.sub (by simp [Tm.get, hl])) (fun j hj => by omega) ?_
  intro i hi hj KK kx kr kn
  by_cases h : i < b.length
  ·have h' : i < a.length := by omega
   have hnx := nxt h bA
   by_cases e : gi a i = gi b i
   ·simp (maxSteps := 3000000) [-List.length_flatten,-List.map_drop,-List.map_take,Function.comp_def,argsT,Opd.ev,Tm.get,put,ares,mapMo,ares1,snilP,bldParts,bslParts,putAt,AV.cells,AV.one,astore,aload,loadCs,callArgs,abin,abinInt,aapp,elems,appMore,appNone,preLen,aFa,aFld,apart,aExt,aPick,aNot,aLens,aEqa,cellsK,fitsA,LK.fitsA,leavesA,leafA,nilD,aNilc,aCint,aCid,alive,alen,alenOk,Rle,lePs,len_flat, h, h', hl, e, aA, bA]
    refine kn _ _ (Kn_next 0 (by omega) (by omega) (fun j hl => ?_) (by simp [Tm.get, hnx]) (by simp) rfl (by simp))
    rcases Nat.lt_or_ge j i with h3 | h3
    ·exact hj j h3
    ·have : j = i := by omega
     subst this
     exact e
   ·have hne : a ≠ b := fun h => e (by rw [h])
    by_cases f0 : (gi a i).loc = (gi b i).loc
    case neg => simp (maxSteps := 3000000) [-List.length_flatten,-List.map_drop,-List.map_take,Function.comp_def,argsT,Opd.ev,Tm.get,put,ares,mapMo,ares1,snilP,bldParts,bslParts,putAt,AV.cells,AV.one,astore,aload,loadCs,callArgs,abin,abinInt,aapp,elems,appMore,appNone,preLen,aFa,aFld,apart,aExt,aPick,aNot,aLens,aEqa,cellsK,fitsA,LK.fitsA,leavesA,leafA,nilD,aNilc,aCint,aCid,alive,alen,alenOk,Rle,lePs,len_flat, h, h', hl, f0, aA, bA, kr, hne]
    by_cases f1 : (gi a i).kind = (gi b i).kind
    case neg => simp (maxSteps := 3000000) [-List.length_flatten,-List.map_drop,-List.map_take,Function.comp_def,argsT,Opd.ev,Tm.get,put,ares,mapMo,ares1,snilP,bldParts,bslParts,putAt,AV.cells,AV.one,astore,aload,loadCs,callArgs,abin,abinInt,aapp,elems,appMore,appNone,preLen,aFa,aFld,apart,aExt,aPick,aNot,aLens,aEqa,cellsK,fitsA,LK.fitsA,leavesA,leafA,nilD,aNilc,aCint,aCid,alive,alen,alenOk,Rle,lePs,len_flat, h, h', hl, f0, f1, aA, bA, kr, hne]
    have f2 : ¬ (gi a i).v = (gi b i).v := fun f2 => e (by
     generalize gi a i = x at *
     generalize gi b i = y at *
     cases x; cases y; simp_all)
    simp (maxSteps := 3000000) [-List.length_flatten,-List.map_drop,-List.map_take,Function.comp_def,argsT,Opd.ev,Tm.get,put,ares,mapMo,ares1,snilP,bldParts,bslParts,putAt,AV.cells,AV.one,astore,aload,loadCs,callArgs,abin,abinInt,aapp,elems,appMore,appNone,preLen,aFa,aFld,apart,aExt,aPick,aNot,aLens,aEqa,cellsK,fitsA,LK.fitsA,leavesA,leafA,nilD,aNilc,aCint,aCid,alive,alen,alenOk,Rle,lePs,len_flat, h, h', hl, f0, f1, f2, aA, bA, kr, hne]
  ·have e : a = b := eq_gi hl (fun j hj' => hj j (by omega))
   simp (maxSteps := 3000000) [-List.length_flatten,-List.map_drop,-List.map_take,Function.comp_def,argsT,Opd.ev,Tm.get,put,ares,mapMo,ares1,snilP,bldParts,bslParts,putAt,AV.cells,AV.one,astore,aload,loadCs,callArgs,abin,abinInt,aapp,elems,appMore,appNone,preLen,aFa,aFld,apart,aExt,aPick,aNot,aLens,aEqa,cellsK,fitsA,LK.fitsA,leavesA,leafA,nilD,aNilc,aCint,aCid,alive,alen,alenOk,Rle,lePs,len_flat, h, hl, kx, e, aA, bA]
 ·have hlI : ¬ (a.length : Int) = b.length := by omega
  have hne : a ≠ b := fun h => hl (by rw [h])
  simp (maxSteps := 3000000) [-List.length_flatten,-List.map_drop,-List.map_take,Function.comp_def,argsT,Opd.ev,Tm.get,put,ares,mapMo,ares1,snilP,bldParts,bslParts,putAt,AV.cells,AV.one,astore,aload,loadCs,callArgs,abin,abinInt,aapp,elems,appMore,appNone,preLen,aFa,aFld,apart,aExt,aPick,aNot,aLens,aEqa,cellsK,fitsA,LK.fitsA,leavesA,leafA,nilD,aNilc,aCint,aCid,alive,alen,alenOk,Rle,lePs,len_flat, c37, aA, bA, hlI, hne]
theorem eq38_PF (a b : List Ps) (ha : a.length ≤ 1000000) (hb : b.length ≤ 1000000) : PF Tryz.prog 38 [.rows false 3 (a.map Ps.cs), .rows false 3 (b.map Ps.cs)] (.bool (decide (a = b))) := by
 refine PFk 9 hm Tryz.func38 c38_ok (Nat.le_of_ble_eq_true rfl) (by simp) (by simp) ?_
 have aA : a.length ≤ maxA := by unfold maxA; omega
 have bA : b.length ≤ maxA := by unfold maxA; omega
 by_cases hl : a.length = b.length
 ·have hlI : (a.length : Int) = b.length := by omega
  simp (maxSteps := 3000000) [-List.length_flatten,-List.map_drop,-List.map_take,Function.comp_def,argsT,Opd.ev,Tm.get,put,ares,mapMo,ares1,snilP,bldParts,bslParts,putAt,AV.cells,AV.one,astore,aload,loadCs,callArgs,abin,abinInt,aapp,elems,appMore,appNone,preLen,aFa,aFld,apart,aExt,aPick,aNot,aLens,aEqa,cellsK,fitsA,LK.fitsA,leavesA,leafA,nilD,aNilc,aCint,aCid,alive,alen,alenOk,Rle,lePs,len_flat, c38, aA, bA, hl, hlI]
  refine run_countK b.length 13 [(12, i64 b.length), (0, .rows false 3 (a.map Ps.cs)), (1, .rows false 3 (b.map Ps.cs))] [] (fun i => ∀ j : Nat, j < i → gi a j = gi b j) (Wk.sub (by simp [Tm.get, hl])) (fun j hj => by omega) ?_
  intro i hi hj KK kx kr kn
  by_cases h : i < b.length
  ·have h' : i < a.length := by omega
   have hnx := nxt h bA
   by_cases e : gi a i = gi b i
   ·simp (maxSteps := 3000000) [-List.length_flatten,-List.map_drop,-List.map_take,Function.comp_def,argsT,Opd.ev,Tm.get,put,ares,mapMo,ares1,snilP,bldParts,bslParts,putAt,AV.cells,AV.one,astore,aload,loadCs,callArgs,abin,abinInt,aapp,elems,appMore,appNone,preLen,aFa,aFld,apart,aExt,aPick,aNot,aLens,aEqa,cellsK,fitsA,LK.fitsA,leavesA,leafA,nilD,aNilc,aCint,aCid,alive,alen,alenOk,Rle,lePs,len_flat, h, h', hl, e, aA, bA]
    refine kn _ _ (Kn_next 0 (by omega) (by omega) (fun j hl => ?_) (by simp [Tm.get, hnx]) (by simp) rfl (by simp))
    rcases Nat.lt_or_ge j i with h3 | h3
    ·exact hj j h3
    ·have : j = i := by omega
     subst this
     exact e
   ·have hne : a ≠ b := fun h => e (by rw [h])
    by_cases f0 : (gi a i).body = (gi b i).body
    case neg => simp (maxSteps := 3000000) [-List.length_flatten,-List.map_drop,-List.map_take,Function.comp_def,argsT,Opd.ev,Tm.get,put,ares,mapMo,ares1,snilP,bldParts,bslParts,putAt,AV.cells,AV.one,astore,aload,loadCs,callArgs,abin,abinInt,aapp,elems,appMore,appNone,preLen,aFa,aFld,apart,aExt,aPick,aNot,aLens,aEqa,cellsK,fitsA,LK.fitsA,leavesA,leafA,nilD,aNilc,aCint,aCid,alive,alen,alenOk,Rle,lePs,len_flat, h, h', hl, f0, aA, bA, kr, hne]
    by_cases f1 : (gi a i).at' = (gi b i).at'
    case neg => simp (maxSteps := 3000000) [-List.length_flatten,-List.map_drop,-List.map_take,Function.comp_def,argsT,Opd.ev,Tm.get,put,ares,mapMo,ares1,snilP,bldParts,bslParts,putAt,AV.cells,AV.one,astore,aload,loadCs,callArgs,abin,abinInt,aapp,elems,appMore,appNone,preLen,aFa,aFld,apart,aExt,aPick,aNot,aLens,aEqa,cellsK,fitsA,LK.fitsA,leavesA,leafA,nilD,aNilc,aCint,aCid,alive,alen,alenOk,Rle,lePs,len_flat, h, h', hl, f0, f1, aA, bA, kr, hne]
    have f2 : ¬ (gi a i).call = (gi b i).call := fun f2 => e (by
     generalize gi a i = x at *
     generalize gi b i = y at *
     cases x; cases y; simp_all)
    simp (maxSteps := 3000000) [-List.length_flatten,-List.map_drop,-List.map_take,Function.comp_def,argsT,Opd.ev,Tm.get,put,ares,mapMo,ares1,snilP,bldParts,bslParts,putAt,AV.cells,AV.one,astore,aload,loadCs,callArgs,abin,abinInt,aapp,elems,appMore,appNone,preLen,aFa,aFld,apart,aExt,aPick,aNot,aLens,aEqa,cellsK,fitsA,LK.fitsA,leavesA,leafA,nilD,aNilc,aCint,aCid,alive,alen,alenOk,Rle,lePs,len_flat, h, h', hl, f0, f1, f2, aA, bA, kr, hne]
  ·have e : a = b := eq_gi hl (fun j hj' => hj j (by omega))
   simp (maxSteps := 3000000) [-List.length_flatten,-List.map_drop,-List.map_take,Function.comp_def,argsT,Opd.ev,Tm.get,put,ares,mapMo,ares1,snilP,bldParts,bslParts,putAt,AV.cells,AV.one,astore,aload,loadCs,callArgs,abin,abinInt,aapp,elems,appMore,appNone,preLen,aFa,aFld,apart,aExt,aPick,aNot,aLens,aEqa,cellsK,fitsA,LK.fitsA,leavesA,leafA,nilD,aNilc,aCint,aCid,alive,alen,alenOk,Rle,lePs,len_flat, h, hl, kx, e, aA, bA]
 ·have hlI : ¬ (a.length : Int) = b.length := by omega
  have hne : a ≠ b := fun h => hl (by rw [h])
  simp (maxSteps := 3000000) [-List.length_flatten,-List.map_drop,-List.map_take,Function.comp_def,argsT,Opd.ev,Tm.get,put,ares,mapMo,ares1,snilP,bldParts,bslParts,putAt,AV.cells,AV.one,astore,aload,loadCs,callArgs,abin,abinInt,aapp,elems,appMore,appNone,preLen,aFa,aFld,apart,aExt,aPick,aNot,aLens,aEqa,cellsK,fitsA,LK.fitsA,leavesA,leafA,nilD,aNilc,aCint,aCid,alive,alen,alenOk,Rle,lePs,len_flat, c38, aA, bA, hlI, hne]
theorem eq39_PF (a b : List Ed) (ha : a.length ≤ 1000000) (hb : b.length ≤ 1000000) : PF Tryz.prog 39 [.rows false 2 (a.map Ed.cs), .rows false 2 (b.map Ed.cs)] (.bool (decide (a = b))) := by
 refine PFk 9 hm Tryz.func39 c39_ok (Nat.le_of_ble_eq_true rfl) (by simp) (by simp) ?_
 have aA : a.length ≤ maxA := by unfold maxA; omega
 have bA : b.length ≤ maxA := by unfold maxA; omega
 by_cases hl : a.length = b.length
 ·have hlI : (a.length : Int) = b.length := by omega
  simp (maxSteps := 3000000) [-List.length_flatten,-List.map_drop,-List.map_take,Function.comp_def,argsT,Opd.ev,Tm.get,put,ares,mapMo,ares1,snilP,bldParts,bslParts,putAt,AV.cells,AV.one,astore,aload,loadCs,callArgs,abin,abinInt,aapp,elems,appMore,appNone,preLen,aFa,aFld,apart,aExt,aPick,aNot,aLens,aEqa,cellsK,fitsA,LK.fitsA,leavesA,leafA,nilD,aNilc,aCint,aCid,alive,alen,alenOk,Rle,lePs,len_flat, c39, aA, bA, hl, hlI]
  refine run_countK b.length 13 [(12, i64 b.length), (0, .rows false 2 (a.map Ed.cs)), (1, .rows false 2 (b.map Ed.cs))] [] (fun i => ∀ j : Nat, j < i → gi a j = gi b j) (Wk.sub (by simp [Tm.get, hl])) (fun j hj => by omega) ?_
  intro i hi hj KK kx kr kn
  by_cases h : i < b.length
  ·have h' : i < a.length := by omega
   have hnx := nxt h bA
   by_cases e : gi a i = gi b i
   ·simp (maxSteps := 3000000) [-List.length_flatten,-List.map_drop,-List.map_take,Function.comp_def,argsT,Opd.ev,Tm.get,put,ares,mapMo,ares1,snilP,bldParts,bslParts,putAt,AV.cells,AV.one,astore,aload,loadCs,callArgs,abin,abinInt,aapp,elems,appMore,appNone,preLen,aFa,aFld,apart,aExt,aPick,aNot,aLens,aEqa,cellsK,fitsA,LK.fitsA,leavesA,leafA,nilD,aNilc,aCint,aCid,alive,alen,alenOk,Rle,lePs,len_flat, h, h', hl, e, aA, bA]
    refine kn _ _ (Kn_next 0 (by omega) (by omega) (fun j hl => ?_) (by simp [Tm.get, hnx]) (by simp) rfl (by simp))
    rcases Nat.lt_or_ge j i with h3 | h3
    ·exact hj j h3
    ·have : j = i := by omega
     subst this
     exact e
   ·have hne : a ≠ b := fun h => e (by rw [h])
    by_cases f0 : (gi a i).a = (gi b i).a
    case neg => simp (maxSteps := 3000000) [-List.length_flatten,-List.map_drop,-List.map_take,Function.comp_def,argsT,Opd.ev,Tm.get,put,ares,mapMo,ares1,snilP,bldParts,bslParts,putAt,AV.cells,AV.one,astore,aload,loadCs,callArgs,abin,abinInt,aapp,elems,appMore,appNone,preLen,aFa,aFld,apart,aExt,aPick,aNot,aLens,aEqa,cellsK,fitsA,LK.fitsA,leavesA,leafA,nilD,aNilc,aCint,aCid,alive,alen,alenOk,Rle,lePs,len_flat, h, h', hl, f0, aA, bA, kr, hne]
    have f1 : ¬ (gi a i).b = (gi b i).b := fun f1 => e (by
     generalize gi a i = x at *
     generalize gi b i = y at *
     cases x; cases y; simp_all)
    simp (maxSteps := 3000000) [-List.length_flatten,-List.map_drop,-List.map_take,Function.comp_def,argsT,Opd.ev,Tm.get,put,ares,mapMo,ares1,snilP,bldParts,bslParts,putAt,AV.cells,AV.one,astore,aload,loadCs,callArgs,abin,abinInt,aapp,elems,appMore,appNone,preLen,aFa,aFld,apart,aExt,aPick,aNot,aLens,aEqa,cellsK,fitsA,LK.fitsA,leavesA,leafA,nilD,aNilc,aCint,aCid,alive,alen,alenOk,Rle,lePs,len_flat, h, h', hl, f0, f1, aA, bA, kr, hne]
  ·have e : a = b := eq_gi hl (fun j hj' => hj j (by omega))
   simp (maxSteps := 3000000) [-List.length_flatten,-List.map_drop,-List.map_take,Function.comp_def,argsT,Opd.ev,Tm.get,put,ares,mapMo,ares1,snilP,bldParts,bslParts,putAt,AV.cells,AV.one,astore,aload,loadCs,callArgs,abin,abinInt,aapp,elems,appMore,appNone,preLen,aFa,aFld,apart,aExt,aPick,aNot,aLens,aEqa,cellsK,fitsA,LK.fitsA,leavesA,leafA,nilD,aNilc,aCint,aCid,alive,alen,alenOk,Rle,lePs,len_flat, h, hl, kx, e, aA, bA]
 ·have hlI : ¬ (a.length : Int) = b.length := by omega
  have hne : a ≠ b := fun h => hl (by rw [h])
  simp (maxSteps := 3000000) [-List.length_flatten,-List.map_drop,-List.map_take,Function.comp_def,argsT,Opd.ev,Tm.get,put,ares,mapMo,ares1,snilP,bldParts,bslParts,putAt,AV.cells,AV.one,astore,aload,loadCs,callArgs,abin,abinInt,aapp,elems,appMore,appNone,preLen,aFa,aFld,apart,aExt,aPick,aNot,aLens,aEqa,cellsK,fitsA,LK.fitsA,leavesA,leafA,nilD,aNilc,aCint,aCid,alive,alen,alenOk,Rle,lePs,len_flat, c39, aA, bA, hlI, hne]
theorem eq31_PF (a b : List Ed) (ha : a.length ≤ 1000000) (hb : b.length ≤ 1000000) : PF Tryz.prog 31 [.rows false 2 (a.map Ed.cs), .rows false 2 (b.map Ed.cs)] (.bool (decide (a = b))) := by
 refine PFk 9 hm Tryz.func31 c31_ok (Nat.le_of_ble_eq_true rfl) (by simp) (by simp) ?_
 have aA : a.length ≤ maxA := by unfold maxA; omega
 have bA : b.length ≤ maxA := by unfold maxA; omega
 by_cases hl : a.length = b.length
 ·have hlI : (a.length : Int) = b.length := by omega
  simp (maxSteps := 3000000) [-List.length_flatten,-List.map_drop,-List.map_take,Function.comp_def,argsT,Opd.ev,Tm.get,put,ares,mapMo,ares1,snilP,bldParts,bslParts,putAt,AV.cells,AV.one,astore,aload,loadCs,callArgs,abin,abinInt,aapp,elems,appMore,appNone,preLen,aFa,aFld,apart,aExt,aPick,aNot,aLens,aEqa,cellsK,fitsA,LK.fitsA,leavesA,leafA,nilD,aNilc,aCint,aCid,alive,alen,alenOk,Rle,lePs,len_flat, c31, aA, bA, hl, hlI]
  refine run_countK b.length 5 [(0, .rows false 2 (a.map Ed.cs)), (1, .rows false 2 (b.map Ed.cs))] [] (fun i => ∀ j : Nat, j < i → gi a j = gi b j) (Wk.sub (by simp [Tm.get, hl])) (fun j hj => by omega) ?_
  intro i hi hj KK kx kr kn
  by_cases h : i < b.length
  ·have h' : i < a.length := by omega
   have hnx := nxt h bA
   by_cases e : gi a i = gi b i
   ·simp (maxSteps := 3000000) [-List.length_flatten,-List.map_drop,-List.map_take,Function.comp_def,argsT,Opd.ev,Tm.get,put,ares,mapMo,ares1,snilP,bldParts,bslParts,putAt,AV.cells,AV.one,astore,aload,loadCs,callArgs,abin,abinInt,aapp,elems,appMore,appNone,preLen,aFa,aFld,apart,aExt,aPick,aNot,aLens,aEqa,cellsK,fitsA,LK.fitsA,leavesA,leafA,nilD,aNilc,aCint,aCid,alive,alen,alenOk,Rle,lePs,len_flat, h, h', hl, e, aA, bA]
    refine kn _ _ (Kn_next 0 (by omega) (by omega) (fun j hl => ?_) (by simp [Tm.get, hnx]) (by simp) rfl (by simp))
    rcases Nat.lt_or_ge j i with h3 | h3
    ·exact hj j h3
    ·have : j = i := by omega
     subst this
     exact e
   ·have hne : a ≠ b := fun h => e (by rw [h])
    by_cases f0 : (gi a i).a = (gi b i).a
    case neg => simp (maxSteps := 3000000) [-List.length_flatten,-List.map_drop,-List.map_take,Function.comp_def,argsT,Opd.ev,Tm.get,put,ares,mapMo,ares1,snilP,bldParts,bslParts,putAt,AV.cells,AV.one,astore,aload,loadCs,callArgs,abin,abinInt,aapp,elems,appMore,appNone,preLen,aFa,aFld,apart,aExt,aPick,aNot,aLens,aEqa,cellsK,fitsA,LK.fitsA,leavesA,leafA,nilD,aNilc,aCint,aCid,alive,alen,alenOk,Rle,lePs,len_flat, h, h', hl, f0, aA, bA, kr, hne]
    have f1 : ¬ (gi a i).b = (gi b i).b := fun f1 => e (by
     generalize gi a i = x at *
     generalize gi b i = y at *
     cases x; cases y; simp_all)
    simp (maxSteps := 3000000) [-List.length_flatten,-List.map_drop,-List.map_take,Function.comp_def,argsT,Opd.ev,Tm.get,put,ares,mapMo,ares1,snilP,bldParts,bslParts,putAt,AV.cells,AV.one,astore,aload,loadCs,callArgs,abin,abinInt,aapp,elems,appMore,appNone,preLen,aFa,aFld,apart,aExt,aPick,aNot,aLens,aEqa,cellsK,fitsA,LK.fitsA,leavesA,leafA,nilD,aNilc,aCint,aCid,alive,alen,alenOk,Rle,lePs,len_flat, h, h', hl, f0, f1, aA, bA, kr, hne]
  ·have e : a = b := eq_gi hl (fun j hj' => hj j (by omega))
   simp (maxSteps := 3000000) [-List.length_flatten,-List.map_drop,-List.map_take,Function.comp_def,argsT,Opd.ev,Tm.get,put,ares,mapMo,ares1,snilP,bldParts,bslParts,putAt,AV.cells,AV.one,astore,aload,loadCs,callArgs,abin,abinInt,aapp,elems,appMore,appNone,preLen,aFa,aFld,apart,aExt,aPick,aNot,aLens,aEqa,cellsK,fitsA,LK.fitsA,leavesA,leafA,nilD,aNilc,aCint,aCid,alive,alen,alenOk,Rle,lePs,len_flat, h, hl, kx, e, aA, bA]
 ·have hlI : ¬ (a.length : Int) = b.length := by omega
  have hne : a ≠ b := fun h => hl (by rw [h])
  simp (maxSteps := 3000000) [-List.length_flatten,-List.map_drop,-List.map_take,Function.comp_def,argsT,Opd.ev,Tm.get,put,ares,mapMo,ares1,snilP,bldParts,bslParts,putAt,AV.cells,AV.one,astore,aload,loadCs,callArgs,abin,abinInt,aapp,elems,appMore,appNone,preLen,aFa,aFld,apart,aExt,aPick,aNot,aLens,aEqa,cellsK,fitsA,LK.fitsA,leavesA,leafA,nilD,aNilc,aCint,aCid,alive,alen,alenOk,Rle,lePs,len_flat, c31, aA, bA, hlI, hne]
end Go.AM

namespace Go.AM
open Go.Proofs
set_option maxRecDepth 100000
set_option linter.unusedVariables false
set_option linter.unusedSimpArgs false
/-! ### Machines compared -/
def sameM (m n : Mc) : Bool := decide (m.halt = n.halt) && (decide (m.cells = n.cells) && (decide (m.stack = n.stack) && decide (m.edges = n.edges)))
structure FewM (m : Mc) : Prop where
 c : m.cells.length ≤ 1000000
 s : m.stack.length ≤ 1000000
 e : m.edges.length ≤ 1000000
theorem same14_PF (m n : Mc) (hm' : FewM m) (hn : FewM n) : PF Tryz.prog 14 [.agg m.cs, .agg n.cs] (.bool (sameM m n)) := by
 refine PFk 9 hm Tryz.func14 c14_ok (Nat.le_of_ble_eq_true rfl) (by simp) (by simp) ?_
 by_cases h0 : m.halt = n.halt
 ·by_cases h1 : m.cells = n.cells
  ·by_cases h2 : m.stack = n.stack
   ·simp (maxSteps := 3000000) [-List.length_flatten,-List.map_drop,-List.map_take,Function.comp_def,argsT,Opd.ev,Tm.get,put,ares,mapMo,ares1,snilP,bldParts,bslParts,putAt,AV.cells,AV.one,astore,aload,loadCs,callArgs,abin,abinInt,aapp,elems,appMore,appNone,preLen,aFa,aFld,apart,aExt,aPick,aNot,aLens,aEqa,cellsK,fitsA,LK.fitsA,leavesA,leafA,nilD,aNilc,aCint,aCid,alive,alen,alenOk,Rle,lePs,len_flat, c14, h0]
    refine PF.call (eq37_PF _ _ hm'.c hn.c) 9 (by simp [lePs, -List.length_flatten, -List.map_drop, -List.map_take, Function.comp_def, len_flat]) ?_
    simp (maxSteps := 3000000) [-List.length_flatten,-List.map_drop,-List.map_take,Function.comp_def,argsT,Opd.ev,Tm.get,put,ares,mapMo,ares1,snilP,bldParts,bslParts,putAt,AV.cells,AV.one,astore,aload,loadCs,callArgs,abin,abinInt,aapp,elems,appMore,appNone,preLen,aFa,aFld,apart,aExt,aPick,aNot,aLens,aEqa,cellsK,fitsA,LK.fitsA,leavesA,leafA,nilD,aNilc,aCint,aCid,alive,alen,alenOk,Rle,lePs,len_flat, Kc, h1]
    refine PF.call (eq38_PF _ _ hm'.s hn.s) 9 (by simp [lePs, -List.length_flatten, -List.map_drop, -List.map_take, Function.comp_def, len_flat]) ?_
    simp (maxSteps := 3000000) [-List.length_flatten,-List.map_drop,-List.map_take,Function.comp_def,argsT,Opd.ev,Tm.get,put,ares,mapMo,ares1,snilP,bldParts,bslParts,putAt,AV.cells,AV.one,astore,aload,loadCs,callArgs,abin,abinInt,aapp,elems,appMore,appNone,preLen,aFa,aFld,apart,aExt,aPick,aNot,aLens,aEqa,cellsK,fitsA,LK.fitsA,leavesA,leafA,nilD,aNilc,aCint,aCid,alive,alen,alenOk,Rle,lePs,len_flat, Kc, h2]
    refine PF.call (eq39_PF _ _ hm'.e hn.e) 9 (by simp [lePs, -List.length_flatten, -List.map_drop, -List.map_take, Function.comp_def, len_flat]) ?_
    simp (maxSteps := 3000000) [-List.length_flatten,-List.map_drop,-List.map_take,Function.comp_def,argsT,Opd.ev,Tm.get,put,ares,mapMo,ares1,snilP,bldParts,bslParts,putAt,AV.cells,AV.one,astore,aload,loadCs,callArgs,abin,abinInt,aapp,elems,appMore,appNone,preLen,aFa,aFld,apart,aExt,aPick,aNot,aLens,aEqa,cellsK,fitsA,LK.fitsA,leavesA,leafA,nilD,aNilc,aCint,aCid,alive,alen,alenOk,Rle,lePs,len_flat, Kc]
    simp [sameM, h0, h1, h2]
   ·simp (maxSteps := 3000000) [-List.length_flatten,-List.map_drop,-List.map_take,Function.comp_def,argsT,Opd.ev,Tm.get,put,ares,mapMo,ares1,snilP,bldParts,bslParts,putAt,AV.cells,AV.one,astore,aload,loadCs,callArgs,abin,abinInt,aapp,elems,appMore,appNone,preLen,aFa,aFld,apart,aExt,aPick,aNot,aLens,aEqa,cellsK,fitsA,LK.fitsA,leavesA,leafA,nilD,aNilc,aCint,aCid,alive,alen,alenOk,Rle,lePs,len_flat, c14, h0]
    refine PF.call (eq37_PF _ _ hm'.c hn.c) 9 (by simp [lePs, -List.length_flatten, -List.map_drop, -List.map_take, Function.comp_def, len_flat]) ?_
    simp (maxSteps := 3000000) [-List.length_flatten,-List.map_drop,-List.map_take,Function.comp_def,argsT,Opd.ev,Tm.get,put,ares,mapMo,ares1,snilP,bldParts,bslParts,putAt,AV.cells,AV.one,astore,aload,loadCs,callArgs,abin,abinInt,aapp,elems,appMore,appNone,preLen,aFa,aFld,apart,aExt,aPick,aNot,aLens,aEqa,cellsK,fitsA,LK.fitsA,leavesA,leafA,nilD,aNilc,aCint,aCid,alive,alen,alenOk,Rle,lePs,len_flat, Kc, h1]
    refine PF.call (eq38_PF _ _ hm'.s hn.s) 9 (by simp [lePs, -List.length_flatten, -List.map_drop, -List.map_take, Function.comp_def, len_flat]) ?_
    simp (maxSteps := 3000000) [-List.length_flatten,-List.map_drop,-List.map_take,Function.comp_def,argsT,Opd.ev,Tm.get,put,ares,mapMo,ares1,snilP,bldParts,bslParts,putAt,AV.cells,AV.one,astore,aload,loadCs,callArgs,abin,abinInt,aapp,elems,appMore,appNone,preLen,aFa,aFld,apart,aExt,aPick,aNot,aLens,aEqa,cellsK,fitsA,LK.fitsA,leavesA,leafA,nilD,aNilc,aCint,aCid,alive,alen,alenOk,Rle,lePs,len_flat, Kc, h2]
    simp [sameM, h2]
  ·simp (maxSteps := 3000000) [-List.length_flatten,-List.map_drop,-List.map_take,Function.comp_def,argsT,Opd.ev,Tm.get,put,ares,mapMo,ares1,snilP,bldParts,bslParts,putAt,AV.cells,AV.one,astore,aload,loadCs,callArgs,abin,abinInt,aapp,elems,appMore,appNone,preLen,aFa,aFld,apart,aExt,aPick,aNot,aLens,aEqa,cellsK,fitsA,LK.fitsA,leavesA,leafA,nilD,aNilc,aCint,aCid,alive,alen,alenOk,Rle,lePs,len_flat, c14, h0]
   refine PF.call (eq37_PF _ _ hm'.c hn.c) 9 (by simp [lePs, -List.length_flatten, -List.map_drop, -List.map_take, Function.comp_def, len_flat]) ?_
   simp (maxSteps := 3000000) [-List.length_flatten,-List.map_drop,-List.map_take,Function.comp_def,argsT,Opd.ev,Tm.get,put,ares,mapMo,ares1,snilP,bldParts,bslParts,putAt,AV.cells,AV.one,astore,aload,loadCs,callArgs,abin,abinInt,aapp,elems,appMore,appNone,preLen,aFa,aFld,apart,aExt,aPick,aNot,aLens,aEqa,cellsK,fitsA,LK.fitsA,leavesA,leafA,nilD,aNilc,aCint,aCid,alive,alen,alenOk,Rle,lePs,len_flat, Kc, h1]
   simp [sameM, h1]
 ·simp (maxSteps := 3000000) [-List.length_flatten,-List.map_drop,-List.map_take,Function.comp_def,argsT,Opd.ev,Tm.get,put,ares,mapMo,ares1,snilP,bldParts,bslParts,putAt,AV.cells,AV.one,astore,aload,loadCs,callArgs,abin,abinInt,aapp,elems,appMore,appNone,preLen,aFa,aFld,apart,aExt,aPick,aNot,aLens,aEqa,cellsK,fitsA,LK.fitsA,leavesA,leafA,nilD,aNilc,aCint,aCid,alive,alen,alenOk,Rle,lePs,len_flat, c14, h0]
  simp [sameM, h0]
theorem same10g_PF (m n : Mc) (hm' : FewM m) (hn : FewM n) : PF Tryz.prog 10 [.agg m.cs, .agg n.cs] (.bool (sameM m n)) := by
 refine PFk 9 hm Tryz.func10 c10_ok (Nat.le_of_ble_eq_true rfl) (by simp) (by simp) ?_
 have a1 : m.cells.length ≤ maxA := by have := hm'.c; unfold maxA; omega
 have a2 : m.stack.length ≤ maxA := by have := hm'.s; unfold maxA; omega
 have b1 : n.cells.length ≤ maxA := by have := hn.c; unfold maxA; omega
 have b2 : n.stack.length ≤ maxA := by have := hn.s; unfold maxA; omega
 by_cases h0 : m.halt = n.halt
 case neg =>
  simp (maxSteps := 3000000) [-List.length_flatten,-List.map_drop,-List.map_take,Function.comp_def,argsT,Opd.ev,Tm.get,put,ares,mapMo,ares1,snilP,bldParts,bslParts,putAt,AV.cells,AV.one,astore,aload,loadCs,callArgs,abin,abinInt,aapp,elems,appMore,appNone,preLen,aFa,aFld,apart,aExt,aPick,aNot,aLens,aEqa,cellsK,fitsA,LK.fitsA,leavesA,leafA,nilD,aNilc,aCint,aCid,alive,alen,alenOk,Rle,lePs,len_flat, c10, h0]
  simp [sameM, h0]
 by_cases h1 : m.cells.length = n.cells.length
 case neg =>
  have h1I : ¬ (m.cells.length : Int) = n.cells.length := by omega
  have hne : m.cells ≠ n.cells := fun e => h1 (by rw [e])
  simp (maxSteps := 3000000) [-List.length_flatten,-List.map_drop,-List.map_take,Function.comp_def,argsT,Opd.ev,Tm.get,put,ares,mapMo,ares1,snilP,bldParts,bslParts,putAt,AV.cells,AV.one,astore,aload,loadCs,callArgs,abin,abinInt,aapp,elems,appMore,appNone,preLen,aFa,aFld,apart,aExt,aPick,aNot,aLens,aEqa,cellsK,fitsA,LK.fitsA,leavesA,leafA,nilD,aNilc,aCint,aCid,alive,alen,alenOk,Rle,lePs,len_flat, c10, h0, a1, b1, h1I]
  simp [sameM, hne]
 by_cases h2 : m.stack.length = n.stack.length
 case neg =>
  have h2I : ¬ (m.stack.length : Int) = n.stack.length := by omega
  have hne : m.stack ≠ n.stack := fun e => h2 (by rw [e])
  simp (maxSteps := 3000000) [-List.length_flatten,-List.map_drop,-List.map_take,Function.comp_def,argsT,Opd.ev,Tm.get,put,ares,mapMo,ares1,snilP,bldParts,bslParts,putAt,AV.cells,AV.one,astore,aload,loadCs,callArgs,abin,abinInt,aapp,elems,appMore,appNone,preLen,aFa,aFld,apart,aExt,aPick,aNot,aLens,aEqa,cellsK,fitsA,LK.fitsA,leavesA,leafA,nilD,aNilc,aCint,aCid,alive,alen,alenOk,Rle,lePs,len_flat, c10, h0, a1, b1, h1, a2, b2, h2I]
  simp [sameM, hne]
 simp (maxSteps := 3000000) [-List.length_flatten,-List.map_drop,-List.map_take,Function.comp_def,argsT,Opd.ev,Tm.get,put,ares,mapMo,ares1,snilP,bldParts,bslParts,putAt,AV.cells,AV.one,astore,aload,loadCs,callArgs,abin,abinInt,aapp,elems,appMore,appNone,preLen,aFa,aFld,apart,aExt,aPick,aNot,aLens,aEqa,cellsK,fitsA,LK.fitsA,leavesA,leafA,nilD,aNilc,aCint,aCid,alive,alen,alenOk,Rle,lePs,len_flat, c10, h0, a1, b1, h1, a2, b2, h2]
 refine run_countK n.cells.length 5 [(2, .ptr 0 0 0), (3, .ptr 1 0 0)] [.cells 0 m.cs, .cells 0 n.cs] (fun i => ∀ j : Nat, j < i → gi m.cells j = gi n.cells j) (Wk.sub (by simp [Tm.get])) (fun j hj => by omega) ?_
 intro i hi hj KK kx kr kn
 have hRl : al (RLB 2) [.cells 0 m.cs, .cells 0 n.cs] := ⟨mcs_RL _ _, mcs_RL _ _, trivial⟩
 by_cases h : i < n.cells.length
 ·have h' : i < m.cells.length := by omega
  have hnx := nxt h b1
  by_cases e : gi m.cells i = gi n.cells i
  ·simp (maxSteps := 3000000) [-List.length_flatten,-List.map_drop,-List.map_take,Function.comp_def,argsT,Opd.ev,Tm.get,put,ares,mapMo,ares1,snilP,bldParts,bslParts,putAt,AV.cells,AV.one,astore,aload,loadCs,callArgs,abin,abinInt,aapp,elems,appMore,appNone,preLen,aFa,aFld,apart,aExt,aPick,aNot,aLens,aEqa,cellsK,fitsA,LK.fitsA,leavesA,leafA,nilD,aNilc,aCint,aCid,alive,alen,alenOk,Rle,lePs,len_flat, h, h', h1, e, a1, b1]
   refine kn _ _ (Kn_next 2 (by omega) (by omega) (fun j hl => ?_) (by simp [Tm.get, hnx]) (by simp) rfl hRl)
   rcases Nat.lt_or_ge j i with h3 | h3
   ·exact hj j h3
   ·have : j = i := by omega
    subst this
    exact e
  ·have hne : m.cells ≠ n.cells := fun h => e (by rw [h])
   by_cases f0 : (gi m.cells i).loc = (gi n.cells i).loc
   case neg =>
    simp (maxSteps := 3000000) [-List.length_flatten,-List.map_drop,-List.map_take,Function.comp_def,argsT,Opd.ev,Tm.get,put,ares,mapMo,ares1,snilP,bldParts,bslParts,putAt,AV.cells,AV.one,astore,aload,loadCs,callArgs,abin,abinInt,aapp,elems,appMore,appNone,preLen,aFa,aFld,apart,aExt,aPick,aNot,aLens,aEqa,cellsK,fitsA,LK.fitsA,leavesA,leafA,nilD,aNilc,aCint,aCid,alive,alen,alenOk,Rle,lePs,len_flat, h, h', h1, f0, a1, b1, kr]
    simp [sameM, hne]
   by_cases f1 : (gi m.cells i).kind = (gi n.cells i).kind
   case neg =>
    simp (maxSteps := 3000000) [-List.length_flatten,-List.map_drop,-List.map_take,Function.comp_def,argsT,Opd.ev,Tm.get,put,ares,mapMo,ares1,snilP,bldParts,bslParts,putAt,AV.cells,AV.one,astore,aload,loadCs,callArgs,abin,abinInt,aapp,elems,appMore,appNone,preLen,aFa,aFld,apart,aExt,aPick,aNot,aLens,aEqa,cellsK,fitsA,LK.fitsA,leavesA,leafA,nilD,aNilc,aCint,aCid,alive,alen,alenOk,Rle,lePs,len_flat, h, h', h1, f0, f1, a1, b1, kr]
    simp [sameM, hne]
   have f2 : ¬ (gi m.cells i).v = (gi n.cells i).v := fun f2 => e (by
    generalize gi m.cells i = x at *
    generalize gi n.cells i = y at *
    cases x; cases y; simp_all)
   simp (maxSteps := 3000000) [-List.length_flatten,-List.map_drop,-List.map_take,Function.comp_def,argsT,Opd.ev,Tm.get,put,ares,mapMo,ares1,snilP,bldParts,bslParts,putAt,AV.cells,AV.one,astore,aload,loadCs,callArgs,abin,abinInt,aapp,elems,appMore,appNone,preLen,aFa,aFld,apart,aExt,aPick,aNot,aLens,aEqa,cellsK,fitsA,LK.fitsA,leavesA,leafA,nilD,aNilc,aCint,aCid,alive,alen,alenOk,Rle,lePs,len_flat, h, h', h1, f0, f1, f2, a1, b1, kr]
   simp [sameM, hne]
 ·have e1 : m.cells = n.cells := eq_gi h1 (fun j hj' => hj j (by omega))
  simp (maxSteps := 3000000) [-List.length_flatten,-List.map_drop,-List.map_take,Function.comp_def,argsT,Opd.ev,Tm.get,put,ares,mapMo,ares1,snilP,bldParts,bslParts,putAt,AV.cells,AV.one,astore,aload,loadCs,callArgs,abin,abinInt,aapp,elems,appMore,appNone,preLen,aFa,aFld,apart,aExt,aPick,aNot,aLens,aEqa,cellsK,fitsA,LK.fitsA,leavesA,leafA,nilD,aNilc,aCint,aCid,alive,alen,alenOk,Rle,lePs,len_flat, h, h1, kx, a1, b1]
  refine run_countK n.stack.length 6 [(2, .ptr 0 0 0), (3, .ptr 1 0 0)] [.cells 0 m.cs, .cells 0 n.cs] (fun i => ∀ j : Nat, j < i → gi m.stack j = gi n.stack j) (Wk.sub (by simp [Tm.get])) (fun j hj => by omega) ?_
  clear kx kr kn hj hi h
  intro i hi hj KK kx kr kn
  by_cases h : i < n.stack.length
  ·have h' : i < m.stack.length := by omega
   have hnx := nxt h b2
   by_cases e : gi m.stack i = gi n.stack i
   ·simp (maxSteps := 3000000) [-List.length_flatten,-List.map_drop,-List.map_take,Function.comp_def,argsT,Opd.ev,Tm.get,put,ares,mapMo,ares1,snilP,bldParts,bslParts,putAt,AV.cells,AV.one,astore,aload,loadCs,callArgs,abin,abinInt,aapp,elems,appMore,appNone,preLen,aFa,aFld,apart,aExt,aPick,aNot,aLens,aEqa,cellsK,fitsA,LK.fitsA,leavesA,leafA,nilD,aNilc,aCint,aCid,alive,alen,alenOk,Rle,lePs,len_flat, h, h', h2, e, a2, b2]
    refine kn _ _ (Kn_next 2 (by omega) (by omega) (fun j hl => ?_) (by simp [Tm.get, hnx]) (by simp) rfl hRl)
    rcases Nat.lt_or_ge j i with h3 | h3
    ·exact hj j h3
    ·have : j = i := by omega
     subst this
     exact e
   ·have hne : m.stack ≠ n.stack := fun h => e (by rw [h])
    by_cases f0 : (gi m.stack i).body = (gi n.stack i).body
    case neg =>
     simp (maxSteps := 3000000) [-List.length_flatten,-List.map_drop,-List.map_take,Function.comp_def,argsT,Opd.ev,Tm.get,put,ares,mapMo,ares1,snilP,bldParts,bslParts,putAt,AV.cells,AV.one,astore,aload,loadCs,callArgs,abin,abinInt,aapp,elems,appMore,appNone,preLen,aFa,aFld,apart,aExt,aPick,aNot,aLens,aEqa,cellsK,fitsA,LK.fitsA,leavesA,leafA,nilD,aNilc,aCint,aCid,alive,alen,alenOk,Rle,lePs,len_flat, h, h', h2, f0, a2, b2, kr]
     simp [sameM, hne]
    by_cases f1 : (gi m.stack i).at' = (gi n.stack i).at'
    case neg =>
     simp (maxSteps := 3000000) [-List.length_flatten,-List.map_drop,-List.map_take,Function.comp_def,argsT,Opd.ev,Tm.get,put,ares,mapMo,ares1,snilP,bldParts,bslParts,putAt,AV.cells,AV.one,astore,aload,loadCs,callArgs,abin,abinInt,aapp,elems,appMore,appNone,preLen,aFa,aFld,apart,aExt,aPick,aNot,aLens,aEqa,cellsK,fitsA,LK.fitsA,leavesA,leafA,nilD,aNilc,aCint,aCid,alive,alen,alenOk,Rle,lePs,len_flat, h, h', h2, f0, f1, a2, b2, kr]
     simp [sameM, hne]
    have f2 : ¬ (gi m.stack i).call = (gi n.stack i).call := fun f2 => e (by
     generalize gi m.stack i = x at *
     generalize gi n.stack i = y at *
     cases x; cases y; simp_all)
    simp (maxSteps := 3000000) [-List.length_flatten,-List.map_drop,-List.map_take,Function.comp_def,argsT,Opd.ev,Tm.get,put,ares,mapMo,ares1,snilP,bldParts,bslParts,putAt,AV.cells,AV.one,astore,aload,loadCs,callArgs,abin,abinInt,aapp,elems,appMore,appNone,preLen,aFa,aFld,apart,aExt,aPick,aNot,aLens,aEqa,cellsK,fitsA,LK.fitsA,leavesA,leafA,nilD,aNilc,aCint,aCid,alive,alen,alenOk,Rle,lePs,len_flat, h, h', h2, f0, f1, f2, a2, b2, kr]
    simp [sameM, hne]
  ·have e2 : m.stack = n.stack := eq_gi h2 (fun j hj' => hj j (by omega))
   simp (maxSteps := 3000000) [-List.length_flatten,-List.map_drop,-List.map_take,Function.comp_def,argsT,Opd.ev,Tm.get,put,ares,mapMo,ares1,snilP,bldParts,bslParts,putAt,AV.cells,AV.one,astore,aload,loadCs,callArgs,abin,abinInt,aapp,elems,appMore,appNone,preLen,aFa,aFld,apart,aExt,aPick,aNot,aLens,aEqa,cellsK,fitsA,LK.fitsA,leavesA,leafA,nilD,aNilc,aCint,aCid,alive,alen,alenOk,Rle,lePs,len_flat, h, h2, kx, a2, b2]
   refine PF.call (eq31_PF _ _ hm'.e hn.e) 9 (by simp [lePs, -List.length_flatten, -List.map_drop, -List.map_take, Function.comp_def, len_flat]) ?_
   simp (maxSteps := 3000000) [-List.length_flatten,-List.map_drop,-List.map_take,Function.comp_def,argsT,Opd.ev,Tm.get,put,ares,mapMo,ares1,snilP,bldParts,bslParts,putAt,AV.cells,AV.one,astore,aload,loadCs,callArgs,abin,abinInt,aapp,elems,appMore,appNone,preLen,aFa,aFld,apart,aExt,aPick,aNot,aLens,aEqa,cellsK,fitsA,LK.fitsA,leavesA,leafA,nilD,aNilc,aCint,aCid,alive,alen,alenOk,Rle,lePs,len_flat, Kc]
   simp [sameM, h0, e1, e2]
end Go.AM

namespace Go.AM
open Go.Proofs
set_option maxRecDepth 100000
set_option linter.unusedVariables false
set_option linter.unusedSimpArgs false
def c13m : AFn := ⟨90, .seq (.reg false [⟨some 2, .box (.tmp 0), none⟩, ⟨some 3, .box (.tmp 1), none⟩, ⟨some 4, .mov (.lit .nilS), none⟩]) (.seq (.reg false [⟨some 13, .load 2 true (.tmp 2), none⟩, ⟨some 14, .call (.lit (.fn (.func 36) [] [])) [.tmp 13], none⟩, ⟨some 5, .mov (.tmp 14), none⟩]) (.seq (.reg false [⟨some 6, .mov (.lit .nilS), none⟩]) (.seq (.seq (.reg false [⟨some 7, .mov (.lit (.int .i64 0)), none⟩]) (.block 0 (.loop (.seq (.seq (.reg false [⟨some 15, .mov (.tmp 7), none⟩, ⟨some 16, .mov (.tmp 5), none⟩, ⟨some 17, .bin .lss (.tmp 15) (.tmp 16), none⟩]) (.cond (.tmp 17) .skip (.exit 0))) (.seq (.block 1 (.seq (.reg false [⟨some 8, .mov (.lit .nilS), none⟩]) (.seq (.seq (.reg false [⟨some 9, .mov (.lit (.int .i64 0)), none⟩]) (.block 2 (.loop (.seq (.seq (.reg false [⟨some 20, .mov (.tmp 9), none⟩, ⟨some 21, .mov (.tmp 5), none⟩, ⟨some 22, .fa 0 (.tmp 2), none⟩, ⟨some 23, .load 1 false (.tmp 22), none⟩, ⟨some 24, .len (.tmp 23), none⟩, ⟨some 25, .bin .add (.tmp 21) (.tmp 24), none⟩, ⟨some 26, .bin .lss (.tmp 20) (.tmp 25), none⟩]) (.cond (.tmp 26) .skip (.exit 2))) (.seq (.block 3 (.seq (.reg false [⟨some 10, .mov (.lit (.bool false)), none⟩]) (.seq (.seq (.reg false [⟨some 11, .mov (.lit (.int .i64 0)), none⟩]) (.block 4 (.loop (.seq (.seq (.reg false [⟨some 29, .mov (.tmp 11), none⟩, ⟨some 30, .fa 0 (.tmp 3), none⟩, ⟨some 31, .load 1 false (.tmp 30), none⟩, ⟨some 32, .len (.tmp 31), none⟩, ⟨some 33, .bin .lss (.tmp 29) (.tmp 32), none⟩]) (.cond (.tmp 33) .skip (.exit 4))) (.seq (.block 5 (.seq (.reg false [⟨some 36, .fa 0 (.tmp 3), none⟩, ⟨some 37, .load 1 false (.tmp 36), none⟩, ⟨some 38, .mov (.tmp 11), none⟩, ⟨some 39, .ia 3 (.tmp 37) (.tmp 38), none⟩, ⟨some 40, .load 3 true (.tmp 39), none⟩, ⟨some 12, .alloc [.int .i64 0, .int .i64 0, .int .i64 0], none⟩, ⟨none, .store 3 (.tmp 12) (.tmp 40), none⟩]) (.seq (.seq (.reg false [⟨some 41, .fa 0 (.tmp 12), none⟩, ⟨some 42, .load 1 false (.tmp 41), none⟩, ⟨some 43, .mov (.tmp 7), none⟩, ⟨some 44, .bin .eql (.tmp 42) (.tmp 43), none⟩, ⟨some 45, .mov (.tmp 44), none⟩, ⟨some 46, .fa 1 (.tmp 12), some ((45, true))⟩, ⟨some 47, .load 1 false (.tmp 46), some ((45, true))⟩, ⟨some 48, .bin .eql (.tmp 47) (.lit (.int .i64 1)), some ((45, true))⟩, ⟨some 49, .pick (.tmp 45) (.tmp 48) (.lit (.bool false)), none⟩]) (.cond (.tmp 49) (.reg false [⟨some 50, .mov (.tmp 10), none⟩, ⟨some 51, .mov (.tmp 50), none⟩, ⟨some 52, .fa 0 (.tmp 3), some ((51, false))⟩, ⟨some 53, .load 1 false (.tmp 52), some ((51, false))⟩, ⟨some 54, .fa 2 (.tmp 12), some ((51, false))⟩, ⟨some 55, .load 1 false (.tmp 54), some ((51, false))⟩, ⟨some 56, .ia 3 (.tmp 53) (.tmp 55), some ((51, false))⟩, ⟨some 57, .fa 0 (.tmp 56), some ((51, false))⟩, ⟨some 58, .load 1 false (.tmp 57), some ((51, false))⟩, ⟨some 59, .mov (.tmp 9), some ((51, false))⟩, ⟨some 60, .bin .eql (.tmp 58) (.tmp 59), some ((51, false))⟩, ⟨some 61, .pick (.tmp 51) (.lit (.bool true)) (.tmp 60), none⟩, ⟨some 10, .mov (.tmp 61), none⟩]) .skip)) (.seq (.reg false [⟨some 62, .fa 0 (.tmp 12), none⟩, ⟨some 63, .load 1 false (.tmp 62), none⟩, ⟨some 64, .mov (.tmp 7), none⟩, ⟨some 65, .bin .eql (.tmp 63) (.tmp 64), none⟩, ⟨some 66, .mov (.tmp 65), none⟩, ⟨some 67, .fa 1 (.tmp 12), some ((66, true))⟩, ⟨some 68, .load 1 false (.tmp 67), some ((66, true))⟩, ⟨some 69, .bin .eql (.tmp 68) (.lit (.int .i64 2)), some ((66, true))⟩, ⟨some 70, .pick (.tmp 66) (.tmp 69) (.lit (.bool false)), none⟩]) (.cond (.tmp 70) (.reg false [⟨some 71, .mov (.tmp 10), none⟩, ⟨some 72, .mov (.tmp 71), none⟩, ⟨some 73, .mov (.tmp 5), some ((72, false))⟩, ⟨some 74, .fa 2 (.tmp 12), some ((72, false))⟩, ⟨some 75, .load 1 false (.tmp 74), some ((72, false))⟩, ⟨some 76, .bin .add (.tmp 73) (.tmp 75), some ((72, false))⟩, ⟨some 77, .mov (.tmp 9), some ((72, false))⟩, ⟨some 78, .bin .eql (.tmp 76) (.tmp 77), some ((72, false))⟩, ⟨some 79, .pick (.tmp 72) (.lit (.bool true)) (.tmp 78), none⟩, ⟨some 10, .mov (.tmp 79), none⟩]) .skip))))) (.reg false [⟨some 34, .mov (.tmp 11), none⟩, ⟨some 35, .bin .add (.tmp 34) (.lit (.int .i64 1)), none⟩, ⟨some 11, .mov (.tmp 35), none⟩])))))) (.seq (.reg false [⟨some 80, .mov (.tmp 10), none⟩]) (.cond (.tmp 80) (.reg false [⟨some 81, .mov (.tmp 8), none⟩, ⟨some 82, .mov (.tmp 9), none⟩, ⟨some 83, .bslice 1 1 [.int .i64 0] [(0, .tmp 82)], none⟩, ⟨some 84, .app 1 8 (.tmp 81) (.tmp 83), none⟩, ⟨some 8, .mov (.tmp 84), none⟩]) .skip))))) (.reg false [⟨some 27, .mov (.tmp 9), none⟩, ⟨some 28, .bin .add (.tmp 27) (.lit (.int .i64 1)), none⟩, ⟨some 9, .mov (.tmp 28), none⟩])))))) (.seq .mark (.reg false [⟨some 85, .mov (.tmp 6), none⟩, ⟨some 86, .mov (.tmp 8), none⟩, ⟨some 87, .bslice 1 1 [.nilS] [(0, .tmp 86)], none⟩, ⟨some 88, .app 1 24 (.tmp 85) (.tmp 87), none⟩, ⟨some 6, .mov (.tmp 88), none⟩]))))) (.reg false [⟨some 18, .mov (.tmp 7), none⟩, ⟨some 19, .bin .add (.tmp 18) (.lit (.int .i64 1)), none⟩, ⟨some 7, .mov (.tmp 19), none⟩])))))) (.seq (.reg false [⟨some 89, .mov (.tmp 6), none⟩, ⟨some 4, .mov (.tmp 89), none⟩]) .ret)))), [.tmp 4]⟩
/-! ### What the cells hold, by the document -/
def an13 : An := ⟨[], [21]⟩
theorem c13m_ok : cFn Tryz.prog an13 Tryz.f13 = some c13m := by kernel_rfl
theorem locs36_PF (p : Pg) (hp : Fits p) (hl : (varsOf p).length + sitesN p.l ≤ 1000) : PF Tryz.prog 36 [.agg p.cs] (i64 ((varsOf p).length + sitesN p.l : Nat)) := by
 refine PFk 9 hm Tryz.func36 c36_ok (Nat.le_of_ble_eq_true rfl) (by simp) (by simp) ?_
 simp (maxSteps := 3000000) [-List.length_flatten,-List.map_drop,-List.map_take,Function.comp_def,argsT,Opd.ev,Tm.get,put,ares,mapMo,ares1,snilP,bldParts,bslParts,putAt,AV.cells,AV.one,astore,aload,loadCs,callArgs,abin,abinInt,aapp,elems,appMore,appNone,preLen,aFa,aFld,apart,aExt,aPick,aNot,aLens,aEqa,cellsK,fitsA,LK.fitsA,leavesA,leafA,nilD,aNilc,aCint,aCid,alive,alen,alenOk,Rle,lePs,len_flat, c36]
 refine ⟨_, vars_PF p hp, ?_⟩
 simp (maxSteps := 3000000) [-List.length_flatten,-List.map_drop,-List.map_take,Function.comp_def,argsT,Opd.ev,Tm.get,put,ares,mapMo,ares1,snilP,bldParts,bslParts,putAt,AV.cells,AV.one,astore,aload,loadCs,callArgs,abin,abinInt,aapp,elems,appMore,appNone,preLen,aFa,aFld,apart,aExt,aPick,aNot,aLens,aEqa,cellsK,fitsA,LK.fitsA,leavesA,leafA,nilD,aNilc,aCint,aCid,alive,alen,alenOk,Rle,lePs,len_flat, Kc]
 refine fun hv => ⟨_, sites_PF p (by have := hp.l; omega), ?_⟩
 have hw : IntKind.i64.wrap (((varsOf p).length : Int) + sitesN p.l) = ((varsOf p).length : Int) + sitesN p.l := w64 (by omega) (by omega)
 simp (maxSteps := 3000000) [-List.length_flatten,-List.map_drop,-List.map_take,Function.comp_def,argsT,Opd.ev,Tm.get,put,ares,mapMo,ares1,snilP,bldParts,bslParts,putAt,AV.cells,AV.one,astore,aload,loadCs,callArgs,abin,abinInt,aapp,elems,appMore,appNone,preLen,aFa,aFld,apart,aExt,aPick,aNot,aLens,aEqa,cellsK,fitsA,LK.fitsA,leavesA,leafA,nilD,aNilc,aCint,aCid,alive,alen,alenOk,Rle,lePs,len_flat, Kc, hw]
abbrev rws (a : List (List Int)) : AV := .rows false 1 (a.map fun l => [ints l])
/-- Does a cell put a number into a location's row? -/
def hit (p : Pg) (m : Mc) (n k : Nat) (c : Cl) : Bool := decide (c.loc = n) && ((decide (c.kind = 1) && decide ((gi m.cells c.v).loc = k)) || (decide (c.kind = 2) && decide ((locsN p : Int) + c.v = k)))
def hitJ (p : Pg) (m : Mc) (n k : Nat) : Nat → Bool
 | 0 => false
 | i + 1 => hitJ p m n k i || hit p m n k (gi m.cells i)
def rowH (p : Pg) (m : Mc) (n : Nat) : Nat → List Int
 | 0 => []
 | k + 1 => if hitJ p m n k m.cells.length then rowH p m n k ++ [(k : Int)] else rowH p m n k
def rowsH (p : Pg) (m : Mc) (n : Nat) : List (List Int) := (List.range n).map fun n => rowH p m n (locsN p + p.funs.length)
theorem rowsH_next (p : Pg) (m : Mc) (n : Nat) : rowsH p m (n + 1) = rowsH p m n ++ [rowH p m n (locsN p + p.funs.length)] := by simp [rowsH, List.range_succ]
theorem rowH_len (p : Pg) (m : Mc) (n : Nat) : ∀ k, (rowH p m n k).length ≤ k
 | 0 => by simp [rowH]
 | k + 1 => by
  have := rowH_len p m n k
  unfold rowH
  split <;> simp <;> omega
theorem pts_RL (n g : Nat) (ls : List (List Int)) : RLB n (.cells g (ls.map ints)) := by
 intro y hy
 obtain ⟨l, _, rfl⟩ := List.mem_map.1 hy
 simp
theorem iv_RL (n g : Nat) (l : List Int) : RLB n (.cells g (iv l)) := by
 intro y hy
 obtain ⟨l, _, rfl⟩ := List.mem_map.1 hy
 simp
theorem iv_fl (l : List Int) : fl (fun n => [i64 n]) l = iv l := by
 induction l with
 | nil => rfl
 | cons a l ih => rw [fl_cons, ih]; rfl
theorem rholds_PF {p : Pg} (hp : Of p) {m : Mc} (h : MOk p m) : PF Tryz.prog 13 [.agg p.cs, .agg m.cs] (rws (rowsH p m (locsN p))) := by
 refine PFk 9 hm Tryz.func13 c13m_ok (Nat.le_of_ble_eq_true rfl) (by simp) (by simp) ?_
 have hn := hp.neat
 have hlocs0 := hn.locs
 have hfu := hn.funs
 have hlocs := locs36_PF p hp.fits (by omega)
 have eloc : (varsOf p).length + sitesN p.l = locsN p := rfl
 rw [eloc] at hlocs hlocs0
 have hlA : locsN p ≤ maxA := by unfold maxA; omega
 have hfA : p.funs.length ≤ maxA := by unfold maxA; omega
 have hcA : m.cells.length ≤ maxA := by have := h.cs.few; unfold maxA; omega
 obtain ⟨W, hW⟩ : ∃ W : Nat, locsN p + p.funs.length = W := ⟨_, rfl⟩
 have hwW : IntKind.i64.wrap ((locsN p : Int) + p.funs.length) = (W : Int) := by rw [w64 (by omega) (by omega)]; omega
 have hWA : W ≤ maxA := by unfold maxA; omega
 simp (maxSteps := 3000000) [-List.length_flatten,-List.map_drop,-List.map_take,Function.comp_def,argsT,Opd.ev,Tm.get,put,ares,mapMo,ares1,snilP,bldParts,bslParts,putAt,AV.cells,AV.one,astore,aload,loadCs,callArgs,abin,abinInt,aapp,elems,appMore,appNone,preLen,aFa,aFld,apart,aExt,aPick,aNot,aLens,aEqa,cellsK,fitsA,LK.fitsA,leavesA,leafA,nilD,aNilc,aCint,aCid,alive,alen,alenOk,Rle,lePs,len_flat, c13m]
 refine PF.call hlocs 9 (by simp [lePs, -List.length_flatten, -List.map_drop, -List.map_take, Function.comp_def, len_flat]) ?_
 simp (maxSteps := 3000000) [-List.length_flatten,-List.map_drop,-List.map_take,Function.comp_def,argsT,Opd.ev,Tm.get,put,ares,mapMo,ares1,snilP,bldParts,bslParts,putAt,AV.cells,AV.one,astore,aload,loadCs,callArgs,abin,abinInt,aapp,elems,appMore,appNone,preLen,aFa,aFld,apart,aExt,aPick,aNot,aLens,aEqa,cellsK,fitsA,LK.fitsA,leavesA,leafA,nilD,aNilc,aCint,aCid,alive,alen,alenOk,Rle,lePs,len_flat, Kc]
 refine run_loopK (fun mm T H => ∃ n g : Nat, mm = locsN p - n ∧ n ≤ locsN p ∧ T = [(7, i64 n), (6, .loc 2 g 0 n 1 false), (5, i64 (locsN p)), (3, .ptr 1 0 0), (2, .ptr 0 0 0)] ∧ H = [.cells 0 p.cs, .cells 0 m.cs, .cells g ((rowsH p m n).map ints)])
  (locsN p) [(7, i64 (0 : Nat)), (6, .loc 2 0 0 0 1 false), (5, i64 (locsN p)), (3, .ptr 1 0 0), (2, .ptr 0 0 0)] [.cells 0 p.cs, .cells 0 m.cs, .cells 0 []]
  ((Wk.nil 6 1 (by simp [Tm.get])).trans (Wk.sub (by simp [Tm.get]))) ⟨0, 0, rfl, Nat.zero_le _, rfl, rfl⟩ ?_
 rintro mm T H ⟨n, g, rfl, hnl, rfl, rfl⟩ KK kx kr kn
 by_cases hlt : n < locsN p
 ·have hinx := nxt hlt hlA
  simp (maxSteps := 3000000) [-List.length_flatten,-List.map_drop,-List.map_take,Function.comp_def,argsT,Opd.ev,Tm.get,put,ares,mapMo,ares1,snilP,bldParts,bslParts,putAt,AV.cells,AV.one,astore,aload,loadCs,callArgs,abin,abinInt,aapp,elems,appMore,appNone,preLen,aFa,aFld,apart,aExt,aPick,aNot,aLens,aEqa,cellsK,fitsA,LK.fitsA,leavesA,leafA,nilD,aNilc,aCint,aCid,alive,alen,alenOk,Rle,lePs,len_flat, hlt]
  refine run_loopK (fun mm T H => ∃ k g' : Nat, mm = W - k ∧ k ≤ W ∧ T = [(9, i64 k), (8, .loc 3 g' 0 (rowH p m n k).length 1 false), (7, i64 n), (6, .loc 2 g 0 n 1 false), (5, i64 (locsN p)), (3, .ptr 1 0 0), (2, .ptr 0 0 0)] ∧ H = [.cells 0 p.cs, .cells 0 m.cs, .cells g ((rowsH p m n).map ints), .cells g' (iv (rowH p m n k))])
   W [(9, i64 (0 : Nat)), (8, .loc 3 0 0 0 1 false), (7, i64 n), (6, .loc 2 g 0 n 1 false), (5, i64 (locsN p)), (3, .ptr 1 0 0), (2, .ptr 0 0 0)] [.cells 0 p.cs, .cells 0 m.cs, .cells g ((rowsH p m n).map ints), .cells 0 []]
   ((Wk.nil 8 1 (by simp [Tm.get])).trans (Wk.sub (by simp [Tm.get]))) ⟨0, 0, rfl, Nat.zero_le _, rfl, rfl⟩ ?_
  rintro mm T H ⟨k, g', rfl, hk, rfl, rfl⟩ KI ix' ir inn
  have hrl := rowH_len p m n k
  by_cases hkw : k < W
  ·have hkn := nxt hkw hWA
   simp (maxSteps := 3000000) [-List.length_flatten,-List.map_drop,-List.map_take,Function.comp_def,argsT,Opd.ev,Tm.get,put,ares,mapMo,ares1,snilP,bldParts,bslParts,putAt,AV.cells,AV.one,astore,aload,loadCs,callArgs,abin,abinInt,aapp,elems,appMore,appNone,preLen,aFa,aFld,apart,aExt,aPick,aNot,aLens,aEqa,cellsK,fitsA,LK.fitsA,leavesA,leafA,nilD,aNilc,aCint,aCid,alive,alen,alenOk,Rle,lePs,len_flat, hkw, hfA, hwW]
   refine run_loopK (fun mm T H => ∃ i : Nat, mm = m.cells.length - i ∧ i ≤ m.cells.length ∧ T = [(11, i64 i), (10, .bool (hitJ p m n k i)), (9, i64 k), (8, .loc 3 g' 0 (rowH p m n k).length 1 false), (7, i64 n), (6, .loc 2 g 0 n 1 false), (5, i64 (locsN p)), (3, .ptr 1 0 0), (2, .ptr 0 0 0)] ∧ H = [.cells 0 p.cs, .cells 0 m.cs, .cells g ((rowsH p m n).map ints), .cells g' (iv (rowH p m n k))])
    m.cells.length [(11, i64 (0 : Nat)), (10, .bool false), (9, i64 k), (8, .loc 3 g' 0 (rowH p m n k).length 1 false), (7, i64 n), (6, .loc 2 g 0 n 1 false), (5, i64 (locsN p)), (3, .ptr 1 0 0), (2, .ptr 0 0 0)] [.cells 0 p.cs, .cells 0 m.cs, .cells g ((rowsH p m n).map ints), .cells g' (iv (rowH p m n k))]
    (Wk.sub (by simp [Tm.get])) ⟨0, rfl, Nat.zero_le _, rfl, rfl⟩ ?_
   rintro mm T H ⟨i, rfl, hi, rfl, rfl⟩ KJ jx jr jn
   have hRl : al (RLB 4) [.cells 0 p.cs, .cells 0 m.cs, .cells g ((rowsH p m n).map ints), .cells g' (iv (rowH p m n k))] := ⟨by simp [RLB], mcs_RL _ _, pts_RL _ _ _, iv_RL _ _ _, trivial⟩
   by_cases hic : i < m.cells.length
   ·have hjn := nxt hic hcA
    have hv := h.cs.vals _ (gi_mem hic)
    have hj : hitJ p m n k (i + 1) = (hitJ p m n k i || hit p m n k (gi m.cells i)) := rfl
    unfold hit at hj
    have next : ∀ T' X, al (fun q => Tm.get T' q.1 = q.2) [(11, i64 ((i + 1 : Nat) : Int)), (10, .bool (hitJ p m n k (i + 1))), (9, i64 k), (8, .loc 3 g' 0 (rowH p m n k).length 1 false), (7, i64 n), (6, .loc 2 g 0 n 1 false), (5, i64 (locsN p)), (3, .ptr 1 0 0), (2, .ptr 0 0 0)] →
      KJ .normal T' [.cells 0 p.cs, .cells 0 m.cs, .cells g ((rowsH p m n).map ints), .cells g' (iv (rowH p m n k)), X] := fun T' X hT =>
     jn _ _ (Kl_next (m.cells.length - (i + 1)) 4 (by omega) ⟨i + 1, rfl, hic, rfl, rfl⟩ hT (by simp) rfl hRl (by omega))
    generalize hitJ p m n k (i + 1) = b2 at *
    generalize hitJ p m n k i = b1 at *
    have hvv := fun e => hv.2.2.2.1 e
    have hv2 := fun e => hv.2.2.2.2 e
    generalize hcc : gi m.cells i = c at *
    by_cases e1 : c.loc = n
    ·by_cases e2 : c.kind = 1
     ·obtain ⟨v0, v1⟩ := hvv e2
      cases b1 with
      | true =>
       simp (maxSteps := 3000000) [-List.length_flatten,-List.map_drop,-List.map_take,Function.comp_def,argsT,Opd.ev,Tm.get,put,ares,mapMo,ares1,snilP,bldParts,bslParts,putAt,AV.cells,AV.one,astore,aload,loadCs,callArgs,abin,abinInt,aapp,elems,appMore,appNone,preLen,aFa,aFld,apart,aExt,aPick,aNot,aLens,aEqa,cellsK,fitsA,LK.fitsA,leavesA,leafA,nilD,aNilc,aCint,aCid,alive,alen,alenOk,Rle,lePs,len_flat, hic, hcA, hcc, e1, e2]
       exact next _ _ (by simp [Tm.get, hjn, hj])
      | false =>
       simp (maxSteps := 3000000) [-List.length_flatten,-List.map_drop,-List.map_take,Function.comp_def,argsT,Opd.ev,Tm.get,put,ares,mapMo,ares1,snilP,bldParts,bslParts,putAt,AV.cells,AV.one,astore,aload,loadCs,callArgs,abin,abinInt,aapp,elems,appMore,appNone,preLen,aFa,aFld,apart,aExt,aPick,aNot,aLens,aEqa,cellsK,fitsA,LK.fitsA,leavesA,leafA,nilD,aNilc,aCint,aCid,alive,alen,alenOk,Rle,lePs,len_flat, hic, hcA, hcc, e1, e2, v0, v1]
       exact next _ _ (by simp [Tm.get, hjn, hj, e1, e2])
     ·by_cases e3 : c.kind = 2
      ·obtain ⟨v0, v1⟩ := hv2 e3
       have hwv : IntKind.i64.wrap ((locsN p : Int) + c.v) = locsN p + c.v := by rw [w64 (by omega) (by omega)]
       cases b1 with
       | true =>
        simp (maxSteps := 3000000) [-List.length_flatten,-List.map_drop,-List.map_take,Function.comp_def,argsT,Opd.ev,Tm.get,put,ares,mapMo,ares1,snilP,bldParts,bslParts,putAt,AV.cells,AV.one,astore,aload,loadCs,callArgs,abin,abinInt,aapp,elems,appMore,appNone,preLen,aFa,aFld,apart,aExt,aPick,aNot,aLens,aEqa,cellsK,fitsA,LK.fitsA,leavesA,leafA,nilD,aNilc,aCint,aCid,alive,alen,alenOk,Rle,lePs,len_flat, hic, hcA, hcc, e1, e2, e3]
        exact next _ _ (by simp [Tm.get, hjn, hj])
       | false =>
        simp (maxSteps := 3000000) [-List.length_flatten,-List.map_drop,-List.map_take,Function.comp_def,argsT,Opd.ev,Tm.get,put,ares,mapMo,ares1,snilP,bldParts,bslParts,putAt,AV.cells,AV.one,astore,aload,loadCs,callArgs,abin,abinInt,aapp,elems,appMore,appNone,preLen,aFa,aFld,apart,aExt,aPick,aNot,aLens,aEqa,cellsK,fitsA,LK.fitsA,leavesA,leafA,nilD,aNilc,aCint,aCid,alive,alen,alenOk,Rle,lePs,len_flat, hic, hcA, hcc, e1, e2, e3, hwv]
        exact next _ _ (by simp [Tm.get, hjn, hj, e1, e2, e3])
      ·simp (maxSteps := 3000000) [-List.length_flatten,-List.map_drop,-List.map_take,Function.comp_def,argsT,Opd.ev,Tm.get,put,ares,mapMo,ares1,snilP,bldParts,bslParts,putAt,AV.cells,AV.one,astore,aload,loadCs,callArgs,abin,abinInt,aapp,elems,appMore,appNone,preLen,aFa,aFld,apart,aExt,aPick,aNot,aLens,aEqa,cellsK,fitsA,LK.fitsA,leavesA,leafA,nilD,aNilc,aCint,aCid,alive,alen,alenOk,Rle,lePs,len_flat, hic, hcA, hcc, e1, e2, e3]
       exact next _ _ (by simp [Tm.get, hjn, hj, e1, e2, e3])
    ·simp (maxSteps := 3000000) [-List.length_flatten,-List.map_drop,-List.map_take,Function.comp_def,argsT,Opd.ev,Tm.get,put,ares,mapMo,ares1,snilP,bldParts,bslParts,putAt,AV.cells,AV.one,astore,aload,loadCs,callArgs,abin,abinInt,aapp,elems,appMore,appNone,preLen,aFa,aFld,apart,aExt,aPick,aNot,aLens,aEqa,cellsK,fitsA,LK.fitsA,leavesA,leafA,nilD,aNilc,aCint,aCid,alive,alen,alenOk,Rle,lePs,len_flat, hic, hcA, hcc, e1]
     exact next _ _ (by simp [Tm.get, hjn, hj, e1])
   ·have ei : i = m.cells.length := by omega
    subst ei
    have hr : rowH p m n (k + 1) = if hitJ p m n k m.cells.length then rowH p m n k ++ [(k : Int)] else rowH p m n k := rfl
    have hlA2 : (rowH p m n k).length + 1 ≤ maxA := by unfold maxA; omega
    cases hh : hitJ p m n k m.cells.length with
    | true =>
     rw [hh, if_pos rfl] at hr
     simp (maxSteps := 3000000) [-List.length_flatten,-List.map_drop,-List.map_take,Function.comp_def,argsT,Opd.ev,Tm.get,put,ares,mapMo,ares1,snilP,bldParts,bslParts,putAt,AV.cells,AV.one,astore,aload,loadCs,callArgs,abin,abinInt,aapp,elems,appMore,appNone,preLen,aFa,aFld,apart,aExt,aPick,aNot,aLens,aEqa,cellsK,fitsA,LK.fitsA,leavesA,leafA,nilD,aNilc,aCint,aCid,alive,alen,alenOk,Rle,lePs,len_flat, hic, hcA, jx, hlA2]
     refine fun _ _ => ?_
     refine inn _ _ (Kl_sub (W - (k + 1)) ⟨k + 1, g' + 1, rfl, hkw, rfl, ?_⟩ ?_ (by omega))
     ·rw [hr]
      simp [iv]
     ·rw [hr]
      simp [Tm.get, hkn]
    | false =>
     rw [hh, if_neg (by simp)] at hr
     simp (maxSteps := 3000000) [-List.length_flatten,-List.map_drop,-List.map_take,Function.comp_def,argsT,Opd.ev,Tm.get,put,ares,mapMo,ares1,snilP,bldParts,bslParts,putAt,AV.cells,AV.one,astore,aload,loadCs,callArgs,abin,abinInt,aapp,elems,appMore,appNone,preLen,aFa,aFld,apart,aExt,aPick,aNot,aLens,aEqa,cellsK,fitsA,LK.fitsA,leavesA,leafA,nilD,aNilc,aCint,aCid,alive,alen,alenOk,Rle,lePs,len_flat, hic, hcA, jx]
     refine inn _ _ (Kl_sub (W - (k + 1)) ⟨k + 1, g', rfl, hkw, rfl, by rw [hr]⟩ (by simp [Tm.get, hkn, hr]) (by omega))
  ·have ek : k = W := by omega
   subst ek
   simp (maxSteps := 3000000) [-List.length_flatten,-List.map_drop,-List.map_take,Function.comp_def,argsT,Opd.ev,Tm.get,put,ares,mapMo,ares1,snilP,bldParts,bslParts,putAt,AV.cells,AV.one,astore,aload,loadCs,callArgs,abin,abinInt,aapp,elems,appMore,appNone,preLen,aFa,aFld,apart,aExt,aPick,aNot,aLens,aEqa,cellsK,fitsA,LK.fitsA,leavesA,leafA,nilD,aNilc,aCint,aCid,alive,alen,alenOk,Rle,lePs,len_flat, hkw, hfA, hwW, ix']
   have hch := chunk_fl (f := fun n : Int => [i64 n]) (sz := 1) (by simp) (rowH p m n k)
   rw [iv_fl] at hch
   refine run_markT [(8, ints (rowH p m n k)), (7, i64 n), (6, .loc 2 g 0 n 1 false), (5, i64 (locsN p)), (3, .ptr 1 0 0), (2, .ptr 0 0 0)] [.cells 0 p.cs, .cells 0 m.cs, .cells g ((rowsH p m n).map ints)]
    ((Wk.freeze (i := 3) (g := g') (off := 0) (len := (rowH p m n k).length) (sz := 1) (c := false) (cs := iv (rowH p m n k)) 8 (by simp [Tm.get]) rfl (by simp)).trans (Wk.tell 3 (by omega) (by simp [Tm.get, hch]) (by simp) rfl ⟨by simp [RLB], mcs_RL _ _, pts_RL _ _ _, trivial⟩)) ?_
   have hptl : (rowsH p m n).length = n := by simp [rowsH]
   have htk : ((rowsH p m n).map ints).take n = (rowsH p m n).map ints := List.take_of_length_le (by simp [hptl])
   have hnA : n + 1 ≤ maxA := by omega
   simp (maxSteps := 3000000) [-List.length_flatten,-List.map_drop,-List.map_take,Function.comp_def,argsT,Opd.ev,Tm.get,put,ares,mapMo,ares1,snilP,bldParts,bslParts,putAt,AV.cells,AV.one,astore,aload,loadCs,callArgs,abin,abinInt,aapp,elems,appMore,appNone,preLen,aFa,aFld,apart,aExt,aPick,aNot,aLens,aEqa,cellsK,fitsA,LK.fitsA,leavesA,leafA,nilD,aNilc,aCint,aCid,alive,alen,alenOk,Rle,lePs,len_flat, hptl, htk, hnA]
   refine fun _ _ => ?_
   refine kn _ _ (Kl_sub (locsN p - (n + 1)) ⟨n + 1, g + 1, rfl, hlt, rfl, ?_⟩ (by simp [Tm.get, hinx]) (by omega))
   rw [rowsH_next, hW]
   simp
 ·have en : n = locsN p := by omega
  subst en
  have hpl : (rowsH p m (locsN p)).length = locsN p := by simp [rowsH]
  have hch1 := chunk1 (locsN p) ((rowsH p m (locsN p)).map ints) (by simp [hpl])
  have htk : ((rowsH p m (locsN p)).map ints).take (locsN p) = (rowsH p m (locsN p)).map ints := List.take_of_length_le (by simp [hpl])
  rw [htk] at hch1
  simp (maxSteps := 3000000) [-List.length_flatten,-List.map_drop,-List.map_take,Function.comp_def,argsT,Opd.ev,Tm.get,put,ares,mapMo,ares1,snilP,bldParts,bslParts,putAt,AV.cells,AV.one,astore,aload,loadCs,callArgs,abin,abinInt,aapp,elems,appMore,appNone,preLen,aFa,aFld,apart,aExt,aPick,aNot,aLens,aEqa,cellsK,fitsA,LK.fitsA,leavesA,leafA,nilD,aNilc,aCint,aCid,alive,alen,alenOk,Rle,lePs,len_flat, hlt, kx]
  rw [if_pos (by omega), hch1]
  simp [leP]
end Go.AM

namespace Go.AM
open Go.Proofs
set_option maxRecDepth 100000
set_option linter.unusedVariables false
set_option linter.unusedSimpArgs false
def c3 : AFn := ⟨76,.seq (.reg false [⟨some 2,.box (.tmp 0),none⟩,⟨some 4,.mov (.lit (.bool false)),none⟩]) (.seq (.reg false [⟨some 10,.call (.lit (.fn (.func 4) [] [])) [],none⟩,⟨some 5,.mov (.tmp 10),none⟩]) (.seq (.seq (.reg false [⟨some 11,.load 2 true (.tmp 2),none⟩,⟨some 12,.call (.lit (.fn (.func 5) [] [])) [.tmp 11],none⟩,⟨some 13,.not (.tmp 12),none⟩,⟨some 14,.mov (.tmp 13),none⟩,⟨some 15,.mov (.tmp 1),some ((14,false))⟩,⟨some 16,.len (.tmp 15),some ((14,false))⟩,⟨some 17,.bin .gtr (.tmp 16) (.lit (.int .i64 100)),some ((14,false))⟩,⟨some 18,.pick (.tmp 14) (.lit (.bool true)) (.tmp 17),none⟩]) (.cond (.tmp 18) (.seq (.reg false [⟨some 19,.mov (.tmp 5),none⟩,⟨some 4,.mov (.tmp 19),none⟩]) .ret) .skip)) (.seq (.reg false [⟨some 20,.load 2 true (.tmp 2),none⟩,⟨some 21,.call (.lit (.fn (.func 6) [] [])) [.tmp 20],none⟩,⟨some 6,.alloc [.nilS,.nilS,.nilS,.int .i64 0],none⟩,⟨none,.store 4 (.tmp 6) (.tmp 21),none⟩]) (.seq (.reg false [⟨some 22,.load 2 true (.tmp 2),none⟩,⟨some 23,.call (.lit (.fn (.func 7) [] [])) [.tmp 22],none⟩,⟨some 7,.alloc [.nilS,.nilS,.nilS,.int .i64 0],none⟩,⟨none,.store 4 (.tmp 7) (.tmp 23),none⟩]) (.seq (.seq (.reg false [⟨some 8,.mov (.lit (.int .i64 0)),none⟩]) (.block 0 (.loop (.seq (.seq (.reg false [⟨some 24,.mov (.tmp 8),none⟩,⟨some 25,.mov (.tmp 1),none⟩,⟨some 26,.len (.tmp 25),none⟩,⟨some 27,.bin .lss (.tmp 24) (.tmp 26),none⟩]) (.cond (.tmp 27) .skip (.exit 0))) (.seq (.block 1 (.seq (.reg true [⟨some 30,.load 2 true (.tmp 2),none⟩,⟨some 31,.load 4 true (.tmp 6),none⟩,⟨some 32,.mov (.tmp 1),none⟩,⟨some 33,.mov (.tmp 8),none⟩,⟨some 34,.ia 1 (.tmp 32) (.tmp 33),none⟩,⟨some 35,.load 1 false (.tmp 34),none⟩,⟨some 36,.call (.lit (.fn (.func 8) [] [])) [.tmp 30,.tmp 31,.tmp 35],none⟩,⟨some 9,.alloc [.nilS,.nilS,.nilS,.int .i64 0],none⟩,⟨none,.store 4 (.tmp 9) (.tmp 36),none⟩]) (.seq (.reg true [⟨some 37,.load 2 true (.tmp 2),none⟩,⟨some 38,.load 4 true (.tmp 7),none⟩,⟨some 39,.mov (.tmp 1),none⟩,⟨some 40,.mov (.tmp 8),none⟩,⟨some 41,.ia 1 (.tmp 39) (.tmp 40),none⟩,⟨some 42,.load 1 false (.tmp 41),none⟩,⟨some 43,.call (.lit (.fn (.func 9) [] [])) [.tmp 37,.tmp 38,.tmp 42],none⟩,⟨none,.store 4 (.tmp 7) (.tmp 43),none⟩]) (.seq (.seq (.reg true [⟨some 44,.load 4 true (.tmp 9),none⟩,⟨some 45,.load 4 true (.tmp 7),none⟩,⟨some 46,.call (.lit (.fn (.func 10) [] [])) [.tmp 44,.tmp 45],none⟩,⟨some 47,.not (.tmp 46),none⟩,⟨some 48,.mov (.tmp 47),none⟩,⟨some 49,.load 2 true (.tmp 2),some ((48,false))⟩,⟨some 50,.load 4 true (.tmp 9),some ((48,false))⟩,⟨some 51,.call (.lit (.fn (.func 12) [] [])) [.tmp 49,.tmp 50],some ((48,false))⟩,⟨some 52,.load 2 true (.tmp 2),some ((48,false))⟩,⟨some 53,.load 4 true (.tmp 7),some ((48,false))⟩,⟨some 54,.call (.lit (.fn (.func 13) [] [])) [.tmp 52,.tmp 53],some ((48,false))⟩,⟨some 55,.call (.lit (.fn (.func 11) [] [])) [.tmp 51,.tmp 54],some ((48,false))⟩,⟨some 56,.not (.tmp 55),some ((48,false))⟩,⟨some 57,.pick (.tmp 48) (.lit (.bool true)) (.tmp 56),none⟩,⟨some 58,.mov (.tmp 57),none⟩,⟨some 59,.load 4 true (.tmp 6),some ((58,false))⟩,⟨some 60,.load 4 true (.tmp 9),some ((58,false))⟩,⟨some 61,.call (.lit (.fn (.func 14) [] [])) [.tmp 59,.tmp 60],some ((58,false))⟩,⟨some 62,.load 4 true (.tmp 6),some ((58,false))⟩,⟨some 63,.load 4 true (.tmp 9),some ((58,false))⟩,⟨some 64,.call (.lit (.fn (.func 10) [] [])) [.tmp 62,.tmp 63],some ((58,false))⟩,⟨some 65,.eqa true false [.bool] (.tmp 61) (.tmp 64),some ((58,false))⟩,⟨some 66,.pick (.tmp 58) (.lit (.bool true)) (.tmp 65),none⟩]) (.cond (.tmp 66) (.seq (.reg false [⟨some 4,.mov (.lit (.bool false)),none⟩]) .ret) .skip)) (.reg false [⟨some 67,.load 4 true (.tmp 9),none⟩,⟨none,.store 4 (.tmp 6) (.tmp 67),none⟩]))))) (.reg false [⟨some 28,.mov (.tmp 8),none⟩,⟨some 29,.bin .add (.tmp 28) (.lit (.int .i64 1)),none⟩,⟨some 8,.mov (.tmp 29),none⟩])))))) (.seq (.reg true [⟨some 68,.mov (.tmp 5),none⟩,⟨some 69,.mov (.tmp 68),none⟩,⟨some 70,.load 2 true (.tmp 2),some ((69,true))⟩,⟨some 71,.mov (.tmp 1),some ((69,true))⟩,⟨some 72,.call (.lit (.fn (.func 15) [] [])) [.tmp 70,.tmp 71],some ((69,true))⟩,⟨some 73,.load 4 true (.tmp 7),some ((69,true))⟩,⟨some 74,.call (.lit (.fn (.func 10) [] [])) [.tmp 72,.tmp 73],some ((69,true))⟩,⟨some 75,.pick (.tmp 69) (.tmp 74) (.lit (.bool false)),none⟩,⟨some 4,.mov (.tmp 75),none⟩]) .ret)))))),[.tmp 4]⟩
/-! ### The law of runs -/
theorem rise_int : ∀ {l m : List Int}, l.Pairwise (· < ·) → m.Pairwise (· < ·) → (∀ x, x ∈ l ↔ x ∈ m) → l = m
 | [], [], _, _, _ => rfl
 | [], b :: m, _, _, h => by have := (h b).2 (by simp); cases this
 | a :: l, [], _, _, h => by have := (h a).1 (by simp); cases this
 | a :: l, b :: m, h1, h2, h => by
  rw [List.pairwise_cons] at h1 h2
  have hab : a = b := by
   rcases List.mem_cons.1 ((h a).1 (by simp)) with e | e
   ·exact e
   ·rcases List.mem_cons.1 ((h b).2 (by simp)) with e' | e'
    ·exact e'.symm
    ·have := h2.1 a e
     have := h1.1 b e'
     omega
  subst hab
  rw [rise_int h1.2 h2.2 (fun x => ?_)]
  constructor
  ·intro hx
   rcases List.mem_cons.1 ((h x).1 (by simp [hx])) with rfl | hm
   ·have := h1.1 x hx; omega
   ·exact hm
  ·intro hx
   rcases List.mem_cons.1 ((h x).2 (by simp [hx])) with rfl | hm
   ·have := h2.1 x hx; omega
   ·exact hm
theorem comp_mem' {l : List Int} {x : Int} : x ∈ compI l ↔ x ∈ l := by
 unfold compI Go.Lib.compact Go.Lib.compactUpTo
 constructor
 ·intro h
  obtain ⟨j, hj, rfl⟩ := List.mem_map.1 h
  have hj2 := (List.mem_filter.1 hj).1
  have hj3 : j < l.length := by simpa using hj2
  simp [hj3]
 ·intro h
  obtain ⟨j, hj, rfl⟩ := List.getElem_of_mem h
  have key : ∀ j : Nat, (hj : j < l.length) → l[j] ∈ ((List.range l.length).filter (Go.Lib.keeps l.toArray)).map (l.toArray[·]!) := by
   intro j
   induction j with
   | zero =>
    intro hj
    refine List.mem_map.2 ⟨0, List.mem_filter.2 ⟨by simpa using hj, by simp [Go.Lib.keeps]⟩, by simp [hj]⟩
   | succ j ih =>
    intro hj
    by_cases hk : Go.Lib.keeps l.toArray (j + 1) = true
    ·exact List.mem_map.2 ⟨j + 1, List.mem_filter.2 ⟨by simpa using hj, hk⟩, by simp [hj]⟩
    ·have := ih (by omega)
     have e : l[j + 1] = l[j] := by
      have hj' : j < l.length := by omega
      simp [Go.Lib.keeps, hj, hj'] at hk
      exact hk
     rw [e]
     exact this
  exact key j hj
theorem comp_rise {l : List Int} (hs : l.Pairwise (· ≤ ·)) : (compI l).Pairwise (· < ·) := by
 unfold compI Go.Lib.compact Go.Lib.compactUpTo
 rw [List.pairwise_map, List.pairwise_filter]
 refine List.Pairwise.imp_of_mem (fun {a b} ha hb hab h1 h2 => ?_) (List.pairwise_lt_range (n := l.length))
 have ha' : a < l.length := by simpa using ha
 have hb' : b < l.length := by simpa using hb
 have hbp : b - 1 < l.length := by omega
 rw [List.pairwise_iff_getElem] at hs
 have e1 : l[b - 1] ≤ l[b] := hs (b - 1) b hbp hb' (by omega)
 have e2 : l[a] ≤ l[b - 1] := by
  rcases Nat.lt_or_ge a (b - 1) with h | h
  ·exact hs a (b - 1) ha' hbp h
  ·have : a = b - 1 := by omega
   subst this
   exact Int.le_refl _
 have e3 : l[b - 1] ≠ l[b] := by
  obtain ⟨b0, rfl⟩ : ∃ b0, b = b0 + 1 := ⟨b - 1, by omega⟩
  simp [Go.Lib.keeps, hb', show b0 < l.length by omega] at h2
  intro e; simp at e; exact h2 e.symm
 simp [ha', hb']
 omega
theorem sort_rise (l : List Int) : (sortI l).Pairwise (· ≤ ·) := by
 have := List.pairwise_mergeSort (le := fun x y : Int => decide (x ≤ y)) (fun a b c h1 h2 => by simp at *; omega) (fun a b => by simp; omega) l
 exact this.imp fun h => by simpa using h
theorem mem_rowH {p : Pg} {m : Mc} {n : Nat} {x : Int} : ∀ {w : Nat}, x ∈ rowH p m n w ↔ ∃ k : Nat, x = k ∧ k < w ∧ hitJ p m n k m.cells.length = true
 | 0 => by simp [rowH]
 | w + 1 => by
  unfold rowH
  split
  ·rename_i h
   simp only [List.mem_append, List.mem_singleton, mem_rowH]
   constructor
   ·rintro (⟨k, h1, h2, h3⟩ | h1)
    ·exact ⟨k, h1, by omega, h3⟩
    ·exact ⟨w, h1, by omega, h⟩
   ·rintro ⟨k, h1, h2, h3⟩
    rcases Nat.lt_or_ge k w with h4 | h4
    ·exact .inl ⟨k, h1, h4, h3⟩
    ·exact .inr (by omega)
  ·rename_i h
   rw [mem_rowH]
   constructor
   ·rintro ⟨k, h1, h2, h3⟩; exact ⟨k, h1, by omega, h3⟩
   ·rintro ⟨k, h1, h2, h3⟩
    have : k ≠ w := fun e => h (by subst e; exact h3)
    exact ⟨k, h1, by omega, h3⟩
theorem rowH_rise (p : Pg) (m : Mc) (n : Nat) : ∀ w, (rowH p m n w).Pairwise (· < ·)
 | 0 => by simp [rowH]
 | w + 1 => by
  unfold rowH
  split
  ·rw [List.pairwise_append]
   refine ⟨rowH_rise p m n w, by simp, fun a ha b hb => ?_⟩
   obtain ⟨k, rfl, h2, _⟩ := mem_rowH.1 ha
   simp at hb
   omega
  ·exact rowH_rise p m n w
theorem hitJ_iff {p : Pg} {m : Mc} {n k : Nat} : ∀ {i : Nat}, hitJ p m n k i = true ↔ ∃ j : Nat, j < i ∧ hit p m n k (gi m.cells j) = true
 | 0 => by simp [hitJ]
 | i + 1 => by
  simp only [hitJ, Bool.or_eq_true, hitJ_iff]
  constructor
  ·rintro (⟨j, h1, h2⟩ | h)
   ·exact ⟨j, by omega, h2⟩
   ·exact ⟨i, by omega, h⟩
  ·rintro ⟨j, h1, h2⟩
   rcases Nat.lt_or_ge j i with h3 | h3
   ·exact .inl ⟨j, h3, h2⟩
   ·have : j = i := by omega
    subst this
    exact .inr h2
theorem gzz {α : Type} [Inhabited α] {l : List α} {i : Int} (h : 0 ≤ i) : gi l (i.toNat : Int) = gi l i := by rw [Int.toNat_of_nonneg h]
theorem rows_holds {p : Pg} (hp : Of p) {m : Mc} (h : MOk p m) : rowsH p m (locsN p) = holdsF p m := by
 unfold rowsH holdsF
 refine List.map_congr_left fun n hn => ?_
 refine rise_int (rowH_rise p m n _) (comp_rise (sort_rise _)) fun x => ?_
 rw [mem_rowH, comp_mem']
 unfold sortI
 rw [List.mem_mergeSort, List.mem_filterMap]
 constructor
 ·rintro ⟨k, rfl, hk, hh⟩
  obtain ⟨j, hj, hh⟩ := hitJ_iff.1 hh
  refine ⟨_, gi_mem hj, ?_⟩
  unfold hit at hh
  unfold putsF
  simp at hh
  obtain ⟨h1, h2 | h2⟩ := hh
  ·simp [h1, h2.1, h2.2]
  ·simp [h1, h2.1, h2.2]
 ·rintro ⟨c, hc, hcx⟩
  obtain ⟨j, hj, rfl⟩ := List.getElem_of_mem hc
  have ej : m.cells[j] = gi m.cells (j : Int) := by simp [gi, List.getD, hj]
  rw [ej] at hcx
  have hv := h.cs.vals _ (gi_mem hj)
  generalize hcc : gi m.cells (j : Int) = c at *
  unfold putsF at hcx
  split at hcx
  ·rename_i hl
   split at hcx
   ·rename_i hk
    injection hcx with hcx
    obtain ⟨v0, v1⟩ := hv.2.2.2.1 hk
    obtain ⟨a, b⟩ := h.cs.locs c.v.toNat (by omega)
    rw [gzz v0] at a b
    have h0 : 0 ≤ (gi m.cells c.v).loc ∧ (gi m.cells c.v).loc < locsN p := by
     unfold locsN
     rcases Nat.lt_or_ge c.v.toNat (varsOf p).length with h | h
     ·rw [a h]; omega
     ·have := b h; omega
    refine ⟨x.toNat, by omega, by omega, hitJ_iff.2 ⟨j, hj, ?_⟩⟩
    rw [hcc]
    simp [hit, hl, hk]
    omega
   ·split at hcx
    ·rename_i hk
     injection hcx with hcx
     obtain ⟨v0, v1⟩ := hv.2.2.2.2 hk
     refine ⟨x.toNat, by omega, by omega, hitJ_iff.2 ⟨j, hj, ?_⟩⟩
     rw [hcc]
     simp [hit, hl, hk]
     omega
    ·cases hcx
  ·cases hcx
theorem ints32_PF (l : List Int) (hl : l.length ≤ 1000000) : PF Tryz.prog 32 [ints l, ints l] (.bool true) := by
 refine PFk 9 hm Tryz.func32 c32_ok (Nat.le_of_ble_eq_true rfl) (by simp) (by simp) ?_
 have hA : l.length ≤ maxA := by unfold maxA; omega
 simp (maxSteps := 3000000) [-List.length_flatten,-List.map_drop,-List.map_take,Function.comp_def,argsT,Opd.ev,Tm.get,put,ares,mapMo,ares1,snilP,bldParts,bslParts,putAt,AV.cells,AV.one,astore,aload,loadCs,callArgs,abin,abinInt,aapp,elems,appMore,appNone,preLen,aFa,aFld,apart,aExt,aPick,aNot,aLens,aEqa,cellsK,fitsA,LK.fitsA,leavesA,leafA,nilD,aNilc,aCint,aCid,alive,alen,alenOk,Rle,lePs,len_flat, c32, hA]
 refine run_countK l.length 5 [(0, ints l), (1, ints l)] [] (fun _ => True) (Wk.sub (by simp [Tm.get])) trivial ?_
 intro i hi _ KK kx kr kn
 by_cases h : i < l.length
 ·simp (maxSteps := 3000000) [-List.length_flatten,-List.map_drop,-List.map_take,Function.comp_def,argsT,Opd.ev,Tm.get,put,ares,mapMo,ares1,snilP,bldParts,bslParts,putAt,AV.cells,AV.one,astore,aload,loadCs,callArgs,abin,abinInt,aapp,elems,appMore,appNone,preLen,aFa,aFld,apart,aExt,aPick,aNot,aLens,aEqa,cellsK,fitsA,LK.fitsA,leavesA,leafA,nilD,aNilc,aCint,aCid,alive,alen,alenOk,Rle,lePs,len_flat, h, hA]
  exact kn _ _ (Kn_next 0 (by omega) (by omega) trivial (by simp [Tm.get, nxt h hA]) (by simp) rfl (by simp))
 ·simp (maxSteps := 3000000) [-List.length_flatten,-List.map_drop,-List.map_take,Function.comp_def,argsT,Opd.ev,Tm.get,put,ares,mapMo,ares1,snilP,bldParts,bslParts,putAt,AV.cells,AV.one,astore,aload,loadCs,callArgs,abin,abinInt,aapp,elems,appMore,appNone,preLen,aFa,aFld,apart,aExt,aPick,aNot,aLens,aEqa,cellsK,fitsA,LK.fitsA,leavesA,leafA,nilD,aNilc,aCint,aCid,alive,alen,alenOk,Rle,lePs,len_flat, h, hA, kx]
theorem rows11_PF (a : List (List Int)) (ha : a.length ≤ 1000000) (hl : ∀ l ∈ a, l.length ≤ 1000000) : PF Tryz.prog 11 [rws a, rws a] (.bool true) := by
 refine PFk 9 hm Tryz.func11 c11_ok (Nat.le_of_ble_eq_true rfl) (by simp) (by simp) ?_
 have hA : a.length ≤ maxA := by unfold maxA; omega
 simp (maxSteps := 3000000) [-List.length_flatten,-List.map_drop,-List.map_take,Function.comp_def,argsT,Opd.ev,Tm.get,put,ares,mapMo,ares1,snilP,bldParts,bslParts,putAt,AV.cells,AV.one,astore,aload,loadCs,callArgs,abin,abinInt,aapp,elems,appMore,appNone,preLen,aFa,aFld,apart,aExt,aPick,aNot,aLens,aEqa,cellsK,fitsA,LK.fitsA,leavesA,leafA,nilD,aNilc,aCint,aCid,alive,alen,alenOk,Rle,lePs,len_flat, c11, hA]
 refine run_countK a.length 5 [(0, rws a), (1, rws a)] [] (fun _ => True) (Wk.sub (by simp [Tm.get])) trivial ?_
 intro i hi _ KK kx kr kn
 by_cases h : i < a.length
 ·simp (maxSteps := 3000000) [-List.length_flatten,-List.map_drop,-List.map_take,Function.comp_def,argsT,Opd.ev,Tm.get,put,ares,mapMo,ares1,snilP,bldParts,bslParts,putAt,AV.cells,AV.one,astore,aload,loadCs,callArgs,abin,abinInt,aapp,elems,appMore,appNone,preLen,aFa,aFld,apart,aExt,aPick,aNot,aLens,aEqa,cellsK,fitsA,LK.fitsA,leavesA,leafA,nilD,aNilc,aCint,aCid,alive,alen,alenOk,Rle,lePs,len_flat, h, hA]
  refine ⟨_, ints32_PF (gi a i) (hl _ (gi_mem h)), ?_⟩
  simp (maxSteps := 3000000) [-List.length_flatten,-List.map_drop,-List.map_take,Function.comp_def,argsT,Opd.ev,Tm.get,put,ares,mapMo,ares1,snilP,bldParts,bslParts,putAt,AV.cells,AV.one,astore,aload,loadCs,callArgs,abin,abinInt,aapp,elems,appMore,appNone,preLen,aFa,aFld,apart,aExt,aPick,aNot,aLens,aEqa,cellsK,fitsA,LK.fitsA,leavesA,leafA,nilD,aNilc,aCint,aCid,alive,alen,alenOk,Rle,lePs,len_flat, Kc]
  exact kn _ _ (Kn_next 0 (by omega) (by omega) trivial (by simp [Tm.get, nxt h hA]) (by simp) rfl (by simp))
 ·simp (maxSteps := 3000000) [-List.length_flatten,-List.map_drop,-List.map_take,Function.comp_def,argsT,Opd.ev,Tm.get,put,ares,mapMo,ares1,snilP,bldParts,bslParts,putAt,AV.cells,AV.one,astore,aload,loadCs,callArgs,abin,abinInt,aapp,elems,appMore,appNone,preLen,aFa,aFld,apart,aExt,aPick,aNot,aLens,aEqa,cellsK,fitsA,LK.fitsA,leavesA,leafA,nilD,aNilc,aCint,aCid,alive,alen,alenOk,Rle,lePs,len_flat, h, hA, kx]
theorem av_le2 (m : Mc) : leP 9 (.agg m.av) (.agg m.cs) := by
 obtain ⟨cs, st, es, h⟩ := m
 cases cs with
 | nil => simp [leP, lePs]
 | cons c cs => exact leP_refl _ _
theorem avs_le (m : Mc) : lePs (leP 9) m.av m.cs := by
 obtain ⟨cs, st, es, h⟩ := m
 cases cs with
 | nil => simp [leP, lePs]
 | cons c cs =>
  refine ⟨leP_refl _ _, leP_refl _ _, leP_refl _ _, leP_refl _ _, trivial⟩
theorem mav_RL (n : Nat) (m : Mc) : RL n (.agg m.av) := by
 refine .agg _ fun y hy => ?_
 simp only [List.mem_cons, List.not_mem_nil, or_false] at hy
 rcases hy with rfl | rfl | rfl | rfl
 ·unfold cellsV; split <;> simp
 ·simp
 ·exact pairs_RL _ _
 ·simp
theorem mavs_RL (n : Nat) (m : Mc) : RLB n (.cells 0 m.av) := by
 have := mav_RL n m
 cases this with
 | agg _ h => exact h
theorem two_mc {a b : AV} (ha : RL 0 a) (hb : RL 0 b) : ∀ x ∈ [a, b], RL 0 x := by
 intro x hx
 simp only [List.mem_cons, List.not_mem_nil, or_false] at hx
 rcases hx with rfl | rfl
 ·exact ha
 ·exact hb
theorem sameM_self (m : Mc) : sameM m m = true := by simp [sameM]
theorem MOk.few' {p : Pg} (hp : Of p) {m : Mc} (h : MOk p m) : FewM m := ⟨by have := h.cs.few; omega, by have := h.few; omega, by have := h.esLen hp.neat; omega⟩
theorem foldl_next2 {α β : Type} [Inhabited β] (f : α → β → α) (a : α) {l : List β} {i : Nat} (h : i < l.length) : (l.take (i + 1)).foldl f a = f ((l.take i).foldl f a) (gi l i) := by
 have e : gi l i = l[i] := by simp [gi, List.getD, h]
 rw [List.take_add_one, List.getElem?_eq_getElem h, e, List.foldl_append]
 rfl
theorem rnew_PF {p : Pg} (hp : Of p) : PF Tryz.prog 7 [.agg p.cs] (.agg (newF p).av) := by
 refine PFk 9 hm Tryz.func7 c7_ok (Nat.le_of_ble_eq_true rfl) (by simp) (mav_RL _ _) ?_
 have hl := hp.neat.locs
 have hA : (varsOf p).length ≤ maxA := by unfold maxA; omega
 simp (maxSteps := 3000000) [-List.length_flatten,-List.map_drop,-List.map_take,Function.comp_def,argsT,Opd.ev,Tm.get,put,ares,mapMo,ares1,snilP,bldParts,bslParts,putAt,AV.cells,AV.one,astore,aload,loadCs,callArgs,abin,abinInt,aapp,elems,appMore,appNone,preLen,aFa,aFld,apart,aExt,aPick,aNot,aLens,aEqa,cellsK,fitsA,LK.fitsA,leavesA,leafA,nilD,aNilc,aCint,aCid,alive,alen,alenOk,Rle,lePs,len_flat, c7]
 refine PF.call (vars_PF p hp.fits) 9 (by simp [lePs, -List.length_flatten, -List.map_drop, -List.map_take, Function.comp_def, len_flat]) ?_
 obtain ⟨n, hn⟩ : ∃ n, n = (varsOf p).length := ⟨_, rfl⟩
 unfold newF
 rw [← hn]
 by_cases h0 : n = 0
 ·have hz : varsOf p = [] := List.eq_nil_of_length_eq_zero (by omega)
  rw [h0, hz]
  simp (maxSteps := 3000000) [-List.length_flatten,-List.map_drop,-List.map_take,Function.comp_def,argsT,Opd.ev,Tm.get,put,ares,mapMo,ares1,snilP,bldParts,bslParts,putAt,AV.cells,AV.one,astore,aload,loadCs,callArgs,abin,abinInt,aapp,elems,appMore,appNone,preLen,aFa,aFld,apart,aExt,aPick,aNot,aLens,aEqa,cellsK,fitsA,LK.fitsA,leavesA,leafA,nilD,aNilc,aCint,aCid,alive,alen,alenOk,Rle,lePs,len_flat, Kc]
  refine run_loopK (fun m T H => T = [(5, i64 0), (4, .ptr 2 0 0), (3, strs []), (2, .ptr 1 0 0)] ∧ H = [.cells 0 p.cs, .cells 0 [.nilS, .nilS, .nilS, i64 0], .cells 0 [.nilS, .rows true 3 [[i64 (-1), i64 0, i64 (-1)]], .nilS, i64 0]]) 0
   [(5, i64 0), (4, .ptr 2 0 0), (3, strs []), (2, .ptr 1 0 0)] [.cells 0 p.cs, .cells 0 [.nilS, .nilS, .nilS, i64 0], .cells 0 [.nilS, .rows true 3 [[i64 (-1), i64 0, i64 (-1)]], .nilS, i64 0]] (Wk.sub (by simp [Tm.get])) ⟨rfl, rfl⟩ ?_
  rintro m T H ⟨rfl, rfl⟩ KK kx kr kn
  simp (maxSteps := 3000000) [-List.length_flatten,-List.map_drop,-List.map_take,Function.comp_def,argsT,Opd.ev,Tm.get,put,ares,mapMo,ares1,snilP,bldParts,bslParts,putAt,AV.cells,AV.one,astore,aload,loadCs,callArgs,abin,abinInt,aapp,elems,appMore,appNone,preLen,aFa,aFld,apart,aExt,aPick,aNot,aLens,aEqa,cellsK,fitsA,LK.fitsA,leavesA,leafA,nilD,aNilc,aCint,aCid,alive,alen,alenOk,Rle,lePs,len_flat, kx, newC]
 ·simp (maxSteps := 3000000) [-List.length_flatten,-List.map_drop,-List.map_take,Function.comp_def,argsT,Opd.ev,Tm.get,put,ares,mapMo,ares1,snilP,bldParts,bslParts,putAt,AV.cells,AV.one,astore,aload,loadCs,callArgs,abin,abinInt,aapp,elems,appMore,appNone,preLen,aFa,aFld,apart,aExt,aPick,aNot,aLens,aEqa,cellsK,fitsA,LK.fitsA,leavesA,leafA,nilD,aNilc,aCint,aCid,alive,alen,alenOk,Rle,lePs,len_flat, Kc, hA]
  refine run_loopK (fun m T H => ∃ i g : Nat, m = n - i ∧ i ≤ n ∧ T = [(5, i64 i), (4, .ptr 2 0 0), (3, strs (varsOf p)), (2, .ptr 1 0 0)] ∧ H = [.cells 0 p.cs, .cells 0 [.nilS, .nilS, .nilS, i64 0], .cells 0 [.loc 3 g 0 i 3 false, .rows true 3 [[i64 (-1), i64 0, i64 (-1)]], .nilS, i64 0], .cells g ((newC i).map Cl.cs).flatten]) n
   [(5, i64 (0 : Nat)), (4, .ptr 2 0 0), (3, strs (varsOf p)), (2, .ptr 1 0 0)] [.cells 0 p.cs, .cells 0 [.nilS, .nilS, .nilS, i64 0], .cells 0 [.loc 3 0 0 0 3 false, .rows true 3 [[i64 (-1), i64 0, i64 (-1)]], .nilS, i64 0], .cells 0 []]
   ((Wk.sub (T' := [(5, i64 (0 : Nat)), (4, .ptr 2 0 0), (3, strs (varsOf p)), (2, .ptr 1 0 0)]) (by simp [Tm.get])).trans (Wk.own.trans (Wk.nilAt (H := [.cells 0 p.cs, .cells 0 [.nilS, .nilS, .nilS, i64 0], .cells 0 [.nilS, .rows true 3 [[i64 (-1), i64 0, i64 (-1)]], .nilS, i64 0], .cells 0 []]) 2 0 3 3 (g := 0) (cs := [.nilS, .rows true 3 [[i64 (-1), i64 0, i64 (-1)]], .nilS, i64 0]) rfl rfl rfl))) ⟨0, 0, rfl, by omega, rfl, rfl⟩ ?_
  rintro m T H ⟨i, g, rfl, hi, rfl, rfl⟩ KK kx kr kn
  have hlen : ((newC i).map Cl.cs).flatten.length = i * 3 := by
   rw [len_flat (sz := 3) (by simp), newC_len]
  by_cases h : i < n
  ·have i1 : i + 1 ≤ maxA := by omega
   have hI : (i : Int) < (varsOf p).length := by omega
   have h' : i < (varsOf p).length := by omega
   have tk : List.take (i * 3) ((newC i).map Cl.cs).flatten ++ [i64 i, i64 0, i64 0] = ((newC (i + 1)).map Cl.cs).flatten := by
    have := app_one (f := Cl.cs) (l := newC i) (sz := 3) (by simp) ⟨i, 0, 0⟩ rfl
    rw [← newC_next, newC_len] at this
    exact this
   simp (maxSteps := 3000000) [-List.length_flatten,-List.map_drop,-List.map_take,Function.comp_def,argsT,Opd.ev,Tm.get,put,ares,mapMo,ares1,snilP,bldParts,bslParts,putAt,AV.cells,AV.one,astore,aload,loadCs,callArgs,abin,abinInt,aapp,elems,appMore,appNone,preLen,aFa,aFld,apart,aExt,aPick,aNot,aLens,aEqa,cellsK,fitsA,LK.fitsA,leavesA,leafA,nilD,aNilc,aCint,aCid,alive,alen,alenOk,Rle,lePs,len_flat, h', hA, i1, hlen, tk]
   intro _ _
   exact kn _ _ (Kl_sub (n - (i + 1)) (T' := [(5, i64 (i + 1 : Nat)), (4, .ptr 2 0 0), (3, strs (varsOf p)), (2, .ptr 1 0 0)]) ⟨i + 1, g + 1, rfl, by omega, rfl, rfl⟩ (by simp [Tm.get, nxt h (show n ≤ maxA by omega)]) (by omega))
  ·have : i = n := by omega
   subst this
   have hne : newC i ≠ [] := fun e => by
    have := newC_len i
    rw [e] at this
    simp at this
    omega
   have hc := chunk_flat (sz := 3) (f := Cl.cs) (l := newC i) (by simp)
   rw [newC_len] at hc
   have h' : ¬ i < (varsOf p).length := by omega
   simp (maxSteps := 3000000) [-List.length_flatten,-List.map_drop,-List.map_take,Function.comp_def,argsT,Opd.ev,Tm.get,put,ares,mapMo,ares1,snilP,bldParts,bslParts,putAt,AV.cells,AV.one,astore,aload,loadCs,callArgs,abin,abinInt,aapp,elems,appMore,appNone,preLen,aFa,aFld,apart,aExt,aPick,aNot,aLens,aEqa,cellsK,fitsA,LK.fitsA,leavesA,leafA,nilD,aNilc,aCint,aCid,alive,alen,alenOk,Rle,lePs,len_flat, h', hA, kx, cellsV_ne hne, hc, hlen]
theorem c3_ok : cFn Tryz.prog an0 Tryz.f3 = some c3 := by kernel_rfl
set_option maxHeartbeats 2000000 in
theorem law3_PF (p : Pg) (hp : SmallP p) (l : List Int) (hl : l.length ≤ 1048576) : PF Tryz.prog 3 [.agg p.cs, ints l] (.bool true) := by
 refine PFk 9 hm Tryz.func3 c3_ok (Nat.le_of_ble_eq_true rfl) (by simp) (by simp) ?_
 have hA : l.length ≤ maxA := by unfold maxA; omega
 simp (maxSteps := 3000000) [-List.length_flatten,-List.map_drop,-List.map_take,Function.comp_def,argsT,Opd.ev,Tm.get,put,ares,mapMo,ares1,snilP,bldParts,bslParts,putAt,AV.cells,AV.one,astore,aload,loadCs,callArgs,abin,abinInt,aapp,elems,appMore,appNone,preLen,aFa,aFld,apart,aExt,aPick,aNot,aLens,aEqa,cellsK,fitsA,LK.fitsA,leavesA,leafA,nilD,aNilc,aCint,aCid,alive,alen,alenOk,Rle,lePs,len_flat, c3, hA]
 refine PF.call shown_c 9 (by simp [lePs, -List.length_flatten, -List.map_drop, -List.map_take, Function.comp_def, len_flat]) ?_
 simp (maxSteps := 3000000) [-List.length_flatten,-List.map_drop,-List.map_take,Function.comp_def,argsT,Opd.ev,Tm.get,put,ares,mapMo,ares1,snilP,bldParts,bslParts,putAt,AV.cells,AV.one,astore,aload,loadCs,callArgs,abin,abinInt,aapp,elems,appMore,appNone,preLen,aFa,aFld,apart,aExt,aPick,aNot,aLens,aEqa,cellsK,fitsA,LK.fitsA,leavesA,leafA,nilD,aNilc,aCint,aCid,alive,alen,alenOk,Rle,lePs,len_flat, Kc]
 refine PFE.call (of_E p hp) 9 (by simp [lePs, -List.length_flatten, -List.map_drop, -List.map_take, Function.comp_def, len_flat]) ?_
 rintro _ ⟨b, rfl, hb⟩
 cases b with
 | false => simp (maxSteps := 3000000) [-List.length_flatten,-List.map_drop,-List.map_take,Function.comp_def,argsT,Opd.ev,Tm.get,put,ares,mapMo,ares1,snilP,bldParts,bslParts,putAt,AV.cells,AV.one,astore,aload,loadCs,callArgs,abin,abinInt,aapp,elems,appMore,appNone,preLen,aFa,aFld,apart,aExt,aPick,aNot,aLens,aEqa,cellsK,fitsA,LK.fitsA,leavesA,leafA,nilD,aNilc,aCint,aCid,alive,alen,alenOk,Rle,lePs,len_flat, Kc]
 | true =>
  have hO := hb rfl
  by_cases h : (l.length : Int) ≤ 100
  ·have h' : ¬ (100 : Int) < l.length := by omega
   simp (maxSteps := 3000000) [-List.length_flatten,-List.map_drop,-List.map_take,Function.comp_def,argsT,Opd.ev,Tm.get,put,ares,mapMo,ares1,snilP,bldParts,bslParts,putAt,AV.cells,AV.one,astore,aload,loadCs,callArgs,abin,abinInt,aapp,elems,appMore,appNone,preLen,aFa,aFld,apart,aExt,aPick,aNot,aLens,aEqa,cellsK,fitsA,LK.fitsA,leavesA,leafA,nilD,aNilc,aCint,aCid,alive,alen,alenOk,Rle,lePs,len_flat, Kc, hA, h']
   refine PF.call (new_PF hO) 9 (by simp [lePs, -List.length_flatten, -List.map_drop, -List.map_take, Function.comp_def, len_flat]) ?_
   simp (maxSteps := 3000000) [-List.length_flatten,-List.map_drop,-List.map_take,Function.comp_def,argsT,Opd.ev,Tm.get,put,ares,mapMo,ares1,snilP,bldParts,bslParts,putAt,AV.cells,AV.one,astore,aload,loadCs,callArgs,abin,abinInt,aapp,elems,appMore,appNone,preLen,aFa,aFld,apart,aExt,aPick,aNot,aLens,aEqa,cellsK,fitsA,LK.fitsA,leavesA,leafA,nilD,aNilc,aCint,aCid,alive,alen,alenOk,Rle,lePs,len_flat, Kc]
   refine ⟨one_cellsV', ?_⟩
   refine PF.call (rnew_PF hO) 9 (by simp [lePs, -List.length_flatten, -List.map_drop, -List.map_take, Function.comp_def, len_flat]) ?_
   simp (maxSteps := 3000000) [-List.length_flatten,-List.map_drop,-List.map_take,Function.comp_def,argsT,Opd.ev,Tm.get,put,ares,mapMo,ares1,snilP,bldParts,bslParts,putAt,AV.cells,AV.one,astore,aload,loadCs,callArgs,abin,abinInt,aapp,elems,appMore,appNone,preLen,aFa,aFld,apart,aExt,aPick,aNot,aLens,aEqa,cellsK,fitsA,LK.fitsA,leavesA,leafA,nilD,aNilc,aCint,aCid,alive,alen,alenOk,Rle,lePs,len_flat, Kc]
   refine ⟨one_cellsV', ?_⟩
   refine run_loopK (fun mm T H => ∃ i : Nat, mm = l.length - i ∧ i ≤ l.length ∧ T = [(8, i64 i), (7, .ptr 2 0 0), (6, .ptr 1 0 0), (5, .bool true), (2, .ptr 0 0 0), (1, ints l)] ∧
     H = [.cells 0 p.cs, .cells 0 ((l.take i).foldl (doF p) (newF p)).av, .cells 0 ((l.take i).foldl (doF p) (newF p)).cs])
    l.length [(8, i64 (0 : Nat)), (7, .ptr 2 0 0), (6, .ptr 1 0 0), (5, .bool true), (2, .ptr 0 0 0), (1, ints l)] [.cells 0 p.cs, .cells 0 (newF p).av, .cells 0 (newF p).cs]
    ((Wk.sub (T' := [(8, i64 (0 : Nat)), (7, .ptr 2 0 0), (6, .ptr 1 0 0), (5, .bool true), (2, .ptr 0 0 0), (1, ints l)]) (by simp [Tm.get])).trans (Wk.leH (H := [.cells 0 p.cs, .cells 0 (newF p).av, .cells 0 (newF p).av]) 9 2 rfl (avs_le _))) ⟨0, rfl, Nat.zero_le _, rfl, rfl⟩ ?_
   rintro mm T H ⟨i, rfl, hi, rfl, rfl⟩ KK kx kr kn
   have hr : MOk p ((l.take i).foldl (doF p) (newF p)) := run_ok hO _ _ (new_ok hO)
   by_cases hil : i < l.length
   ·have hinx := nxt hil hA
    have hn := foldl_next2 (doF p) (newF p) hil
    generalize (l.take i).foldl (doF p) (newF p) = m at *
    have hd := doV_PF hO hr (gi l i)
    have hrd := rdo_PF hO hr (gi l i)
    have hx := (do_up hO hr (gi l i)).ok
    generalize doF p m (gi l i) = x at *
    have hfm := hr.few' hO
    have hfx := hx.few' hO
    have s1 : PF Tryz.prog 10 [.agg x.av, .agg x.cs] (.bool (sameM x x)) := (same10g_PF x x hfx hfx).le 9 ⟨av_le2 x, leP_refl _ _, trivial⟩ (two_mc (mav_RL _ _) (mc_RL _ _))
    rw [sameM_self] at s1
    have s2 : PF Tryz.prog 14 [.agg m.av, .agg x.av] (.bool (sameM m x)) := (same14_PF m x hfm hfx).le 9 ⟨av_le2 m, av_le2 x, trivial⟩ (two_mc (mav_RL _ _) (mav_RL _ _))
    have s3 : PF Tryz.prog 10 [.agg m.av, .agg x.av] (.bool (sameM m x)) := (same10g_PF m x hfm hfx).le 9 ⟨av_le2 m, av_le2 x, trivial⟩ (two_mc (mav_RL _ _) (mav_RL _ _))
    have hh := holds_PF hO hx
    have hrh := rholds_PF hO hx
    rw [rows_holds hO hx] at hrh
    have hro := rows11_PF (holdsF p x) (by simp [holdsF]; have := hO.neat.locs; unfold locsN; omega) (fun r hr2 => by
     obtain ⟨n, hn2, rfl⟩ := List.mem_map.1 (rows_holds hO hx ▸ hr2)
     have := rowH_len p x n (locsN p + p.funs.length)
     have := hO.neat.locs
     have := hO.neat.funs
     unfold locsN at *
     omega)
    simp (maxSteps := 3000000) [-List.length_flatten,-List.map_drop,-List.map_take,Function.comp_def,argsT,Opd.ev,Tm.get,put,ares,mapMo,ares1,snilP,bldParts,bslParts,putAt,AV.cells,AV.one,astore,aload,loadCs,callArgs,abin,abinInt,aapp,elems,appMore,appNone,preLen,aFa,aFld,apart,aExt,aPick,aNot,aLens,aEqa,cellsK,fitsA,LK.fitsA,leavesA,leafA,nilD,aNilc,aCint,aCid,alive,alen,alenOk,Rle,lePs,len_flat, hil]
    refine fun _ => ⟨_, hd, ?_⟩
    simp (maxSteps := 3000000) [-List.length_flatten,-List.map_drop,-List.map_take,Function.comp_def,argsT,Opd.ev,Tm.get,put,ares,mapMo,ares1,snilP,bldParts,bslParts,putAt,AV.cells,AV.one,astore,aload,loadCs,callArgs,abin,abinInt,aapp,elems,appMore,appNone,preLen,aFa,aFld,apart,aExt,aPick,aNot,aLens,aEqa,cellsK,fitsA,LK.fitsA,leavesA,leafA,nilD,aNilc,aCint,aCid,alive,alen,alenOk,Rle,lePs,len_flat, Kc, hil]
    refine ⟨one_cellsV', _, hrd, ?_⟩
    simp (maxSteps := 3000000) [-List.length_flatten,-List.map_drop,-List.map_take,Function.comp_def,argsT,Opd.ev,Tm.get,put,ares,mapMo,ares1,snilP,bldParts,bslParts,putAt,AV.cells,AV.one,astore,aload,loadCs,callArgs,abin,abinInt,aapp,elems,appMore,appNone,preLen,aFa,aFld,apart,aExt,aPick,aNot,aLens,aEqa,cellsK,fitsA,LK.fitsA,leavesA,leafA,nilD,aNilc,aCint,aCid,alive,alen,alenOk,Rle,lePs,len_flat, Kc]
    refine ⟨_, s1, ?_⟩
    simp (maxSteps := 3000000) [-List.length_flatten,-List.map_drop,-List.map_take,Function.comp_def,argsT,Opd.ev,Tm.get,put,ares,mapMo,ares1,snilP,bldParts,bslParts,putAt,AV.cells,AV.one,astore,aload,loadCs,callArgs,abin,abinInt,aapp,elems,appMore,appNone,preLen,aFa,aFld,apart,aExt,aPick,aNot,aLens,aEqa,cellsK,fitsA,LK.fitsA,leavesA,leafA,nilD,aNilc,aCint,aCid,alive,alen,alenOk,Rle,lePs,len_flat, Kc]
    refine ⟨_, hh, _, hrh, _, hro, ?_⟩
    simp (maxSteps := 3000000) [-List.length_flatten,-List.map_drop,-List.map_take,Function.comp_def,argsT,Opd.ev,Tm.get,put,ares,mapMo,ares1,snilP,bldParts,bslParts,putAt,AV.cells,AV.one,astore,aload,loadCs,callArgs,abin,abinInt,aapp,elems,appMore,appNone,preLen,aFa,aFld,apart,aExt,aPick,aNot,aLens,aEqa,cellsK,fitsA,LK.fitsA,leavesA,leafA,nilD,aNilc,aCint,aCid,alive,alen,alenOk,Rle,lePs,len_flat]
    refine ⟨_, s2, ?_⟩
    simp (maxSteps := 3000000) [-List.length_flatten,-List.map_drop,-List.map_take,Function.comp_def,argsT,Opd.ev,Tm.get,put,ares,mapMo,ares1,snilP,bldParts,bslParts,putAt,AV.cells,AV.one,astore,aload,loadCs,callArgs,abin,abinInt,aapp,elems,appMore,appNone,preLen,aFa,aFld,apart,aExt,aPick,aNot,aLens,aEqa,cellsK,fitsA,LK.fitsA,leavesA,leafA,nilD,aNilc,aCint,aCid,alive,alen,alenOk,Rle,lePs,len_flat, Kc]
    refine ⟨_, s3, ?_⟩
    simp (maxSteps := 3000000) [-List.length_flatten,-List.map_drop,-List.map_take,Function.comp_def,argsT,Opd.ev,Tm.get,put,ares,mapMo,ares1,snilP,bldParts,bslParts,putAt,AV.cells,AV.one,astore,aload,loadCs,callArgs,abin,abinInt,aapp,elems,appMore,appNone,preLen,aFa,aFld,apart,aExt,aPick,aNot,aLens,aEqa,cellsK,fitsA,LK.fitsA,leavesA,leafA,nilD,aNilc,aCint,aCid,alive,alen,alenOk,Rle,lePs,len_flat, Kc]
    refine ⟨one_cellsV', kn _ _ (Kl_next (l.length - (i + 1)) 3 (by omega) ⟨i + 1, rfl, hil, rfl, rfl⟩ (by simp [Tm.get, hinx]) (by simp) (by rw [hn]; rfl) ⟨by simp [RLB], mavs_RL _ _, mcs_RL _ _, trivial⟩ (by omega))⟩
   ·have ei : i = l.length := by omega
    subst ei
    rw [List.take_length]
    simp (maxSteps := 3000000) [-List.length_flatten,-List.map_drop,-List.map_take,Function.comp_def,argsT,Opd.ev,Tm.get,put,ares,mapMo,ares1,snilP,bldParts,bslParts,putAt,AV.cells,AV.one,astore,aload,loadCs,callArgs,abin,abinInt,aapp,elems,appMore,appNone,preLen,aFa,aFld,apart,aExt,aPick,aNot,aLens,aEqa,cellsK,fitsA,LK.fitsA,leavesA,leafA,nilD,aNilc,aCint,aCid,alive,alen,alenOk,Rle,lePs,len_flat, hil, hA, kx]
    refine ⟨_, run_PF hO l hl, ?_⟩
    have hr2 : MOk p (runF p l) := run_ok hO l _ (new_ok hO)
    have er : l.foldl (doF p) (newF p) = runF p l := rfl
    rw [er]
    generalize runF p l = x at *
    have hfx := hr2.few' hO
    have s1 : PF Tryz.prog 10 [.agg x.av, .agg x.cs] (.bool (sameM x x)) := (same10g_PF x x hfx hfx).le 9 ⟨av_le2 x, leP_refl _ _, trivial⟩ (two_mc (mav_RL _ _) (mc_RL _ _))
    rw [sameM_self] at s1
    simp (maxSteps := 3000000) [-List.length_flatten,-List.map_drop,-List.map_take,Function.comp_def,argsT,Opd.ev,Tm.get,put,ares,mapMo,ares1,snilP,bldParts,bslParts,putAt,AV.cells,AV.one,astore,aload,loadCs,callArgs,abin,abinInt,aapp,elems,appMore,appNone,preLen,aFa,aFld,apart,aExt,aPick,aNot,aLens,aEqa,cellsK,fitsA,LK.fitsA,leavesA,leafA,nilD,aNilc,aCint,aCid,alive,alen,alenOk,Rle,lePs,len_flat, Kc]
    refine ⟨_, s1, ?_⟩
    simp (maxSteps := 3000000) [-List.length_flatten,-List.map_drop,-List.map_take,Function.comp_def,argsT,Opd.ev,Tm.get,put,ares,mapMo,ares1,snilP,bldParts,bslParts,putAt,AV.cells,AV.one,astore,aload,loadCs,callArgs,abin,abinInt,aapp,elems,appMore,appNone,preLen,aFa,aFld,apart,aExt,aPick,aNot,aLens,aEqa,cellsK,fitsA,LK.fitsA,leavesA,leafA,nilD,aNilc,aCint,aCid,alive,alen,alenOk,Rle,lePs,len_flat, Kc]
  ·have h' : (100 : Int) < l.length := by omega
   simp (maxSteps := 3000000) [-List.length_flatten,-List.map_drop,-List.map_take,Function.comp_def,argsT,Opd.ev,Tm.get,put,ares,mapMo,ares1,snilP,bldParts,bslParts,putAt,AV.cells,AV.one,astore,aload,loadCs,callArgs,abin,abinInt,aapp,elems,appMore,appNone,preLen,aFa,aFld,apart,aExt,aPick,aNot,aLens,aEqa,cellsK,fitsA,LK.fitsA,leavesA,leafA,nilD,aNilc,aCint,aCid,alive,alen,alenOk,Rle,lePs,len_flat, Kc, hA, h']
end Go.AM
