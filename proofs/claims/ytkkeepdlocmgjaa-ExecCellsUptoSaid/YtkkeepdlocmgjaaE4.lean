/- Contracts of the program's functions. -/
import Derived.Test.YtkkeepdlocmgjaaE2
import Derived.Test.YtkkeepdlocmgjaaAm4
import Derived.KernelRfl
import Derived.Test.YtkkeepdlocmgjaaE3
import Derived.Shelf.Small.Bits
import Derived.Shelf.Strconv.Itoa0
import Derived.Shelf.Sort.Plain
import Derived.Shelf.Slices.Turned
import Derived.Ground.Names2Prog
import Derived.Shelf.Slices.CompactI
import Derived.Shelf.Slices.SearchI
import Derived.Shelf.Slices.Cells
import Derived.Shelf.Slices.In.SortNone
import Derived.Test.YtkkeepdlocmgjaaProg
namespace Go.AM
open Go.Proofs
set_option maxRecDepth 100000
set_option linter.unusedVariables false
set_option linter.unusedSimpArgs false
/-! ### What comes in -/
def tyFn : Ty := .struct [.str, .slice .str, .str]
def tyStm : Ty := .struct [.int .i64, .int .i64, .str, .str, .slice .str, .int .i64]
def tyProg : Ty := .struct [.slice tyFn, .slice tyStm]
theorem is_strs {cs : List AV} (h : (Ty.slice .str).is cs) : ∃ l : List ByteArray, cs = [strs l] ∧ smallL l := by
  simp only [Ty.is] at h
  obtain ⟨e1, rfl, hl1, hs1⟩ := h
  obtain ⟨l, rfl, hl⟩ := is_rows (f := fun s : ByteArray => [AV.str s]) (p := fun s => s.size ≤ lim) (fun u hu => hu) hs1
  exact ⟨l, rfl, by unfold lim at hl1; simpa using hl1, hl⟩
theorem is_bools {cs : List AV} (h : (Ty.slice .bool).is cs) : ∃ l : List Bool, cs = [.rows false 1 (l.map fun b => [AV.bool b])] ∧ l.length ≤ lm := by
  simp only [Ty.is] at h
  obtain ⟨e1, rfl, hl1, hs1⟩ := h
  obtain ⟨l, rfl, hl⟩ := is_rows (f := fun b : Bool => [AV.bool b]) (p := fun _ => True) (fun u hu => by obtain ⟨b, rfl⟩ := hu; exact ⟨b, rfl, trivial⟩) hs1
  exact ⟨l, rfl, by unfold lim at hl1; simpa using hl1⟩
theorem is_fn {cs : List AV} (h : tyFn.is cs) : ∃ f : Fn0, cs = f.cs ∧ f.name.size ≤ lm ∧ f.ret.size ≤ lm ∧ smallL f.params := by
  unfold tyFn at h
  rw [Ty.is] at h
  obtain ⟨_, _, rfl, h1, _, _, rfl, h2, _, _, rfl, h3, rfl⟩ := h
  obtain ⟨s, rfl, k1⟩ := is_str h1
  obtain ⟨l, rfl, k2⟩ := is_strs h2
  obtain ⟨r, rfl, k3⟩ := is_str h3
  exact ⟨⟨s, l, r⟩, rfl, k1, k3, k2⟩
theorem is_stm {cs : List AV} (h : tyStm.is cs) : ∃ s : Stm, cs = s.cs ∧ s.x.size ≤ lm ∧ s.y.size ≤ lm ∧ smallL s.args := by
  unfold tyStm at h
  rw [Ty.is] at h
  obtain ⟨_, _, rfl, h1, _, _, rfl, h2, _, _, rfl, h3, _, _, rfl, h4, _, _, rfl, h5, _, _, rfl, h6, rfl⟩ := h
  obtain ⟨k, rfl, _⟩ := is_int h1
  obtain ⟨n, rfl, _⟩ := is_int h2
  obtain ⟨x, rfl, k3⟩ := is_str h3
  obtain ⟨y, rfl, k4⟩ := is_str h4
  obtain ⟨l, rfl, k5⟩ := is_strs h5
  obtain ⟨m, rfl, _⟩ := is_int h6
  exact ⟨⟨k, n, x, y, l, m⟩, rfl, k3, k4, k5⟩
theorem is_prog {cs : List AV} (h : tyProg.is cs) : ∃ p : Pg, cs = p.cs ∧ SmallP p := by
  unfold tyProg at h
  rw [Ty.is] at h
  obtain ⟨_, _, rfl, h1, _, _, rfl, h2, rfl⟩ := h
  rw [Ty.is] at h1 h2
  obtain ⟨e1, rfl, l1, s1⟩ := h1
  obtain ⟨e2, rfl, l2, s2⟩ := h2
  obtain ⟨fs, rfl, q1⟩ := is_rows (f := Fn0.cs) (p := fun f => f.name.size ≤ lm ∧ f.ret.size ≤ lm ∧ smallL f.params) (fun u hu => is_fn hu) s1
  obtain ⟨l, rfl, q2⟩ := is_rows (f := Stm.cs) (p := fun s => s.x.size ≤ lm ∧ s.y.size ≤ lm ∧ smallL s.args) (fun u hu => is_stm hu) s2
  exact ⟨⟨fs, l⟩, rfl, by unfold lim at l1; simpa using l1, by unfold lim at l2; simpa using l2, q1, q2⟩
end Go.AM

namespace Go.AM
open Go.Proofs
set_option maxRecDepth 100000
set_option linter.unusedVariables false
set_option linter.unusedSimpArgs false
/-! ### What the cells hold: the parts -/
theorem sites28_PF (p : Pg) (hp : Fits p) : PF Try.prog 28 [.agg p.cs] (i64 (sitesN p.l)) := by
  refine PFk 9 hm Try.func28 c28_ok (Nat.le_of_ble_eq_true rfl) (by simp) (by simp) ?_
  have hA : p.l.length ≤ maxA := by have := hp.l; unfold maxA; omega
  simp (maxSteps := 3000000) [-List.length_flatten, -List.map_drop, -List.map_take, Function.comp_def, argsT, Opd.ev, Tm.get, put, ares, mapMo, ares1, snilP, bldParts, bslParts, putAt, AV.cells, AV.one, astore, aload, loadCs, callArgs, abin, abinInt, aapp, elems, appMore, appNone, preLen, aFa, aFld, apart, aExt, aPick, aNot, aLens, aEqa, cellsK, fitsA, LK.fitsA, leavesA, leafA, nilD, aNilc, aCint, aCid, alive, alen, alenOk, Rle, lePs, len_flat, c28, hA]
  refine run_loopK (fun m T H => ∃ i : Nat, m = p.l.length - i ∧ i ≤ p.l.length ∧ T = [(9, i64 i), (8, i64 p.l.length), (7, stms p.l), (3, i64 (sitesN (p.l.take i))), (1, .ptr 0 0 0)] ∧ H = [.cells 0 p.cs]) p.l.length
    [(9, i64 (0 : Nat)), (8, i64 p.l.length), (7, stms p.l), (3, i64 (0 : Nat)), (1, .ptr 0 0 0)] _ (Wk.sub (by simp [Tm.get])) ⟨0, rfl, by omega, by simp [sitesN], rfl⟩ ?_
  rintro m T H ⟨i, rfl, hi, rfl, rfl⟩ KK kx kr kn
  by_cases h : i < p.l.length
  · have e := sitesN_next h
    have hle : sitesN (p.l.take i) ≤ i := by
      have := List.countP_le_length (p := fun s : Stm => decide (s.kind = 2)) (l := p.l.take i)
      simp only [List.length_take] at this
      unfold sitesN
      omega
    by_cases h2 : (gi p.l i).kind = 2
    · rw [if_pos h2] at e
      simp (maxSteps := 3000000) [-List.length_flatten, -List.map_drop, -List.map_take, Function.comp_def, argsT, Opd.ev, Tm.get, put, ares, mapMo, ares1, snilP, bldParts, bslParts, putAt, AV.cells, AV.one, astore, aload, loadCs, callArgs, abin, abinInt, aapp, elems, appMore, appNone, preLen, aFa, aFld, apart, aExt, aPick, aNot, aLens, aEqa, cellsK, fitsA, LK.fitsA, leavesA, leafA, nilD, aNilc, aCint, aCid, alive, alen, alenOk, Rle, lePs, len_flat, h, h2]
      exact kn _ _ (Kl_next (p.l.length - (i + 1)) 1 (by simp) (T' := [(9, i64 (i + 1 : Nat)), (8, i64 p.l.length), (7, stms p.l), (3, i64 (sitesN (p.l.take (i + 1)))), (1, .ptr 0 0 0)]) ⟨i + 1, rfl, by omega, rfl, rfl⟩ (by simp [Tm.get, nxt h hA, e, nxt (show sitesN (p.l.take i) < i + 1 by omega) (by omega)]) (by simp) rfl (by simp [RLB]) (by omega))
    · rw [if_neg h2] at e
      simp (maxSteps := 3000000) [-List.length_flatten, -List.map_drop, -List.map_take, Function.comp_def, argsT, Opd.ev, Tm.get, put, ares, mapMo, ares1, snilP, bldParts, bslParts, putAt, AV.cells, AV.one, astore, aload, loadCs, callArgs, abin, abinInt, aapp, elems, appMore, appNone, preLen, aFa, aFld, apart, aExt, aPick, aNot, aLens, aEqa, cellsK, fitsA, LK.fitsA, leavesA, leafA, nilD, aNilc, aCint, aCid, alive, alen, alenOk, Rle, lePs, len_flat, h, h2]
      exact kn _ _ (Kl_next (p.l.length - (i + 1)) 1 (by simp) (T' := [(9, i64 (i + 1 : Nat)), (8, i64 p.l.length), (7, stms p.l), (3, i64 (sitesN (p.l.take (i + 1)))), (1, .ptr 0 0 0)]) ⟨i + 1, rfl, by omega, rfl, rfl⟩ (by simp [Tm.get, nxt h hA, e]) (by simp) rfl (by simp [RLB]) (by omega))
  · have : p.l.take i = p.l := List.take_of_length_le (by omega)
    rw [this]
    simp (maxSteps := 3000000) [-List.length_flatten, -List.map_drop, -List.map_take, Function.comp_def, argsT, Opd.ev, Tm.get, put, ares, mapMo, ares1, snilP, bldParts, bslParts, putAt, AV.cells, AV.one, astore, aload, loadCs, callArgs, abin, abinInt, aapp, elems, appMore, appNone, preLen, aFa, aFld, apart, aExt, aPick, aNot, aLens, aEqa, cellsK, fitsA, LK.fitsA, leavesA, leafA, nilD, aNilc, aCint, aCid, alive, alen, alenOk, Rle, lePs, len_flat, h, kx]
end Go.AM

namespace Go.Proofs
open Go.Shelf
def Try.lays189_ren : Go.Shelf.Ren := ⟨fun | 189 => 29 | 125 => 53 | 257 => 52 | 128 => 83 | 129 => 84 | 294 => 74 | 295 => 75 | 296 => 76 | 297 => 77 | 298 => 78 | 299 => 79 | 216 => 80 | 300 => 81 | 301 => 82 | 328 => 99 | 329 => 100 | 330 => 101 | 331 => 102 | 332 => 103 | 215 => 104 | 343 => 106 | n => n, fun | 28 => 26 | 3 => 3 | 46 => 100 | 0 => 0 | 51 => 126 | 53 => 128 | 4 => 4 | 183 => 118 | 182 => 117 | 131 => 123 | 5 => 5 | 9 => 9 | 218 => 136 | 222 => 140 | 228 => 144 | 229 => 105 | n => n, fun | n => n⟩
theorem Try.lays189 : Go.Proofs.Lays.n189 Try.prog Try.lays189_ren := {
  mixed := by kernel_rfl
  f125 := Try.func53.trans (congrArg some (by kernel_rfl))
  f128 := Try.func83.trans (congrArg some (by kernel_rfl))
  f129 := Try.func84.trans (congrArg some (by kernel_rfl))
  f189 := Try.func29.trans (congrArg some (by kernel_rfl))
  f215 := Try.func104.trans (congrArg some (by kernel_rfl))
  f216 := Try.func80.trans (congrArg some (by kernel_rfl))
  f257 := Try.func52.trans (congrArg some (by kernel_rfl))
  f294 := Try.func74.trans (congrArg some (by kernel_rfl))
  f295 := Try.func75.trans (congrArg some (by kernel_rfl))
  f296 := Try.func76.trans (congrArg some (by kernel_rfl))
  f297 := Try.func77.trans (congrArg some (by kernel_rfl))
  f298 := Try.func78.trans (congrArg some (by kernel_rfl))
  f299 := Try.func79.trans (congrArg some (by kernel_rfl))
  f300 := Try.func81.trans (congrArg some (by kernel_rfl))
  f301 := Try.func82.trans (congrArg some (by kernel_rfl))
  f328 := Try.func99.trans (congrArg some (by kernel_rfl))
  f329 := Try.func100.trans (congrArg some (by kernel_rfl))
  f330 := Try.func101.trans (congrArg some (by kernel_rfl))
  f331 := Try.func102.trans (congrArg some (by kernel_rfl))
  f332 := Try.func103.trans (congrArg some (by kernel_rfl))
  f343 := Try.func106.trans (congrArg some (by kernel_rfl))
  t0 := Try.underlying0
  a0 := Try.isAgg0
  z0 := Try.sizeOf0
  v0 := Try.zeroValue0
  t3 := Try.underlying3
  a3 := Try.isAgg3
  z3 := Try.sizeOf3
  v3 := Try.zeroValue3
  t4 := Try.underlying4
  a4 := Try.isAgg4
  z4 := Try.sizeOf4
  v4 := Try.zeroValue4
  t5 := Try.underlying5
  a5 := Try.isAgg5
  z5 := Try.sizeOf5
  v5 := Try.zeroValue5
  t9 := Try.underlying9
  a9 := Try.isAgg9
  z9 := Try.sizeOf9
  v9 := Try.zeroValue9
  t28 := Try.underlying26
  a28 := Try.isAgg26
  z28 := Try.sizeOf26
  v28 := Try.zeroValue26
  t46 := Try.underlying100
  a46 := Try.isAgg100
  z46 := Try.sizeOf100
  v46 := Try.zeroValue100
  t51 := Try.underlying126
  a51 := Try.isAgg126
  z51 := Try.sizeOf126
  v51 := Try.zeroValue126
  t53 := Try.underlying128
  a53 := Try.isAgg128
  z53 := Try.sizeOf128
  v53 := Try.zeroValue128
  t131 := Try.underlying123
  a131 := Try.isAgg123
  z131 := Try.sizeOf123
  v131 := Try.zeroValue123
  t182 := Try.underlying117
  a182 := Try.isAgg117
  z182 := Try.sizeOf117
  v182 := Try.zeroValue117
  t183 := Try.underlying118
  a183 := Try.isAgg118
  z183 := Try.sizeOf118
  v183 := Try.zeroValue118
  t218 := Try.underlying136
  a218 := Try.isAgg136
  z218 := Try.sizeOf136
  v218 := Try.zeroValue136
  t222 := Try.underlying140
  a222 := Try.isAgg140
  z222 := Try.sizeOf140
  v222 := Try.zeroValue140
  t228 := Try.underlying144
  a228 := Try.isAgg144
  z228 := Try.sizeOf144
  v228 := Try.zeroValue144
  t229 := Try.underlying105
  a229 := Try.isAgg105
  z229 := Try.sizeOf105
  v229 := Try.zeroValue105 }
open Go.Sort Go.RowKit in
theorem Try.slices_Sort_int (blk off cap : Nat) (zs : List Int) (w : World) (hH : Holds (Value.int .i64) w blk off zs.toArray) (hblk : blk < w.heap.size) (hsz : zs.length < 4611686018427387904) :
    Calls Try.prog 29 #[.slice (some ⟨blk, off, none⟩) zs.length cap] w fun e w' =>
      e = .returned (.tuple #[]) ∧ ∃ n os, w' = grow (putRow (Value.int .i64) (Sort.ahead w n) blk off (zs.mergeSort fun x y => decide (x ≤ y)).toArray) os := Any.slices_Sort_int Try.lays189 blk off cap zs w hH hblk hsz
def Try.laysNm220_ren : Go.Shelf.Ren := ⟨fun | 20 => 30 | n => n, fun | 22 => 26 | 3 => 3 | 4 => 4 | 0 => 0 | n => n, fun | n => n⟩
theorem Try.laysNm220 : Go.Proofs.Lays2.n20 Try.prog Try.laysNm220_ren := {
  mixed := by kernel_rfl
  f20 := Try.func30.trans (congrArg some (by kernel_rfl))
  t0 := Try.underlying0
  a0 := Try.isAgg0
  z0 := Try.sizeOf0
  v0 := Try.zeroValue0
  t3 := Try.underlying3
  a3 := Try.isAgg3
  z3 := Try.sizeOf3
  v3 := Try.zeroValue3
  t4 := Try.underlying4
  a4 := Try.isAgg4
  z4 := Try.sizeOf4
  v4 := Try.zeroValue4
  t22 := Try.underlying26
  a22 := Try.isAgg26
  z22 := Try.sizeOf26
  v22 := Try.zeroValue26
  i3 := by kernel_rfl }
open Go.RowKit Go.Lib Go.Sort in
/-- slices.Compact at []int, over an array: the library's two loops are walked. (LAID: no walk: one application.) -/
theorem Try.slices_Compact_int_arr (blk off cap : Nat) (d : Array Int) (w : World) (hH : Holds encI w blk off d) (hsz : d.size ≤ 9223372036854775807) (hcap : d.size ≤ cap) :
    Calls Try.prog 30 #[.slice (some ⟨blk, off, none⟩) d.size cap] w fun e w' => e = .returned (.slice (some ⟨blk, off, none⟩) (compactUpTo d d.size).length cap) ∧ ∃ q, w' = putRow encI (Sort.ahead w q) blk off (compactUpTo d d.size ++ List.replicate (d.size - (compactUpTo d d.size).length) 0).toArray := Any.slices_Compact_int_arr Try.laysNm220 blk off cap d w hH hsz hcap
open Go.RowKit Go.Lib Go.Sort in
/-- slices.Compact at []int: "Compact replaces consecutive runs of equal elements with a single copy. This is like the uniq command found on Unix. Compact modifies the contents of the slice s and returns the modified slice, which may have a smaller length. Compact zeroes the elements between the new length and the original length. The result preserves the nilness of s.": IT RETURNS THE SLICE CUT TO 'Lib.compact zs'; ITS CELLS HOLD 'Lib.compact zs', THEN ZERO VALUES up to the old length; all else is as it was, but for the count of draws. IN THE WORDS OF slices.Sort's CONTRACT ('Holds', 'putRow'): so the everyday 'slices.Sort(xs); xs = slices.Compact(xs)' goes from the one contract to the other. It asks 'zs.length ≤ cap' (every slice's: the reslicing 's[:k]' looks at it). Length 0, nil: '.._empty'. (LAID: no walk: one application.) -/
theorem Try.slices_Compact_int (blk off cap : Nat) (zs : List Int) (w : World) (hH : Holds (Value.int .i64) w blk off zs.toArray) (hsz : zs.length ≤ 9223372036854775807) (hcap : zs.length ≤ cap) :
    Calls Try.prog 30 #[.slice (some ⟨blk, off, none⟩) zs.length cap] w fun e w' => e = .returned (.slice (some ⟨blk, off, none⟩) (Lib.compact zs).length cap) ∧ ∃ q, w' = putRow (Value.int .i64) (Sort.ahead w q) blk off (Lib.compact zs ++ List.replicate (zs.length - (Lib.compact zs).length) 0).toArray := Any.slices_Compact_int Try.laysNm220 blk off cap zs w hH hsz hcap
end Go.Proofs

namespace Go.AM
open Go.Proofs
set_option maxRecDepth 100000
set_option linter.unusedVariables false
set_option linter.unusedSimpArgs false
/-! ### What the cells hold: the library -/
abbrev sortI (l : List Int) : List Int := l.mergeSort fun x y => decide (x ≤ y)
abbrev compI (l : List Int) : List Int := Go.Lib.compact l
theorem call29 : Callable Try.prog 29 := ⟨Try.f29, rfl, rfl, by kernel_rfl⟩
theorem call30 : Callable Try.prog 30 := ⟨Try.f30, rfl, rfl, by kernel_rfl⟩
theorem sort0 (c : Bool) : PF Try.prog 29 [.rows c 1 []] (.tuple []) := by
  cases c
  · exact PF_eval hm envOk pss 60 30 rfl (by kernel_rfl)
  · exact PF_eval hm envOk pss 60 30 rfl (by kernel_rfl)
theorem set_same {H : AHeap} {k : Nat} {b : ABlk} (h : H[k]? = some b) : H.set k b = H := by
  have hk := lt_of_get h
  rw [List.getElem?_eq_getElem hk] at h
  injection h with h
  rw [← h]
  exact List.set_getElem_self hk
theorem sort29_FT {H : AHeap} {k g : Nat} {l : List Int} (h : H[k]? = some (.cells g (i64s l))) :
    FT Try.prog 29 [.loc k g 0 l.length 1 false] H fun rv H' => rv = .tuple [] ∧ H' = H.set k (.cells g (i64s (sortI l))) := by
  by_cases h0 : l = []
  · subst h0
    refine PF.borrow (sort0 false) 9 9 rfl ?_ ⟨rfl, ?_⟩
    · simp [lePs, h, chunk]
    · rw [show sortI [] = [] from by simp [sortI], set_same h]
  · exact sort_FT (fun l => by simp [sortI]) call29 (fun blk off cap zs w a b d => Try.slices_Sort_int blk off cap zs w a b d) (List.length_pos_iff.2 h0) h
theorem hcl (l : List Int) : (compI l).length ≤ l.length := by
  unfold compI Go.Lib.compact Go.Lib.compactUpTo
  rw [List.length_map]
  exact Nat.le_trans (List.length_filter_le _ _) (by simp)
theorem comp30_FT {H : AHeap} {k g : Nat} {l : List Int} (h : H[k]? = some (.cells g (i64s l))) :
    FT Try.prog 30 [.loc k g 0 l.length 1 false] H fun rv H' => rv = .loc k g 0 (compI l).length 1 false ∧ ∃ zs : List Int, zs.length = l.length - (compI l).length ∧ H' = H.set k (.cells g (i64s (compI l ++ zs))) := by
  by_cases h0 : l = []
  · subst h0
    refine FTk hm Try.func30 c30_ok (Nat.le_of_ble_eq_true rfl) ?_
    simp (maxSteps := 3000000) [-List.length_flatten, -List.map_drop, -List.map_take, Function.comp_def, argsT, Opd.ev, Tm.get, put, ares, mapMo, ares1, snilP, bldParts, bslParts, putAt, AV.cells, AV.one, astore, aload, loadCs, callArgs, abin, abinInt, aapp, elems, appMore, appNone, preLen, aFa, aFld, apart, aExt, aPick, aNot, aLens, aEqa, cellsK, fitsA, LK.fitsA, leavesA, leafA, nilD, aNilc, aCint, aCid, alive, alen, alenOk, Rle, lePs, len_flat, c30, h]
    have e : compI [] = [] := rfl
    exact ⟨by rw [e]; rfl, by rw [e]; exact (set_same h).symm⟩
  · refine (cut_FT (S := fun l => compI l ++ List.replicate (l.length - (compI l).length) 0) (C := compI) (fun l => by have := hcl l; simp; omega) hcl call30 (fun blk off cap zs w a b d => ?_) (List.length_pos_iff.2 h0) h).mono ?_
    · refine (Try.slices_Compact_int blk off cap zs w a b d).mono ?_
      rintro e w' ⟨rfl, q, rfl⟩
      exact ⟨rfl, q, #[], by simp [rowW]⟩
    · rintro rv H' ⟨rfl, rfl⟩
      exact ⟨rfl, _, by simp, rfl⟩
end Go.AM

namespace Go.AM
open Go.Proofs
set_option maxRecDepth 100000
set_option linter.unusedVariables false
set_option linter.unusedSimpArgs false
/-! ### What the cells hold -/
def iv (l : List Int) : List AV := l.map fun n => AV.int .i64 n
@[simp] theorem iv_len (l : List Int) : (iv l).length = l.length := by simp [iv]
@[simp] theorem iv_take (l : List Int) : List.take l.length (iv l) = iv l := List.take_of_length_le (by simp)
theorem iv_app (l : List Int) (v : Int) : iv l ++ [AV.int .i64 v] = iv (l ++ [v]) := by simp [iv]
@[simp] theorem iv_nil : iv [] = [] := rfl
abbrev Rw := Nat × List Int
def rblk (r : Rw) : ABlk := .cells r.1 (iv r.2)
def outC (rs : List Rw) : List AV := rs.mapIdx fun i r => .loc (i + 3) r.1 0 r.2.length 1 false
@[simp] theorem outC_len (rs : List Rw) : (outC rs).length = rs.length := by simp [outC]
theorem outC_set {rs : List Rw} {N : Nat} {r : Rw} : (outC rs).set N (.loc (N + 3) r.1 0 r.2.length 1 false) = outC (rs.set N r) := by
  unfold outC
  rw [List.mapIdx_set]
theorem outC_get {rs : List Rw} {N : Nat} (h : N < rs.length) : (outC rs)[N]? = some (.loc (N + 3) (gi rs N).1 0 (gi rs N).2.length 1 false) := by
  simp [outC, gi, List.getD, h]
@[simp] theorem outC_get2 {rs : List Rw} {N : Nat} (h : N < (outC rs).length) : (outC rs)[N] = .loc (N + 3) (gi rs N).1 0 (gi rs N).2.length 1 false := by
  simp at h
  simp [outC, gi, List.getD, h]
def HH (p : Pg) (m : Mc) (oc : List AV) (rs : List Rw) : AHeap := .cells 0 p.cs :: .cells 0 m.av :: .cells 0 oc :: rs.map rblk
section
variable {p : Pg} {m : Mc} {oc : List AV} {rs : List Rw} {t : AHeap}
@[simp] theorem HH_len : (HH p m oc rs).length = rs.length + 3 := by simp [HH]
@[simp high] theorem HH_0 : (HH p m oc rs)[0]? = some (.cells 0 p.cs) := rfl
@[simp high] theorem HH_1 : (HH p m oc rs)[1]? = some (.cells 0 m.av) := rfl
@[simp high] theorem HH_2 : (HH p m oc rs)[2]? = some (.cells 0 oc) := rfl
@[simp high] theorem HH_0' : (HH p m oc rs ++ t)[0]? = some (.cells 0 p.cs) := rfl
@[simp high] theorem HH_1' : (HH p m oc rs ++ t)[1]? = some (.cells 0 m.av) := rfl
@[simp high] theorem HH_2' : (HH p m oc rs ++ t)[2]? = some (.cells 0 oc) := rfl
@[simp high] theorem HH_c {b : ABlk} : (HH p m oc rs ++ [b])[rs.length + 3]? = some b := by
  rw [List.getElem?_append_right (by simp)]
  simp
theorem HH_n {N : Nat} (h : N < rs.length) : (HH p m oc rs)[N + 3]? = some (.cells (gi rs N).1 (iv (gi rs N).2)) := by
  simp [HH, rblk, gi, List.getD, h]
theorem HH_n' {N : Nat} (h : N < rs.length) : (HH p m oc rs ++ t)[N + 3]? = some (.cells (gi rs N).1 (iv (gi rs N).2)) := by
  rw [List.getElem?_append_left (by simp; omega), HH_n h]
@[simp high] theorem HH_out {oc' : List AV} : (HH p m oc rs).set 2 (.cells 0 oc') = HH p m oc' rs := rfl
@[simp high] theorem HH_out' {oc' : List AV} : (HH p m oc rs ++ t).set 2 (.cells 0 oc') = HH p m oc' rs ++ t := rfl
@[simp high] theorem HH_row {N g : Nat} {l : List Int} : (HH p m oc rs).set (N + 3) (.cells g (iv l)) = HH p m oc (rs.set N (g, l)) := by
  simp [HH, rblk, List.map_set]
theorem HH_row' {N g : Nat} {l : List Int} (h : N < rs.length) : (HH p m oc rs ++ t).set (N + 3) (.cells g (iv l)) = HH p m oc (rs.set N (g, l)) ++ t := by
  rw [List.set_append_left _ _ (by simp; omega), HH_row]
end
theorem HH_al {p : Pg} {m : Mc} {rs : List Rw} : al (RLB (rs.length + 3)) (HH p m (outC rs) rs) := by
  have key : ∀ l : List Rw, al (RLB (rs.length + 3)) (l.map rblk) := by
    intro l
    induction l with
    | nil => trivial
    | cons r l ih =>
      refine ⟨?_, ih⟩
      intro y hy
      simp only [iv, List.mem_map] at hy
      obtain ⟨n, _, rfl⟩ := hy
      simp
  refine ⟨by simp [RLB], by simp [RLB], ?_, key rs⟩
  intro y hy
  simp only [outC, List.mem_mapIdx] at hy
  obtain ⟨i, hi, rfl⟩ := hy
  simp
  omega
theorem HH_take {p : Pg} {m : Mc} {oc : List AV} {rs : List Rw} {t : AHeap} : (HH p m oc rs ++ t).take (rs.length + 3) = HH p m oc rs := by
  rw [List.take_left' (by simp)]
/-- A row of slices that are nil ones, told as own empty ones. -/
theorem Wk.rows {lo : Nat} {T : Tm} {p : Pg} {m : Mc} {n : Nat} : Wk lo T [.cells 0 p.cs, .cells 0 m.av, .cells 0 (List.replicate n .nilS)] T (HH p m (outC (List.replicate n (0, []))) (List.replicate n (0, []))) := by
  have key : ∀ i : Nat, i ≤ n → Wk lo T [.cells 0 p.cs, .cells 0 m.av, .cells 0 (List.replicate n .nilS)] T (HH p m (outC (List.replicate i (0, [])) ++ List.replicate (n - i) .nilS) (List.replicate i (0, []))) := by
    intro i
    induction i with
    | zero => intro _; exact fun X E0 w0 n a w hlo hs => hs
    | succ i ih =>
      intro hi
      have e1 : List.replicate (i + 1) ((0, []) : Rw) = List.replicate i (0, []) ++ [(0, [])] := List.replicate_succ'
      have e2 : outC (List.replicate i ((0, []) : Rw) ++ [(0, [])]) = outC (List.replicate i (0, [])) ++ [.loc (i + 3) 0 0 0 1 false] := by
        unfold outC
        rw [List.mapIdx_append]
        simp
      have e3 : HH p m (outC (List.replicate i (0, [])) ++ List.replicate (n - i) .nilS) (List.replicate i (0, [])) ++ [.cells 0 []] = HH p m (outC (List.replicate i (0, [])) ++ List.replicate (n - i) .nilS) (List.replicate (i + 1) (0, [])) := by
        rw [e1]
        simp [HH, rblk]
      have e4 : n - i = (n - (i + 1)) + 1 := by omega
      have h0 := ih (by omega)
      refine h0.trans (Wk.own.trans ?_)
      rw [e3]
      have h1 := Wk.nilAt (lo := lo) (T := T) (H := HH p m (outC (List.replicate i (0, [])) ++ List.replicate (n - i) .nilS) (List.replicate (i + 1) (0, []))) 2 i (i + 3) 1 (g := 0) (cs := outC (List.replicate i (0, [])) ++ List.replicate (n - i) .nilS) HH_2
        (by rw [e4, List.replicate_succ, List.getElem?_append_right (by simp)]; simp) (by rw [HH_n (by simp)]; simp [gi, List.getD])
      rw [HH_out] at h1
      have e5 : (outC (List.replicate i ((0, []) : Rw)) ++ List.replicate (n - i) AV.nilS).set i (.loc (i + 3) 0 0 0 1 false) = outC (List.replicate (i + 1) (0, [])) ++ List.replicate (n - (i + 1)) .nilS := by
        rw [e1, e2, e4, List.replicate_succ, List.set_append_right _ _ (by simp)]
        simp
      rw [e5] at h1
      exact h1
  have := key n (Nat.le_refl _)
  simpa using this
def locsN (p : Pg) : Nat := (varsOf p).length + sitesN p.l
/-- What a cell puts into its location's row. -/
def putsF (p : Pg) (m : Mc) (n : Nat) (c : Cl) : Option Int :=
  if c.loc = n then (if c.kind = 1 then some (gi m.cells c.v).loc else if c.kind = 2 then some (locsN p + c.v) else none) else none
def rowN (p : Pg) (m : Mc) (i n : Nat) : List Int := (m.cells.take i).filterMap (putsF p m n)
def rowsN (p : Pg) (m : Mc) (i : Nat) : List (List Int) := (List.range (locsN p)).map (rowN p m i)
def holdsF (p : Pg) (m : Mc) : List (List Int) := (List.range (locsN p)).map fun n => compI (sortI ((m.cells).filterMap (putsF p m n)))
theorem chunk1 : ∀ (n : Nat) (xs : List AV), n ≤ xs.length → chunk 1 xs n = (xs.take n).map fun x => [x]
  | 0, _, _ => by simp [chunk]
  | n + 1, [], h => by simp at h
  | n + 1, x :: xs, h => by
    simp only [chunk, List.drop_succ_cons, List.drop_zero]
    rw [chunk1 n xs (by simpa using h)]
    simp
/-- The row of rows, each one as long as what is seen of it. -/
def outD (rs : List Rw) (ds : List (List Int)) : List AV := rs.mapIdx fun i r => .loc (i + 3) r.1 0 (gi ds i).length 1 false
@[simp] theorem outD_len (rs : List Rw) (ds : List (List Int)) : (outD rs ds).length = rs.length := by simp [outD]
theorem outD_get {rs : List Rw} {ds : List (List Int)} {N : Nat} (h : N < (outD rs ds).length) : (outD rs ds)[N] = .loc (N + 3) (gi rs N).1 0 (gi ds N).length 1 false := by
  simp at h
  simp [outD, gi, List.getD, h]
theorem outC_D (rs : List Rw) : outC rs = outD rs (rs.map Prod.snd) := by
  unfold outC outD
  apply List.ext_getElem
  · simp
  · intro i h1 h2
    simp at h1
    simp [gi, List.getD, h1]
theorem outD_set {rs : List Rw} {ds : List (List Int)} {N g : Nat} {l d : List Int} (h : N < ds.length) : (outD rs ds).set N (.loc (N + 3) g 0 d.length 1 false) = outD (rs.set N (g, l)) (ds.set N d) := by
  apply List.ext_getElem
  · simp
  · intro i h1 h2
    simp at h1
    rw [List.getElem_set]
    simp only [outD, List.getElem_mapIdx, List.getElem_set]
    by_cases hi : N = i
    · subst hi
      simp [gi, List.getD, h]
    · simp [hi, gi, List.getD]
structure Seen (rs : List Rw) (ds : List (List Int)) : Prop where
  len : ds.length = rs.length
  all : ∀ k : Nat, k < rs.length → ∃ zs, (gi rs k).2 = gi ds k ++ zs
theorem HH_alD {p : Pg} {m : Mc} {rs : List Rw} {ds : List (List Int)} : al (RLB (rs.length + 3)) (HH p m (outD rs ds) rs) := by
  obtain ⟨a, b, _, d⟩ := HH_al (p := p) (m := m) (rs := rs)
  refine ⟨a, b, ?_, d⟩
  intro y hy
  simp only [outD, List.mem_mapIdx] at hy
  obtain ⟨i, hi, rfl⟩ := hy
  simp
  omega
theorem frz_out {p : Pg} {m : Mc} {rs : List Rw} {ds : List (List Int)} (h : Seen rs ds) : frz true (HH p m (outD rs ds) rs) 9 (.loc 2 0 0 rs.length 1 false) = .rows false 1 (ds.map fun l => [ints l]) := by
  have e : frz true (HH p m (outD rs ds) rs) 9 (.loc 2 0 0 rs.length 1 false) = .rows false 1 ((chunk 1 (outD rs ds) rs.length).map fun e => e.map (frz true (HH p m (outD rs ds) rs) 8)) := by
    simp [frz]
  rw [e, chunk1 _ _ (by simp), List.take_of_length_le (by simp)]
  congr 1
  apply List.ext_getElem
  · simp [h.len]
  · intro k h1 h2
    have hk : k < rs.length := by simpa using h1
    simp only [List.getElem_map, List.map_cons, List.map_nil]
    congr 1
    rw [outD_get]
    obtain ⟨zs, hz⟩ := h.all k hk
    have hd : ds[k]'(by rw [h.len]; exact hk) = gi ds k := by simp [gi, List.getD, h.len, hk]
    rw [hd]
    have e2 : frz true (HH p m (outD rs ds) rs) 8 (.loc (k + 3) (gi rs k).1 0 (gi ds k).length 1 false) = .rows false 1 ((chunk 1 (iv (gi rs k).2) (gi ds k).length).map fun e => e.map (frz true (HH p m (outD rs ds) rs) 7)) := by
      have hle : (gi ds k).length ≤ (gi rs k).2.length := by rw [hz]; simp
      simp [frz, HH_n hk, hle]
    rw [e2, hz, chunk1 _ _ (by simp)]
    congr 1
    unfold iv
    rw [List.map_append, List.take_left' (by simp)]
    simp [Function.comp_def, frz]
def doneN (p : Pg) (m : Mc) (i : Nat) : List (List Int) := (List.range (locsN p)).map fun n => if n < i then compI (sortI (rowN p m m.cells.length n)) else rowN p m m.cells.length n
theorem doneN_0 (p : Pg) (m : Mc) : doneN p m 0 = rowsN p m m.cells.length := by simp [doneN, rowsN]
theorem doneN_all (p : Pg) (m : Mc) {i : Nat} (h : locsN p ≤ i) : doneN p m i = holdsF p m := by
  unfold doneN holdsF
  refine List.map_congr_left fun n hn => ?_
  rw [if_pos (by have := List.mem_range.1 hn; omega)]
  unfold rowN
  rw [List.take_length]
theorem doneN_get {p : Pg} {m : Mc} {i : Nat} (h : i < locsN p) : gi (doneN p m i) (i : Int) = rowN p m m.cells.length i := by
  simp [doneN, gi, List.getD, h]
theorem doneN_next {p : Pg} {m : Mc} {i : Nat} (h : i < locsN p) : (doneN p m i).set i (compI (sortI (rowN p m m.cells.length i))) = doneN p m (i + 1) := by
  apply List.ext_getElem
  · simp [doneN]
  · intro n h1 h2
    rw [List.getElem_set]
    simp only [doneN, List.getElem_map, List.getElem_range]
    by_cases hn : i = n
    · subst hn
      simp
    · rw [if_neg hn]
      by_cases hlt : n < i
      · rw [if_pos hlt, if_pos (by omega)]
      · rw [if_neg hlt, if_neg (by omega)]
theorem rowN_next {p : Pg} {m : Mc} {i n : Nat} (h : i < m.cells.length) : rowN p m (i + 1) n = rowN p m i n ++ (putsF p m n (gi m.cells i)).toList := by
  unfold rowN
  rw [take_next h, List.filterMap_append]
  simp only [List.filterMap_cons, List.filterMap_nil]
  cases putsF p m n (gi m.cells i) <;> rfl
theorem rowsN_put {p : Pg} {m : Mc} {i N : Nat} {v : Int} (h : i < m.cells.length) (hN : (gi m.cells i).loc = N) (hv : putsF p m N (gi m.cells i) = some v) : (rowsN p m i).set N (rowN p m i N ++ [v]) = rowsN p m (i + 1) := by
  apply List.ext_getElem
  · simp [rowsN]
  · intro n h1 h2
    simp only [rowsN, List.length_set, List.length_map, List.length_range] at h1 h2
    rw [List.getElem_set]
    simp only [rowsN, List.getElem_map, List.getElem_range]
    rw [rowN_next h]
    by_cases hn : N = n
    · subst hn
      rw [if_pos rfl, hv]
      rfl
    · have : putsF p m n (gi m.cells i) = none := by
        unfold putsF
        rw [if_neg (by omega)]
      rw [if_neg hn, this]
      simp
theorem rowsN_skip {p : Pg} {m : Mc} {i : Nat} (h : i < m.cells.length) (h1 : (gi m.cells i).kind ≠ 1) (h2 : (gi m.cells i).kind ≠ 2) : rowsN p m i = rowsN p m (i + 1) := by
  unfold rowsN
  refine List.map_congr_left fun n _ => ?_
  have : putsF p m n (gi m.cells i) = none := by
    unfold putsF
    rw [if_neg h1, if_neg h2]
    simp
  rw [rowN_next h, this]
  simp
theorem rowsN_0 (p : Pg) (m : Mc) : rowsN p m 0 = List.replicate (locsN p) [] := by
  apply List.ext_getElem <;> simp [rowsN, rowN]
theorem sort29i {H : AHeap} {k g : Nat} {l : List Int} (h : H[k]? = some (.cells g (iv l))) :
    FT Try.prog 29 [.loc k g 0 l.length 1 false] H fun rv H' => rv = .tuple [] ∧ H' = H.set k (.cells g (iv (sortI l))) := sort29_FT h
theorem comp30i {H : AHeap} {k g : Nat} {l : List Int} (h : H[k]? = some (.cells g (iv l))) :
    FT Try.prog 30 [.loc k g 0 l.length 1 false] H fun rv H' => rv = .loc k g 0 (compI l).length 1 false ∧ ∃ zs : List Int, zs.length = l.length - (compI l).length ∧ H' = H.set k (.cells g (iv (compI l ++ zs))) := comp30_FT h
theorem holds_PF {p : Pg} (hp : Of p) {m : Mc} (h : MOk p m) : PF Try.prog 14 [.agg p.cs, .agg m.av] (.rows false 1 ((holdsF p m).map fun l => [ints l])) := by
  refine PFk 9 hm Try.func14 c14_ok (Nat.le_of_ble_eq_true rfl) (by simp) (by simp) ?_
  have hl := hp.neat.locs
  have hw : IntKind.i64.wrap (((varsOf p).length : Int) + sitesN p.l) = locsN p := by rw [w64 (by omega) (by omega)]; simp [locsN]
  have hn : locsN p ≤ 40 := hl
  have hA : locsN p ≤ maxA := by unfold maxA; omega
  have a1 : m.cells.length ≤ maxA := by have := h.cs.few; unfold maxA; omega
  simp (maxSteps := 3000000) [-List.length_flatten, -List.map_drop, -List.map_take, Function.comp_def, argsT, Opd.ev, Tm.get, put, ares, mapMo, ares1, snilP, bldParts, bslParts, putAt, AV.cells, AV.one, astore, aload, loadCs, callArgs, abin, abinInt, aapp, elems, appMore, appNone, preLen, aFa, aFld, apart, aExt, aPick, aNot, aLens, aEqa, cellsK, fitsA, LK.fitsA, leavesA, leafA, nilD, aNilc, aCint, aCid, alive, Rle, lePs, len_flat, c14]
  refine ⟨_, (vars27_PF p hp.fits).le 9 (by simp [lePs, -List.length_flatten, -List.map_drop, -List.map_take, Function.comp_def, len_flat]) (by simp), ?_⟩
  simp (maxSteps := 3000000) [-List.length_flatten, -List.map_drop, -List.map_take, Function.comp_def, argsT, Opd.ev, Tm.get, put, ares, mapMo, ares1, snilP, bldParts, bslParts, putAt, AV.cells, AV.one, astore, aload, loadCs, callArgs, abin, abinInt, aapp, elems, appMore, appNone, preLen, aFa, aFld, apart, aExt, aPick, aNot, aLens, aEqa, cellsK, fitsA, LK.fitsA, leavesA, leafA, nilD, aNilc, aCint, aCid, alive, Rle, lePs, len_flat, Kc]
  intro _
  refine ⟨_, (sites28_PF p hp.fits).le 9 (by simp [lePs, -List.length_flatten, -List.map_drop, -List.map_take, Function.comp_def, len_flat]) (by simp), ?_⟩
  have hmk : ∀ H, aMksl 1 24 [.nilS] H (i64 (locsN p)) (i64 (locsN p)) = some (.loc H.length 0 0 (locsN p) 1 false, H ++ [.cells 0 (List.replicate (locsN p) .nilS)]) := by
    intro H
    have hf : ∀ n : Nat, (List.replicate n [AV.nilS]).flatten = List.replicate n .nilS := by
      intro n
      induction n with
      | zero => rfl
      | succ n ih => simp [List.replicate_succ, ih]
    have b1 : (locsN p : Int) * 24 ≤ limB := by unfold limB; omega
    have b2 : (locsN p : Int) ≤ maxA := by omega
    simp [aMksl, b1, b2, hf]
  simp (maxSteps := 3000000) [-List.length_flatten, -List.map_drop, -List.map_take, Function.comp_def, argsT, Opd.ev, Tm.get, put, ares, mapMo, ares1, snilP, bldParts, bslParts, putAt, AV.cells, AV.one, astore, aload, loadCs, callArgs, abin, abinInt, aapp, elems, appMore, appNone, preLen, aFa, aFld, apart, aExt, aPick, aNot, aLens, aEqa, cellsK, fitsA, LK.fitsA, leavesA, leafA, nilD, aNilc, aCint, aCid, alive, Rle, lePs, len_flat, Kc, hw, hA, hmk]
  intro _
  refine run_loopK (fun k T H => ∃ (i : Nat) (rs : List Rw), k = m.cells.length - i ∧ i ≤ m.cells.length ∧ rs.map Prod.snd = rowsN p m i ∧ T = [(21, i64 i), (20, i64 m.cells.length), (19, cellsV m.cells), (6, .loc 2 0 0 (locsN p) 1 false), (5, i64 (locsN p)), (3, .ptr 1 0 0), (2, .ptr 0 0 0)] ∧ H = HH p m (outC rs) rs) m.cells.length
    [(21, i64 (0 : Nat)), (20, i64 m.cells.length), (19, cellsV m.cells), (6, .loc 2 0 0 (locsN p) 1 false), (5, i64 (locsN p)), (3, .ptr 1 0 0), (2, .ptr 0 0 0)] _ ((Wk.sub (T' := [(21, i64 (0 : Nat)), (20, i64 m.cells.length), (19, cellsV m.cells), (6, .loc 2 0 0 (locsN p) 1 false), (5, i64 (locsN p)), (3, .ptr 1 0 0), (2, .ptr 0 0 0)]) (by simp [Tm.get])).trans Wk.rows) ⟨0, _, rfl, by omega, ?_, rfl, rfl⟩ ?_
  · simp [rowsN_0]
  rintro k T H ⟨i, rs, rfl, hi, hrs, rfl, rfl⟩ KK kx kr kn
  have hrl : rs.length = locsN p := by
    have := congrArg List.length hrs
    simpa [rowsN] using this
  by_cases hic : i < m.cells.length
  · have hne : cellsV m.cells = .rows false 3 (m.cells.map Cl.cs) := cellsV_ne (fun e => by rw [e] at hic; simp at hic)
    have hcm := gi_mem hic
    obtain ⟨v1, v2, v3, v4, v5⟩ := h.cs.vals _ hcm
    obtain ⟨N, hN, hNl⟩ : ∃ N : Nat, (gi m.cells i).loc = N ∧ N < rs.length := by
      obtain ⟨q1, q2⟩ := h.cs.locs i hic
      rw [hrl]
      unfold locsN
      by_cases hv : i < (varsOf p).length
      · exact ⟨i, q1 hv, by omega⟩
      · obtain ⟨q3, q4⟩ := q2 (by omega)
        exact ⟨(gi m.cells i).loc.toNat, by omega, by omega⟩
    have h1N : 1 ≤ rs.length - N := by omega
    have hNe : ¬ N = rs.length := by omega
    have hNe' : ¬ rs.length = N := by omega
    have hrow : (gi rs N).2 = rowN p m i N := by
      have e : gi (rs.map Prod.snd) (N : Int) = gi (rowsN p m i) N := by rw [hrs]
      have e1 : gi (rs.map Prod.snd) (N : Int) = (gi rs N).2 := by simp [gi, List.getD, hNl]
      have e2 : gi (rowsN p m i) (N : Int) = rowN p m i N := by
        rw [hrl] at hNl
        simp [gi, List.getD, rowsN, hNl]
      rw [← e1, e, e2]
    have hLe0 : (gi rs N).2.length ≤ i := by
      rw [hrow]
      exact Nat.le_trans (List.length_filterMap_le _ _) (by simp; omega)
    have hLe : (gi rs N).2.length ≤ maxA := by omega
    have hLe2 : (gi rs N).2.length + 1 ≤ maxA := by omega
    have nx : ∀ (T : Tm) (v : Int) (b : ABlk), al (fun q => T.get q.1 = q.2) [(21, i64 (i + 1 : Nat)), (20, i64 m.cells.length), (19, cellsV m.cells), (6, .loc 2 0 0 (locsN p) 1 false), (5, i64 (locsN p)), (3, .ptr 1 0 0), (2, .ptr 0 0 0)] →
        putsF p m N (gi m.cells i) = some v → KK .normal T (HH p m ((outC rs).set N (.loc (N + 3) ((gi rs N).1 + 1) 0 ((gi rs N).2.length + 1) 1 false)) (rs.set N ((gi rs N).1 + 1, (gi rs N).2 ++ [v])) ++ [b]) := by
      intro T v b ht hv
      have e := outC_set (rs := rs) (N := N) (r := ((gi rs N).1 + 1, (gi rs N).2 ++ [v]))
      simp only [List.length_append, List.length_singleton] at e
      rw [e]
      refine kn _ _ (Kl_next (m.cells.length - (i + 1)) ((rs.set N ((gi rs N).1 + 1, (gi rs N).2 ++ [v])).length + 3) (by simp) ⟨i + 1, _, rfl, by omega, ?_, rfl, rfl⟩ ht (by simp [RL_cellsV]) HH_take HH_al (by omega))
      rw [List.map_set, hrs, ← rowsN_put hic hN hv, hrow]
    by_cases hk1 : (gi m.cells i).kind = 1
    · obtain ⟨v41, v42⟩ := v4 hk1
      simp (maxSteps := 3000000) [-List.length_flatten, -List.map_drop, -List.map_take, Function.comp_def, argsT, Opd.ev, Tm.get, put, ares, mapMo, ares1, snilP, bldParts, bslParts, putAt, AV.cells, AV.one, astore, aload, loadCs, callArgs, abin, abinInt, aapp, elems, appMore, appNone, preLen, aFa, aFld, apart, aExt, aPick, aNot, aLens, aEqa, cellsK, fitsA, LK.fitsA, leavesA, leafA, nilD, aNilc, aCint, aCid, alive, Rle, lePs, len_flat, h1N, hLe, hLe2, hic, hne, hk1, hN, hNl, HH_n' hNl, HH_n hNl, outC_get hNl, HH_row' hNl, iv_app, ← hrl, v41, v42, indB, apartB, apartS, refA, aliveRd, hNe, hNe']
      intro _
      exact ⟨hNl, nx _ _ _ (by simp [Tm.get, nxt hic a1, hrl, hne]) (by simp [putsF, hN, hk1])⟩
    · by_cases hk2 : (gi m.cells i).kind = 2
      · have hwv : IntKind.i64.wrap ((rs.length : Int) + (gi m.cells i).v) = rs.length + (gi m.cells i).v := by
          obtain ⟨q1, q2⟩ := v5 hk2
          have := hp.neat.funs
          rw [w64 (by omega) (by omega)]
        simp (maxSteps := 3000000) [-List.length_flatten, -List.map_drop, -List.map_take, Function.comp_def, argsT, Opd.ev, Tm.get, put, ares, mapMo, ares1, snilP, bldParts, bslParts, putAt, AV.cells, AV.one, astore, aload, loadCs, callArgs, abin, abinInt, aapp, elems, appMore, appNone, preLen, aFa, aFld, apart, aExt, aPick, aNot, aLens, aEqa, cellsK, fitsA, LK.fitsA, leavesA, leafA, nilD, aNilc, aCint, aCid, alive, Rle, lePs, len_flat, h1N, hLe, hLe2, hic, hne, hk1, hk2, hN, hNl, HH_n' hNl, HH_n hNl, outC_get hNl, HH_row' hNl, iv_app, ← hrl, hwv, indB, apartB, apartS, refA, aliveRd, hNe, hNe']
        intro _
        exact ⟨hNl, nx _ _ _ (by simp [Tm.get, nxt hic a1, hrl, hne]) (by simp [putsF, hN, hk1, hk2, hrl])⟩
      · simp (maxSteps := 3000000) [-List.length_flatten, -List.map_drop, -List.map_take, Function.comp_def, argsT, Opd.ev, Tm.get, put, ares, mapMo, ares1, snilP, bldParts, bslParts, putAt, AV.cells, AV.one, astore, aload, loadCs, callArgs, abin, abinInt, aapp, elems, appMore, appNone, preLen, aFa, aFld, apart, aExt, aPick, aNot, aLens, aEqa, cellsK, fitsA, LK.fitsA, leavesA, leafA, nilD, aNilc, aCint, aCid, alive, Rle, lePs, len_flat, hic, hne, hk1, hk2, hN]
        refine kn _ _ (Kl_next (m.cells.length - (i + 1)) (rs.length + 3) (by simp) (T' := [(21, i64 (i + 1 : Nat)), (20, i64 m.cells.length), (19, cellsV m.cells), (6, .loc 2 0 0 (locsN p) 1 false), (5, i64 (locsN p)), (3, .ptr 1 0 0), (2, .ptr 0 0 0)]) ⟨i + 1, rs, rfl, by omega, by rw [hrs, rowsN_skip hic hk1 hk2], rfl, rfl⟩ (by simp [Tm.get, nxt hic a1, hne]) (by simp) HH_take HH_al (by omega))
  · have hall : m.cells.take i = m.cells := List.take_of_length_le (by omega)
    simp (maxSteps := 3000000) [-List.length_flatten, -List.map_drop, -List.map_take, Function.comp_def, argsT, Opd.ev, Tm.get, put, ares, mapMo, ares1, snilP, bldParts, bslParts, putAt, AV.cells, AV.one, astore, aload, loadCs, callArgs, abin, abinInt, aapp, elems, appMore, appNone, preLen, aFa, aFld, apart, aExt, aPick, aNot, aLens, aEqa, cellsK, fitsA, LK.fitsA, leavesA, leafA, nilD, aNilc, aCint, aCid, alive, Rle, lePs, len_flat, hic, kx]
    have hil : i = m.cells.length := by omega
    rw [hil] at hrs
    simp (maxSteps := 3000000) [-List.length_flatten, -List.map_drop, -List.map_take, Function.comp_def, argsT, Opd.ev, Tm.get, put, ares, mapMo, ares1, snilP, bldParts, bslParts, putAt, AV.cells, AV.one, astore, aload, loadCs, callArgs, abin, abinInt, aapp, elems, appMore, appNone, preLen, aFa, aFld, apart, aExt, aPick, aNot, aLens, aEqa, cellsK, fitsA, LK.fitsA, leavesA, leafA, nilD, aNilc, aCint, aCid, alive, alen, alenOk, Rle, lePs, len_flat, hA]
    rw [outC_D, hrs, ← doneN_0]
    refine run_loopK (fun k T H => ∃ (i : Nat) (rs : List Rw), k = locsN p - i ∧ i ≤ locsN p ∧ rs.length = locsN p ∧ Seen rs (doneN p m i) ∧ (∀ k : Nat, i ≤ k → k < locsN p → (gi rs k).2 = rowN p m m.cells.length k) ∧ T = [(67, i64 i), (66, i64 (locsN p)), (6, .loc 2 0 0 (locsN p) 1 false)] ∧ H = HH p m (outD rs (doneN p m i)) rs) (locsN p)
      [(67, i64 (0 : Nat)), (66, i64 (locsN p)), (6, .loc 2 0 0 (locsN p) 1 false)] _ (Wk.sub (T' := [(67, i64 (0 : Nat)), (66, i64 (locsN p)), (6, .loc 2 0 0 (locsN p) 1 false)]) (by simp [Tm.get])) ⟨0, rs, rfl, by omega, hrl, ?_, ?_, rfl, rfl⟩ ?_
    · refine ⟨by simp [doneN, hrl], fun k hk => ⟨[], ?_⟩⟩
      rw [List.append_nil, doneN_0, ← hrs]
      simp [gi, List.getD, hk]
    · intro k _ hk
      have e1 : gi (rs.map Prod.snd) (k : Int) = (gi rs k).2 := by simp [gi, List.getD, hrl, hk]
      rw [← e1, hrs]
      simp [rowsN, gi, List.getD, hk]
    clear kx kr kn hrs hrl hic hil hall
    clear hi
    clear rs
    rintro k T H ⟨i, rs, rfl, hi, hrl, hse, hlt, rfl, rfl⟩ KK kx kr kn
    by_cases hin : i < locsN p
    · have hir : i < rs.length := by omega
      have h1i : 1 ≤ rs.length - i := by omega
      have hgi := doneN_get (m := m) hin
      have hrow := hlt i (Nat.le_refl _) hin
      have hnx := doneN_next (m := m) hin
      have hdl : i < (doneN p m i).length := by rw [hse.len]; exact hir
      generalize rowN p m m.cells.length i = Rr at *
      have hH := HH_n (p := p) (m := m) (oc := outD rs (doneN p m i)) hir
      rw [hrow] at hH
      simp (maxSteps := 3000000) [-List.length_flatten, -List.map_drop, -List.map_take, Function.comp_def, argsT, Opd.ev, Tm.get, put, ares, mapMo, ares1, snilP, bldParts, bslParts, putAt, AV.cells, AV.one, astore, aload, loadCs, callArgs, abin, abinInt, aapp, elems, appMore, appNone, preLen, aFa, aFld, apart, aExt, aPick, aNot, aLens, aEqa, cellsK, fitsA, LK.fitsA, leavesA, leafA, nilD, aNilc, aCint, aCid, alive, alen, alenOk, Rle, lePs, len_flat, hin, hir, ← hrl, outD_get, h1i, hgi]
      refine (sort29i hH).mono ?_
      rintro _ _ ⟨rfl, rfl⟩
      rw [HH_row]
      simp (maxSteps := 3000000) [-List.length_flatten, -List.map_drop, -List.map_take, Function.comp_def, argsT, Opd.ev, Tm.get, put, ares, mapMo, ares1, snilP, bldParts, bslParts, putAt, AV.cells, AV.one, astore, aload, loadCs, callArgs, abin, abinInt, aapp, elems, appMore, appNone, preLen, aFa, aFld, apart, aExt, aPick, aNot, aLens, aEqa, cellsK, fitsA, LK.fitsA, leavesA, leafA, nilD, aNilc, aCint, aCid, alive, alen, alenOk, Rle, lePs, len_flat, Kc, hir, outD_get, h1i, hgi]
      have hH2 := HH_n (p := p) (m := m) (oc := outD rs (doneN p m i)) (rs := rs.set i ((gi rs i).1, sortI Rr)) (N := i) (by simpa using hir)
      have hg2 : gi (rs.set i ((gi rs i).1, sortI Rr)) (i : Int) = ((gi rs i).1, sortI Rr) := by simp [gi, List.getD, hir]
      rw [hg2] at hH2
      have hsl : Rr.length = (sortI Rr).length := by simp [sortI]
      rw [hsl]
      refine (comp30i hH2).mono ?_
      rintro _ _ ⟨rfl, zs, _, rfl⟩
      rw [HH_row]
      simp (maxSteps := 3000000) [-List.length_flatten, -List.map_drop, -List.map_take, Function.comp_def, argsT, Opd.ev, Tm.get, put, ares, mapMo, ares1, snilP, bldParts, bslParts, putAt, AV.cells, AV.one, astore, aload, loadCs, callArgs, abin, abinInt, aapp, elems, appMore, appNone, preLen, aFa, aFld, apart, aExt, aPick, aNot, aLens, aEqa, cellsK, fitsA, LK.fitsA, leavesA, leafA, nilD, aNilc, aCint, aCid, alive, alen, alenOk, Rle, lePs, len_flat, Kc, hir, outD_get, h1i]
      refine ⟨hir, ?_⟩
      rw [outD_set (l := compI (sortI Rr) ++ zs) hdl, hnx]
      have hgs : ∀ k : Nat, gi (rs.set i ((gi rs i).1, compI (sortI Rr) ++ zs)) (k : Int) = if i = k then ((gi rs i).1, compI (sortI Rr) ++ zs) else gi rs k := fun k => gi_set hir
      refine kn _ _ (Kl_sub (locsN p - (i + 1)) (T' := [(67, i64 (i + 1 : Nat)), (66, i64 (locsN p)), (6, .loc 2 0 0 (locsN p) 1 false)]) ⟨i + 1, _, rfl, by omega, by simpa using hrl, ⟨by simp [doneN, hrl], fun k hk => ?_⟩, fun k h1 h2 => ?_, rfl, rfl⟩ (by simp [Tm.get, nxt hin hA, hrl]) (by omega))
      · simp only [List.length_set] at hk
        rw [hgs k, ← hnx, gi_set hdl]
        by_cases hik : i = k
        · rw [if_pos hik, if_pos hik]
          exact ⟨zs, rfl⟩
        · rw [if_neg hik, if_neg hik]
          exact hse.all k hk
      · rw [hgs k, if_neg (by omega)]
        exact hlt k (by omega) h2
    · simp (maxSteps := 3000000) [-List.length_flatten, -List.map_drop, -List.map_take, Function.comp_def, argsT, Opd.ev, Tm.get, put, ares, mapMo, ares1, snilP, bldParts, bslParts, putAt, AV.cells, AV.one, astore, aload, loadCs, callArgs, abin, abinInt, aapp, elems, appMore, appNone, preLen, aFa, aFld, apart, aExt, aPick, aNot, aLens, aEqa, cellsK, fitsA, LK.fitsA, leavesA, leafA, nilD, aNilc, aCint, aCid, alive, alen, alenOk, Rle, lePs, len_flat, hin, kx]
      have e := frz_out (p := p) (m := m) hse
      have e2 := leP_refl 9 (frz true (HH p m (outD rs (doneN p m i)) rs) 9 (.loc 2 0 0 rs.length 1 false))
      conv at e2 => rhs; rw [e]
      rw [← doneN_all p m (show locsN p ≤ i by omega)]
      simpa [hrl] using e2
end Go.AM

namespace Go.AM
open Go.Proofs
set_option maxRecDepth 100000
set_option linter.unusedVariables false
set_option linter.unusedSimpArgs false
def c8 : AFn := ⟨185, .seq (.reg false [⟨some 3, .box (.tmp 0), none⟩, ⟨some 6, .mov (.lit (.bool false)), none⟩]) (.seq (.reg false [⟨some 15, .call (.lit (.fn (.func 9) [] [])) [], none⟩, ⟨some 7, .mov (.tmp 15), none⟩]) (.seq (.seq (.reg false [⟨some 16, .load 2 true (.tmp 3), none⟩, ⟨some 17, .call (.lit (.fn (.func 10) [] [])) [.tmp 16], none⟩, ⟨some 18, .not (.tmp 17), none⟩, ⟨some 19, .mov (.tmp 18), none⟩, ⟨some 20, .mov (.tmp 1), some ((19, false))⟩, ⟨some 21, .len (.tmp 20), some ((19, false))⟩, ⟨some 22, .bin .gtr (.tmp 21) (.lit (.int .i64 100)), some ((19, false))⟩, ⟨some 23, .pick (.tmp 19) (.lit (.bool true)) (.tmp 22), none⟩]) (.cond (.tmp 23) (.seq (.reg false [⟨some 24, .mov (.tmp 7), none⟩, ⟨some 6, .mov (.tmp 24), none⟩]) .ret) .skip)) (.seq (.reg false [⟨some 25, .load 2 true (.tmp 3), none⟩, ⟨some 26, .mov (.tmp 1), none⟩, ⟨some 27, .call (.lit (.fn (.func 12) [] [])) [.tmp 25, .tmp 26], none⟩, ⟨some 8, .alloc [.nilS, .nilS, .nilS, .int .i64 0], none⟩, ⟨none, .store 4 (.tmp 8) (.tmp 27), none⟩]) (.seq (.reg false [⟨some 28, .load 2 true (.tmp 3), none⟩, ⟨some 29, .call (.lit (.fn (.func 19) [] [])) [.tmp 28], none⟩, ⟨some 9, .mov (.tmp 29), none⟩]) (.seq (.reg false [⟨some 30, .mov (.tmp 9), none⟩, ⟨some 31, .len (.tmp 30), none⟩, ⟨some 32, .load 2 true (.tmp 3), none⟩, ⟨some 33, .call (.lit (.fn (.func 20) [] [])) [.tmp 32], none⟩, ⟨some 34, .bin .add (.tmp 31) (.tmp 33), none⟩, ⟨some 10, .mov (.tmp 34), none⟩]) (.seq (.seq (.reg false [⟨some 35, .fa 0 (.tmp 8), none⟩, ⟨some 36, .load 1 false (.tmp 35), none⟩, ⟨some 37, .len (.tmp 36), none⟩, ⟨some 38, .mov (.tmp 9), none⟩, ⟨some 39, .len (.tmp 38), none⟩, ⟨some 40, .bin .lss (.tmp 37) (.tmp 39), none⟩]) (.cond (.tmp 40) (.seq (.reg false [⟨some 6, .mov (.lit (.bool false)), none⟩]) .ret) .skip)) (.seq (.seq (.reg false [⟨some 11, .mov (.lit (.int .i64 0)), none⟩]) (.block 0 (.loop (.seq (.seq (.reg false [⟨some 41, .mov (.tmp 11), none⟩, ⟨some 42, .fa 0 (.tmp 8), none⟩, ⟨some 43, .load 1 false (.tmp 42), none⟩, ⟨some 44, .len (.tmp 43), none⟩, ⟨some 45, .bin .lss (.tmp 41) (.tmp 44), none⟩]) (.cond (.tmp 45) .skip (.exit 0))) (.seq (.block 1 (.seq (.reg false [⟨some 48, .fa 0 (.tmp 8), none⟩, ⟨some 49, .load 1 false (.tmp 48), none⟩, ⟨some 50, .mov (.tmp 11), none⟩, ⟨some 51, .ia 3 (.tmp 49) (.tmp 50), none⟩, ⟨some 52, .load 3 true (.tmp 51), none⟩, ⟨some 12, .alloc [.int .i64 0, .int .i64 0, .int .i64 0], none⟩, ⟨none, .store 3 (.tmp 12) (.tmp 52), none⟩]) (.seq (.seq (.reg false [⟨some 53, .fa 0 (.tmp 12), none⟩, ⟨some 54, .load 1 false (.tmp 53), none⟩, ⟨some 55, .bin .lss (.tmp 54) (.lit (.int .i64 0)), none⟩, ⟨some 56, .mov (.tmp 55), none⟩, ⟨some 57, .fa 0 (.tmp 12), some ((56, false))⟩, ⟨some 58, .load 1 false (.tmp 57), some ((56, false))⟩, ⟨some 59, .mov (.tmp 10), some ((56, false))⟩, ⟨some 60, .bin .geq (.tmp 58) (.tmp 59), some ((56, false))⟩, ⟨some 61, .pick (.tmp 56) (.lit (.bool true)) (.tmp 60), none⟩, ⟨some 62, .mov (.tmp 61), none⟩, ⟨some 63, .mov (.tmp 11), some ((62, false))⟩, ⟨some 64, .mov (.tmp 9), some ((62, false))⟩, ⟨some 65, .len (.tmp 64), some ((62, false))⟩, ⟨some 66, .bin .lss (.tmp 63) (.tmp 65), some ((62, false))⟩, ⟨some 67, .mov (.tmp 66), some ((62, false))⟩, ⟨some 68, .fa 0 (.tmp 12), some ((67, true))⟩, ⟨some 69, .load 1 false (.tmp 68), some ((67, true))⟩, ⟨some 70, .mov (.tmp 11), some ((67, true))⟩, ⟨some 71, .bin .neq (.tmp 69) (.tmp 70), some ((67, true))⟩, ⟨some 72, .pick (.tmp 67) (.tmp 71) (.lit (.bool false)), some ((62, false))⟩, ⟨some 73, .pick (.tmp 62) (.lit (.bool true)) (.tmp 72), none⟩, ⟨some 74, .mov (.tmp 73), none⟩, ⟨some 75, .mov (.tmp 11), some ((74, false))⟩, ⟨some 76, .mov (.tmp 9), some ((74, false))⟩, ⟨some 77, .len (.tmp 76), some ((74, false))⟩, ⟨some 78, .bin .geq (.tmp 75) (.tmp 77), some ((74, false))⟩, ⟨some 79, .mov (.tmp 78), some ((74, false))⟩, ⟨some 80, .fa 0 (.tmp 12), some ((79, true))⟩, ⟨some 81, .load 1 false (.tmp 80), some ((79, true))⟩, ⟨some 82, .mov (.tmp 9), some ((79, true))⟩, ⟨some 83, .len (.tmp 82), some ((79, true))⟩, ⟨some 84, .bin .lss (.tmp 81) (.tmp 83), some ((79, true))⟩, ⟨some 85, .pick (.tmp 79) (.tmp 84) (.lit (.bool false)), some ((74, false))⟩, ⟨some 86, .pick (.tmp 74) (.lit (.bool true)) (.tmp 85), none⟩]) (.cond (.tmp 86) (.seq (.reg false [⟨some 6, .mov (.lit (.bool false)), none⟩]) .ret) .skip)) (.seq (.reg false [⟨some 87, .fa 1 (.tmp 12), none⟩, ⟨some 88, .load 1 false (.tmp 87), none⟩, ⟨some 89, .bin .lss (.tmp 88) (.lit (.int .i64 0)), none⟩, ⟨some 90, .mov (.tmp 89), none⟩, ⟨some 91, .fa 1 (.tmp 12), some ((90, false))⟩, ⟨some 92, .load 1 false (.tmp 91), some ((90, false))⟩, ⟨some 93, .bin .gtr (.tmp 92) (.lit (.int .i64 2)), some ((90, false))⟩, ⟨some 94, .pick (.tmp 90) (.lit (.bool true)) (.tmp 93), none⟩, ⟨some 95, .mov (.tmp 94), none⟩, ⟨some 96, .fa 1 (.tmp 12), some ((95, false))⟩, ⟨some 97, .load 1 false (.tmp 96), some ((95, false))⟩, ⟨some 98, .bin .eql (.tmp 97) (.lit (.int .i64 0)), some ((95, false))⟩, ⟨some 99, .mov (.tmp 98), some ((95, false))⟩, ⟨some 100, .fa 2 (.tmp 12), some ((99, true))⟩, ⟨some 101, .load 1 false (.tmp 100), some ((99, true))⟩, ⟨some 102, .bin .neq (.tmp 101) (.lit (.int .i64 0)), some ((99, true))⟩, ⟨some 103, .pick (.tmp 99) (.tmp 102) (.lit (.bool false)), some ((95, false))⟩, ⟨some 104, .pick (.tmp 95) (.lit (.bool true)) (.tmp 103), none⟩, ⟨some 105, .mov (.tmp 104), none⟩, ⟨some 106, .fa 1 (.tmp 12), some ((105, false))⟩, ⟨some 107, .load 1 false (.tmp 106), some ((105, false))⟩, ⟨some 108, .bin .eql (.tmp 107) (.lit (.int .i64 1)), some ((105, false))⟩, ⟨some 109, .mov (.tmp 108), some ((105, false))⟩, ⟨some 110, .fa 2 (.tmp 12), some ((109, true))⟩, ⟨some 111, .load 1 false (.tmp 110), some ((109, true))⟩, ⟨some 112, .bin .lss (.tmp 111) (.lit (.int .i64 0)), some ((109, true))⟩, ⟨some 113, .mov (.tmp 112), some ((109, true))⟩, ⟨some 114, .fa 2 (.tmp 12), some ((113, false))⟩, ⟨some 115, .load 1 false (.tmp 114), some ((113, false))⟩, ⟨some 116, .fa 0 (.tmp 8), some ((113, false))⟩, ⟨some 117, .load 1 false (.tmp 116), some ((113, false))⟩, ⟨some 118, .len (.tmp 117), some ((113, false))⟩, ⟨some 119, .bin .geq (.tmp 115) (.tmp 118), some ((113, false))⟩, ⟨some 120, .pick (.tmp 113) (.lit (.bool true)) (.tmp 119), some ((109, true))⟩, ⟨some 121, .pick (.tmp 109) (.tmp 120) (.lit (.bool false)), some ((105, false))⟩, ⟨some 122, .pick (.tmp 105) (.lit (.bool true)) (.tmp 121), none⟩, ⟨some 123, .mov (.tmp 122), none⟩, ⟨some 124, .fa 1 (.tmp 12), some ((123, false))⟩, ⟨some 125, .load 1 false (.tmp 124), some ((123, false))⟩, ⟨some 126, .bin .eql (.tmp 125) (.lit (.int .i64 2)), some ((123, false))⟩, ⟨some 127, .mov (.tmp 126), some ((123, false))⟩, ⟨some 128, .fa 2 (.tmp 12), some ((127, true))⟩, ⟨some 129, .load 1 false (.tmp 128), some ((127, true))⟩, ⟨some 130, .bin .lss (.tmp 129) (.lit (.int .i64 0)), some ((127, true))⟩, ⟨some 131, .mov (.tmp 130), some ((127, true))⟩, ⟨some 132, .fa 2 (.tmp 12), some ((131, false))⟩, ⟨some 133, .load 1 false (.tmp 132), some ((131, false))⟩, ⟨some 134, .fa 0 (.tmp 3), some ((131, false))⟩, ⟨some 135, .load 1 false (.tmp 134), some ((131, false))⟩, ⟨some 136, .len (.tmp 135), some ((131, false))⟩, ⟨some 137, .bin .geq (.tmp 133) (.tmp 136), some ((131, false))⟩, ⟨some 138, .pick (.tmp 131) (.lit (.bool true)) (.tmp 137), some ((127, true))⟩, ⟨some 139, .pick (.tmp 127) (.tmp 138) (.lit (.bool false)), some ((123, false))⟩, ⟨some 140, .pick (.tmp 123) (.lit (.bool true)) (.tmp 139), none⟩]) (.cond (.tmp 140) (.seq (.reg false [⟨some 6, .mov (.lit (.bool false)), none⟩]) .ret) .skip))))) (.reg false [⟨some 46, .mov (.tmp 11), none⟩, ⟨some 47, .bin .add (.tmp 46) (.lit (.int .i64 1)), none⟩, ⟨some 11, .mov (.tmp 47), none⟩])))))) (.seq (.reg false [⟨some 141, .mov (.tmp 9), none⟩, ⟨some 142, .mov (.tmp 2), none⟩, ⟨some 143, .call (.lit (.fn (.func 21) [] [])) [.tmp 141, .tmp 142], none⟩, ⟨some 13, .mov (.tmp 143), none⟩]) (.seq (.reg false [⟨some 144, .load 2 true (.tmp 3), none⟩, ⟨some 145, .load 4 true (.tmp 8), none⟩, ⟨some 146, .call (.lit (.fn (.func 14) [] [])) [.tmp 144, .tmp 145], none⟩, ⟨some 14, .mov (.tmp 146), none⟩]) (.seq (.seq (.reg false [⟨some 147, .mov (.tmp 13), none⟩, ⟨some 148, .bin .lss (.tmp 147) (.lit (.int .i64 0)), none⟩, ⟨some 149, .mov (.tmp 148), none⟩, ⟨some 150, .mov (.tmp 14), some ((149, false))⟩, ⟨some 151, .len (.tmp 150), some ((149, false))⟩, ⟨some 152, .mov (.tmp 13), some ((149, false))⟩, ⟨some 153, .bin .leq (.tmp 151) (.tmp 152), some ((149, false))⟩, ⟨some 154, .pick (.tmp 149) (.lit (.bool true)) (.tmp 153), none⟩]) (.cond (.tmp 154) (.seq (.reg false [⟨some 155, .mov (.tmp 7), none⟩, ⟨some 156, .mov (.tmp 155), none⟩, ⟨some 157, .mov (.tmp 13), some ((156, true))⟩, ⟨some 158, .bin .lss (.tmp 157) (.lit (.int .i64 0)), some ((156, true))⟩, ⟨some 159, .pick (.tmp 156) (.tmp 158) (.lit (.bool false)), none⟩, ⟨some 6, .mov (.tmp 159), none⟩]) .ret) .skip)) (.seq (.reg true [⟨some 160, .mov (.tmp 7), none⟩, ⟨some 161, .mov (.tmp 160), none⟩, ⟨some 162, .mov (.tmp 14), some ((161, true))⟩, ⟨some 163, .mov (.tmp 13), some ((161, true))⟩, ⟨some 164, .ia 1 (.tmp 162) (.tmp 163), some ((161, true))⟩, ⟨some 165, .load 1 false (.tmp 164), some ((161, true))⟩, ⟨some 166, .len (.tmp 165), some ((161, true))⟩, ⟨some 167, .bin .eql (.tmp 166) (.lit (.int .i64 1)), some ((161, true))⟩, ⟨some 168, .fa 0 (.tmp 8), some ((161, true))⟩, ⟨some 169, .load 1 false (.tmp 168), some ((161, true))⟩, ⟨some 170, .mov (.tmp 13), some ((161, true))⟩, ⟨some 171, .ia 3 (.tmp 169) (.tmp 170), some ((161, true))⟩, ⟨some 172, .fa 1 (.tmp 171), some ((161, true))⟩, ⟨some 173, .load 1 false (.tmp 172), some ((161, true))⟩, ⟨some 174, .bin .neq (.tmp 173) (.lit (.int .i64 0)), some ((161, true))⟩, ⟨some 175, .eqa false false [.bool] (.tmp 167) (.tmp 174), some ((161, true))⟩, ⟨some 176, .pick (.tmp 161) (.tmp 175) (.lit (.bool false)), none⟩, ⟨some 177, .mov (.tmp 176), none⟩, ⟨some 178, .mov (.tmp 14), some ((177, true))⟩, ⟨some 179, .mov (.tmp 13), some ((177, true))⟩, ⟨some 180, .ia 1 (.tmp 178) (.tmp 179), some ((177, true))⟩, ⟨some 181, .load 1 false (.tmp 180), some ((177, true))⟩, ⟨some 182, .len (.tmp 181), some ((177, true))⟩, ⟨some 183, .bin .leq (.tmp 182) (.lit (.int .i64 1)), some ((177, true))⟩, ⟨some 184, .pick (.tmp 177) (.tmp 183) (.lit (.bool false)), none⟩, ⟨some 6, .mov (.tmp 184), none⟩]) .ret))))))))))), [.tmp 6]⟩
theorem c8_ok : cFn Try.prog an0 Try.f8 = some c8 := by kernel_rfl
end Go.AM

namespace Go.AM
open Go.Proofs
set_option maxRecDepth 100000
set_option linter.unusedVariables false
set_option linter.unusedSimpArgs false
/-! ### The law of cells -/
theorem filterMap_one {α β : Type} [Inhabited α] {f : α → Option β} {l : List α} {N : Nat} (hN : N < l.length) (h : ∀ i : Nat, i < l.length → i ≠ N → f (gi l i) = none) : l.filterMap f = (f (gi l N)).toList := by
  have hz : ∀ k : List α, (∀ x ∈ k, f x = none) → k.filterMap f = [] := fun k hk => List.filterMap_eq_nil_iff.2 hk
  have hget : ∀ i (hi : i < l.length), gi l (i : Int) = l[i] := fun i hi => by simp [gi, List.getD, hi]
  have h1 : (l.take N).filterMap f = [] := hz _ fun x hx => by
    obtain ⟨i, hi, rfl⟩ := List.getElem_of_mem hx
    simp at hi
    rw [List.getElem_take, ← hget i (by omega)]
    exact h i (by omega) (by omega)
  have h2 : (l.drop (N + 1)).filterMap f = [] := hz _ fun x hx => by
    obtain ⟨i, hi, rfl⟩ := List.getElem_of_mem hx
    simp at hi
    rw [List.getElem_drop, ← hget (N + 1 + i) (by omega)]
    exact h (N + 1 + i) (by omega) (by omega)
  have e : l = l.take N ++ l[N] :: l.drop (N + 1) := by simp
  conv => lhs; rw [e]
  rw [List.filterMap_append, h1, List.filterMap_cons, h2, hget N hN]
  cases f l[N] <;> rfl
theorem var_row {p : Pg} {m : Mc} (h : CsOk p m.cells) {N : Nat} (hN : N < (varsOf p).length) :
    gi (holdsF p m) (N : Int) = (putsF p m N (gi m.cells N)).toList := by
  have hv := h.vars
  have e : gi (holdsF p m) (N : Int) = compI (sortI (m.cells.filterMap (putsF p m N))) := by
    have : N < locsN p := by unfold locsN; omega
    simp [holdsF, gi, List.getD, this]
  rw [e, filterMap_one (N := N) (by omega) fun i hi hne => by
    obtain ⟨q1, q2⟩ := h.locs i hi
    unfold putsF
    rw [if_neg]
    by_cases hiv : i < (varsOf p).length
    · have := q1 hiv; omega
    · have := q2 (by omega); omega]
  cases putsF p m N (gi m.cells N) with
  | none => simp only [Option.toList_none]; rw [show sortI [] = [] from by simp [sortI]]; rfl
  | some v => simp only [Option.toList_some]; rw [show sortI [v] = [v] from by simp [sortI]]; rfl
theorem law8_PF (p : Pg) (hp : SmallP p) (l : List Int) (s : ByteArray) (hl : l.length ≤ 1048576) (hs : s.size ≤ 1048576) : PF Try.prog 8 [.agg p.cs, ints l, .str s] (.bool true) := by
  refine PFk 9 hm Try.func8 c8_ok (Nat.le_of_ble_eq_true rfl) (by simp) (by simp) ?_
  have hA : l.length ≤ maxA := by unfold maxA; omega
  simp (maxSteps := 3000000) [-List.length_flatten, -List.map_drop, -List.map_take, Function.comp_def, argsT, Opd.ev, Tm.get, put, ares, mapMo, ares1, snilP, bldParts, bslParts, putAt, AV.cells, AV.one, astore, aload, loadCs, callArgs, abin, abinInt, aapp, elems, appMore, appNone, preLen, aFa, aFld, apart, aExt, aPick, aNot, aLens, aEqa, cellsK, fitsA, LK.fitsA, leavesA, leafA, nilD, aNilc, aCint, aCid, alive, alen, alenOk, Rle, lePs, len_flat, c8, hA]
  refine PF.call shown_c 9 (by simp [lePs, -List.length_flatten, -List.map_drop, -List.map_take, Function.comp_def, len_flat]) ?_
  simp (maxSteps := 3000000) [-List.length_flatten, -List.map_drop, -List.map_take, Function.comp_def, argsT, Opd.ev, Tm.get, put, ares, mapMo, ares1, snilP, bldParts, bslParts, putAt, AV.cells, AV.one, astore, aload, loadCs, callArgs, abin, abinInt, aapp, elems, appMore, appNone, preLen, aFa, aFld, apart, aExt, aPick, aNot, aLens, aEqa, cellsK, fitsA, LK.fitsA, leavesA, leafA, nilD, aNilc, aCint, aCid, alive, alen, alenOk, Rle, lePs, len_flat, Kc]
  refine PFE.call (of_E p hp) 9 (by simp [lePs, -List.length_flatten, -List.map_drop, -List.map_take, Function.comp_def, len_flat]) ?_
  rintro _ ⟨b, rfl, hb⟩
  cases b with
  | false => simp (maxSteps := 3000000) [-List.length_flatten, -List.map_drop, -List.map_take, Function.comp_def, argsT, Opd.ev, Tm.get, put, ares, mapMo, ares1, snilP, bldParts, bslParts, putAt, AV.cells, AV.one, astore, aload, loadCs, callArgs, abin, abinInt, aapp, elems, appMore, appNone, preLen, aFa, aFld, apart, aExt, aPick, aNot, aLens, aEqa, cellsK, fitsA, LK.fitsA, leavesA, leafA, nilD, aNilc, aCint, aCid, alive, alen, alenOk, Rle, lePs, len_flat, Kc]
  | true =>
    have hO := hb rfl
    by_cases h : (l.length : Int) ≤ 100
    · have h' : ¬ (100 : Int) < l.length := by omega
      simp (maxSteps := 3000000) [-List.length_flatten, -List.map_drop, -List.map_take, Function.comp_def, argsT, Opd.ev, Tm.get, put, ares, mapMo, ares1, snilP, bldParts, bslParts, putAt, AV.cells, AV.one, astore, aload, loadCs, callArgs, abin, abinInt, aapp, elems, appMore, appNone, preLen, aFa, aFld, apart, aExt, aPick, aNot, aLens, aEqa, cellsK, fitsA, LK.fitsA, leavesA, leafA, nilD, aNilc, aCint, aCid, alive, Rle, lePs, len_flat, Kc, hA, h']
      refine PF.call (run_PF hO l hl) 9 (by simp [lePs, -List.length_flatten, -List.map_drop, -List.map_take, Function.comp_def, len_flat]) ?_
      have hr : MOk p (runF p l) := run_ok hO l _ (new_ok hO)
      generalize runF p l = m at *
      simp (maxSteps := 3000000) [-List.length_flatten, -List.map_drop, -List.map_take, Function.comp_def, argsT, Opd.ev, Tm.get, put, ares, mapMo, ares1, snilP, bldParts, bslParts, putAt, AV.cells, AV.one, astore, aload, loadCs, callArgs, abin, abinInt, aapp, elems, appMore, appNone, preLen, aFa, aFld, apart, aExt, aPick, aNot, aLens, aEqa, cellsK, fitsA, LK.fitsA, leavesA, leafA, nilD, aNilc, aCint, aCid, alive, Rle, lePs, len_flat, Kc]
      refine ⟨one_cellsV', ?_⟩
      have hn := hO.neat.locs
      have hv : (varsOf p).length ≤ maxA := by unfold maxA; omega
      have hc : m.cells.length ≤ maxA := by have := hr.cs.few; unfold maxA; omega
      have hcv : ¬ (m.cells.length : Int) < (varsOf p).length := by have := hr.cs.vars; omega
      have hw : IntKind.i64.wrap (((varsOf p).length : Int) + sitesN p.l) = locsN p := by rw [w64 (by omega) (by omega)]; simp [locsN]
      refine PF.call (vars_PF p hO.fits) 9 (by simp [lePs, -List.length_flatten, -List.map_drop, -List.map_take, Function.comp_def, len_flat]) ?_
      simp (maxSteps := 3000000) [-List.length_flatten, -List.map_drop, -List.map_take, Function.comp_def, argsT, Opd.ev, Tm.get, put, ares, mapMo, ares1, snilP, bldParts, bslParts, putAt, AV.cells, AV.one, astore, aload, loadCs, callArgs, abin, abinInt, aapp, elems, appMore, appNone, preLen, aFa, aFld, apart, aExt, aPick, aNot, aLens, aEqa, cellsK, fitsA, LK.fitsA, leavesA, leafA, nilD, aNilc, aCint, aCid, alive, Rle, lePs, len_flat, Kc, hv]
      refine PF.call (sites_PF p (by have := hO.l; omega)) 9 (by simp [lePs, -List.length_flatten, -List.map_drop, -List.map_take, Function.comp_def, len_flat]) ?_
      simp (maxSteps := 3000000) [-List.length_flatten, -List.map_drop, -List.map_take, Function.comp_def, argsT, Opd.ev, Tm.get, put, ares, mapMo, ares1, snilP, bldParts, bslParts, putAt, AV.cells, AV.one, astore, aload, loadCs, callArgs, abin, abinInt, aapp, elems, appMore, appNone, preLen, aFa, aFld, apart, aExt, aPick, aNot, aLens, aEqa, cellsK, fitsA, LK.fitsA, leavesA, leafA, nilD, aNilc, aCint, aCid, alive, Rle, lePs, len_flat, Kc, hw, hv, hc, hcv]
      refine run_countK m.cells.length 11 [(10, i64 (locsN p)), (9, strs (varsOf p)), (7, .bool true), (2, .str s), (3, .ptr 0 0 0), (8, .ptr 1 0 0)] [.cells 0 p.cs, .cells 0 m.av] (fun _ => True) (Wk.sub (by simp [Tm.get])) trivial ?_
      intro i hi _ KK kx kr kn
      by_cases hh : i < m.cells.length
      · have hne : cellsV m.cells = .rows false 3 (m.cells.map Cl.cs) := cellsV_ne (fun e => by rw [e] at hh; simp at hh)
        have nx : ∀ (T : Tm) (x : ABlk), al (fun q => T.get q.1 = q.2) [(11, i64 (i + 1 : Nat)), (10, i64 (locsN p)), (9, strs (varsOf p)), (7, .bool true), (2, .str s), (3, .ptr 0 0 0), (8, .ptr 1 0 0)] → KK .normal T [.cells 0 p.cs, .cells 0 m.av, x] := fun T x ht =>
          kn _ _ (Kn_next 2 (by omega) (by omega) trivial ht (by simp) rfl (by simp [RLB]))
        obtain ⟨v1, v2, v3, v4, v5⟩ := hr.cs.vals _ (gi_mem hh)
        obtain ⟨q1, q2⟩ := hr.cs.locs i hh
        have n0 : p.funs.length ≤ maxA := by have := hO.neat.funs; unfold maxA; omega
        have n1 : ¬ (gi m.cells i).loc < 0 := by
          by_cases hiv : i < (varsOf p).length
          · have := q1 hiv; omega
          · have := q2 (by omega); omega
        have n2 : ¬ (locsN p : Int) ≤ (gi m.cells i).loc := by
          unfold locsN
          by_cases hiv : i < (varsOf p).length
          · have := q1 hiv; omega
          · have := q2 (by omega); omega
        have hk : ((gi m.cells i).kind = 0 ∧ (gi m.cells i).v = 0) ∨ ((gi m.cells i).kind = 1 ∧ ¬ (gi m.cells i).v < 0 ∧ ¬ (m.cells.length : Int) ≤ (gi m.cells i).v) ∨ ((gi m.cells i).kind = 2 ∧ ¬ (gi m.cells i).v < 0 ∧ ¬ (p.funs.length : Int) ≤ (gi m.cells i).v) := by
          have : (gi m.cells i).kind = 0 ∨ (gi m.cells i).kind = 1 ∨ (gi m.cells i).kind = 2 := by omega
          rcases this with e | e | e
          · exact .inl ⟨e, v3 e⟩
          · exact .inr (.inl ⟨e, by have := v4 e; omega, by have := v4 e; omega⟩)
          · exact .inr (.inr ⟨e, by have := v5 e; omega, by have := v5 e; omega⟩)
        by_cases hiv : i < (varsOf p).length
        · have p1 := q1 hiv
          have p2 : ¬ (varsOf p).length ≤ i := by omega
          have p5 : ¬ (i : Int) < 0 := by omega
          have p6 : ¬ locsN p ≤ i := by rw [p1] at n2; omega
          rcases hk with ⟨k1, k2⟩ | ⟨k1, k2, k3⟩ | ⟨k1, k2, k3⟩
          · simp (maxSteps := 3000000) [-List.length_flatten, -List.map_drop, -List.map_take, Function.comp_def, argsT, Opd.ev, Tm.get, put, ares, mapMo, ares1, snilP, bldParts, bslParts, putAt, AV.cells, AV.one, astore, aload, loadCs, callArgs, abin, abinInt, aapp, elems, appMore, appNone, preLen, aFa, aFld, apart, aExt, aPick, aNot, aLens, aEqa, cellsK, fitsA, LK.fitsA, leavesA, leafA, nilD, aNilc, aCint, aCid, alive, alen, alenOk, Rle, lePs, len_flat, hh, hc, hne, n0, p5, p6, p1, p2, hv, hiv, k1, k2]
            exact nx _ _ (by simp [Tm.get, nxt hh hc])
          · simp (maxSteps := 3000000) [-List.length_flatten, -List.map_drop, -List.map_take, Function.comp_def, argsT, Opd.ev, Tm.get, put, ares, mapMo, ares1, snilP, bldParts, bslParts, putAt, AV.cells, AV.one, astore, aload, loadCs, callArgs, abin, abinInt, aapp, elems, appMore, appNone, preLen, aFa, aFld, apart, aExt, aPick, aNot, aLens, aEqa, cellsK, fitsA, LK.fitsA, leavesA, leafA, nilD, aNilc, aCint, aCid, alive, alen, alenOk, Rle, lePs, len_flat, hh, hc, hne, n0, p5, p6, p1, p2, hv, hiv, k1, k2, k3]
            exact nx _ _ (by simp [Tm.get, nxt hh hc])
          · simp (maxSteps := 3000000) [-List.length_flatten, -List.map_drop, -List.map_take, Function.comp_def, argsT, Opd.ev, Tm.get, put, ares, mapMo, ares1, snilP, bldParts, bslParts, putAt, AV.cells, AV.one, astore, aload, loadCs, callArgs, abin, abinInt, aapp, elems, appMore, appNone, preLen, aFa, aFld, apart, aExt, aPick, aNot, aLens, aEqa, cellsK, fitsA, LK.fitsA, leavesA, leafA, nilD, aNilc, aCint, aCid, alive, alen, alenOk, Rle, lePs, len_flat, hh, hc, hne, n0, p5, p6, p1, p2, hv, hiv, k1, k2, k3]
            exact nx _ _ (by simp [Tm.get, nxt hh hc])
        · obtain ⟨p1, p3⟩ := q2 (by omega)
          have p2 : (varsOf p).length ≤ i := by omega
          have p4 : ¬ (gi m.cells i).loc < (varsOf p).length := by omega
          rcases hk with ⟨k1, k2⟩ | ⟨k1, k2, k3⟩ | ⟨k1, k2, k3⟩
          · simp (maxSteps := 3000000) [-List.length_flatten, -List.map_drop, -List.map_take, Function.comp_def, argsT, Opd.ev, Tm.get, put, ares, mapMo, ares1, snilP, bldParts, bslParts, putAt, AV.cells, AV.one, astore, aload, loadCs, callArgs, abin, abinInt, aapp, elems, appMore, appNone, preLen, aFa, aFld, apart, aExt, aPick, aNot, aLens, aEqa, cellsK, fitsA, LK.fitsA, leavesA, leafA, nilD, aNilc, aCint, aCid, alive, alen, alenOk, Rle, lePs, len_flat, hh, hc, hne, n0, n1, n2, p2, p4, hv, hiv, k1, k2]
            exact nx _ _ (by simp [Tm.get, nxt hh hc])
          · simp (maxSteps := 3000000) [-List.length_flatten, -List.map_drop, -List.map_take, Function.comp_def, argsT, Opd.ev, Tm.get, put, ares, mapMo, ares1, snilP, bldParts, bslParts, putAt, AV.cells, AV.one, astore, aload, loadCs, callArgs, abin, abinInt, aapp, elems, appMore, appNone, preLen, aFa, aFld, apart, aExt, aPick, aNot, aLens, aEqa, cellsK, fitsA, LK.fitsA, leavesA, leafA, nilD, aNilc, aCint, aCid, alive, alen, alenOk, Rle, lePs, len_flat, hh, hc, hne, n0, n1, n2, p2, p4, hv, hiv, k1, k2, k3]
            exact nx _ _ (by simp [Tm.get, nxt hh hc])
          · simp (maxSteps := 3000000) [-List.length_flatten, -List.map_drop, -List.map_take, Function.comp_def, argsT, Opd.ev, Tm.get, put, ares, mapMo, ares1, snilP, bldParts, bslParts, putAt, AV.cells, AV.one, astore, aload, loadCs, callArgs, abin, abinInt, aapp, elems, appMore, appNone, preLen, aFa, aFld, apart, aExt, aPick, aNot, aLens, aEqa, cellsK, fitsA, LK.fitsA, leavesA, leafA, nilD, aNilc, aCint, aCid, alive, alen, alenOk, Rle, lePs, len_flat, hh, hc, hne, n0, n1, n2, p2, p4, hv, hiv, k1, k2, k3]
            exact nx _ _ (by simp [Tm.get, nxt hh hc])
      · simp (maxSteps := 3000000) [-List.length_flatten, -List.map_drop, -List.map_take, Function.comp_def, argsT, Opd.ev, Tm.get, put, ares, mapMo, ares1, snilP, bldParts, bslParts, putAt, AV.cells, AV.one, astore, aload, loadCs, callArgs, abin, abinInt, aapp, elems, appMore, appNone, preLen, aFa, aFld, apart, aExt, aPick, aNot, aLens, aEqa, cellsK, fitsA, LK.fitsA, leavesA, leafA, nilD, aNilc, aCint, aCid, alive, Rle, lePs, len_flat, hh, hc, kx]
        clear kx kr kn
        refine PF.call (at_PF (varsOf p) s) 9 (by simp [lePs, -List.length_flatten, -List.map_drop, -List.map_take, Function.comp_def, len_flat]) ?_
        have hrng : ∀ n : Int, n = fstAt (fun x => decide (x = s)) (varsOf p) → 0 ≤ n → n < (varsOf p).length := by
          intro n hn h0
          unfold fstAt at hn
          split at hn
          · rename_i j hj
            rw [List.findIdx?_eq_some_iff_getElem] at hj
            obtain ⟨h1, _⟩ := hj
            omega
          · omega
        simp (maxSteps := 3000000) [-List.length_flatten, -List.map_drop, -List.map_take, Function.comp_def, argsT, Opd.ev, Tm.get, put, ares, mapMo, ares1, snilP, bldParts, bslParts, putAt, AV.cells, AV.one, astore, aload, loadCs, callArgs, abin, abinInt, aapp, elems, appMore, appNone, preLen, aFa, aFld, apart, aExt, aPick, aNot, aLens, aEqa, cellsK, fitsA, LK.fitsA, leavesA, leafA, nilD, aNilc, aCint, aCid, alive, Rle, lePs, len_flat, Kc]
        generalize fstAt (fun x => decide (x = s)) (varsOf p) = n at *
        refine PF.call (holds_PF hO hr) 9 (by simp [lePs]; exact leP_refl _ _) ?_
        have hll : (holdsF p m).length = locsN p := by simp [holdsF]
        have hB : (holdsF p m).length ≤ maxA := by rw [hll]; unfold locsN maxA; omega
        by_cases hn0 : n < 0
        · simp (maxSteps := 3000000) [-List.length_flatten, -List.map_drop, -List.map_take, Function.comp_def, argsT, Opd.ev, Tm.get, put, ares, mapMo, ares1, snilP, bldParts, bslParts, putAt, AV.cells, AV.one, astore, aload, loadCs, callArgs, abin, abinInt, aapp, elems, appMore, appNone, preLen, aFa, aFld, apart, aExt, aPick, aNot, aLens, aEqa, cellsK, fitsA, LK.fitsA, leavesA, leafA, nilD, aNilc, aCint, aCid, alive, Rle, lePs, len_flat, Kc, hB, hn0]
        · obtain ⟨N, rfl⟩ : ∃ N : Nat, n = N := ⟨n.toNat, by omega⟩
          have hNv : N < (varsOf p).length := by have := hrng N rfl (by omega); omega
          have hrow := var_row (p := p) (m := m) hr.cs hNv
          have hNc : N < m.cells.length := by have := hr.cs.vars; omega
          have hloc := (hr.cs.locs N hNc).1 hNv
          obtain ⟨v1, v2, v3, v4, v5⟩ := hr.cs.vals _ (gi_mem hNc)
          have hNl : N < (holdsF p m).length := by rw [hll]; unfold locsN; omega
          have hNl2 : ¬ (holdsF p m).length ≤ N := by omega
          have hN0 : ¬ (N : Int) < 0 := by omega
          have hne : cellsV m.cells = .rows false 3 (m.cells.map Cl.cs) := cellsV_ne (fun e => by rw [e] at hNc; simp at hNc)
          generalize holdsF p m = hs at *
          by_cases hk : (gi m.cells N).kind = 0
          · have hro : gi hs (N : Int) = [] := by rw [hrow]; unfold putsF; simp [hk]
            simp (maxSteps := 3000000) [-List.length_flatten, -List.map_drop, -List.map_take, Function.comp_def, argsT, Opd.ev, Tm.get, put, ares, mapMo, ares1, snilP, bldParts, bslParts, putAt, AV.cells, AV.one, astore, aload, loadCs, callArgs, abin, abinInt, aapp, elems, appMore, appNone, preLen, aFa, aFld, apart, aExt, aPick, aNot, aLens, aEqa, cellsK, fitsA, LK.fitsA, leavesA, leafA, nilD, aNilc, aCint, aCid, alive, alen, alenOk, Rle, lePs, len_flat, Kc, hB, hN0, hNl, hNl2, hro, hk, hne, hNc]
          · obtain ⟨v, hv⟩ : ∃ v, gi hs (N : Int) = [v] := by
              rw [hrow]
              unfold putsF
              rw [if_pos hloc]
              by_cases hk1 : (gi m.cells N).kind = 1
              · rw [if_pos hk1]; exact ⟨_, rfl⟩
              · rw [if_neg hk1, if_pos (by omega)]; exact ⟨_, rfl⟩
            simp (maxSteps := 3000000) [-List.length_flatten, -List.map_drop, -List.map_take, Function.comp_def, argsT, Opd.ev, Tm.get, put, ares, mapMo, ares1, snilP, bldParts, bslParts, putAt, AV.cells, AV.one, astore, aload, loadCs, callArgs, abin, abinInt, aapp, elems, appMore, appNone, preLen, aFa, aFld, apart, aExt, aPick, aNot, aLens, aEqa, cellsK, fitsA, LK.fitsA, leavesA, leafA, nilD, aNilc, aCint, aCid, alive, alen, alenOk, Rle, lePs, len_flat, Kc, hB, hN0, hNl, hNl2, hv, hk, hne, hNc]
    · have h' : (100 : Int) < l.length := by omega
      simp (maxSteps := 3000000) [-List.length_flatten, -List.map_drop, -List.map_take, Function.comp_def, argsT, Opd.ev, Tm.get, put, ares, mapMo, ares1, snilP, bldParts, bslParts, putAt, AV.cells, AV.one, astore, aload, loadCs, callArgs, abin, abinInt, aapp, elems, appMore, appNone, preLen, aFa, aFld, apart, aExt, aPick, aNot, aLens, aEqa, cellsK, fitsA, LK.fitsA, leavesA, leafA, nilD, aNilc, aCint, aCid, alive, alen, alenOk, Rle, lePs, len_flat, Kc, hA, h']
end Go.AM
