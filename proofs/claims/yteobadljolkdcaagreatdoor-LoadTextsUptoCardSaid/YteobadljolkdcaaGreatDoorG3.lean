/-
 DERIVED: THE SHELF's CONTRACTS AT THIS DUMP, IN PLAIN WORDS (tools/lay-plain.mjs out of 'TryzjShelf.lean', which tools/lay-shelf.mjs wrote): THE SAME DECLARATIONS UNDER THE SAME NAMES: 'import', 'namespace', 'open', 'def', 'theorem' AND NOTHING ELSE: no command of the shelf's: FOR A HAND-IN. Each laying: the table of numbers ('.._ren') and one theorem, a field a fact of the dump's own or the kernel's comparison; each contract: ONE APPLICATION.
-/
import Derived.Shelf.Strings.OnBuilder
import Derived.Shelf.Strconv.Itoa3
import Derived.Test.YteobadljolkdcaaGreatDoorProg
import Derived.Test.YteobadljolkdcaaGreatDoorG2
import Derived.KernelRfl
namespace Go.Proofs
open Go.Shelf
def Tryz.lays156_ren : Go.Shelf.Ren := ⟨fun | 156 => 104 | 165 => 112 | 166 => 113 | 169 => 114 | 240 => 120 | 241 => 121 | 276 => 123 | 277 => 124 | n => n, fun | 31 => 27 | 9 => 9 | 3 => 3 | 4 => 4 | 0 => 0 | 20 => 20 | 72 => 146 | 76 => 150 | 70 => 144 | 37 => 113 | 75 => 149 | 127 => 155 | 164 => 157 | 5 => 5 | 80 => 152 | n => n, fun | n => n⟩
theorem Tryz.lays156 : Go.Proofs.Lays.n156 Tryz.prog Tryz.lays156_ren := {
 mixed := by kernel_rfl
 f156 := Tryz.func104.trans (congrArg some (by kernel_rfl))
 f165 := Tryz.func112.trans (congrArg some (by kernel_rfl))
 f166 := Tryz.func113.trans (congrArg some (by kernel_rfl))
 f169 := Tryz.func114.trans (congrArg some (by kernel_rfl))
 f240 := Tryz.func120.trans (congrArg some (by kernel_rfl))
 f241 := Tryz.func121.trans (congrArg some (by kernel_rfl))
 f276 := Tryz.func123.trans (congrArg some (by kernel_rfl))
 f277 := Tryz.func124.trans (congrArg some (by kernel_rfl))
 t0 := Tryz.underlying0
 a0 := Tryz.isAgg0
 z0 := Tryz.sizeOf0
 v0 := Tryz.zeroValue0
 t3 := Tryz.underlying3
 a3 := Tryz.isAgg3
 z3 := Tryz.sizeOf3
 v3 := Tryz.zeroValue3
 t4 := Tryz.underlying4
 a4 := Tryz.isAgg4
 z4 := Tryz.sizeOf4
 v4 := Tryz.zeroValue4
 t9 := Tryz.underlying9
 a9 := Tryz.isAgg9
 z9 := Tryz.sizeOf9
 v9 := Tryz.zeroValue9
 t20 := Tryz.underlying20
 a20 := Tryz.isAgg20
 z20 := Tryz.sizeOf20
 v20 := Tryz.zeroValue20
 t31 := Tryz.underlying27
 a31 := Tryz.isAgg27
 z31 := Tryz.sizeOf27
 v31 := Tryz.zeroValue27
 t37 := Tryz.underlying113
 a37 := Tryz.isAgg113
 z37 := Tryz.sizeOf113
 v37 := Tryz.zeroValue113
 t70 := Tryz.underlying144
 a70 := Tryz.isAgg144
 z70 := Tryz.sizeOf144
 v70 := Tryz.zeroValue144
 t72 := Tryz.underlying146
 a72 := Tryz.isAgg146
 z72 := Tryz.sizeOf146
 v72 := Tryz.zeroValue146
 t75 := Tryz.underlying149
 a75 := Tryz.isAgg149
 z75 := Tryz.sizeOf149
 v75 := Tryz.zeroValue149
 t76 := Tryz.underlying150
 a76 := Tryz.isAgg150
 z76 := Tryz.sizeOf150
 v76 := Tryz.zeroValue150
 t127 := Tryz.underlying155
 a127 := Tryz.isAgg155
 z127 := Tryz.sizeOf155
 v127 := Tryz.zeroValue155
 t164 := Tryz.underlying157
 a164 := Tryz.isAgg157
 z164 := Tryz.sizeOf157
 v164 := Tryz.zeroValue157 }
theorem Tryz.Builder_Extra_156 : Builder.Extra Tryz.prog Tryz.lays156_ren := {
 sizeBuilder := by kernel_rfl
 liesBuilder := by kernel_rfl
 t5 := Tryz.underlying5
 a5 := Tryz.isAgg5
 z5 := Tryz.sizeOf5
 v5 := Tryz.zeroValue5
 infoByte := by kernel_rfl
 cellsByte := by kernel_rfl
 sizeByte := by kernel_rfl
 neB5 := by decide }
open Go.RowKit in
/-- No element: the empty string; the world is as it was. (Whatever the slice's address and capacity: a nil slice too.) (LAID: no walk: one application.) -/
theorem Tryz.strings_Join_none (a : Option Addr) (c : Nat) (sep : ByteArray) (w : World) :
  Calls Tryz.prog 104 #[.slice a 0 c, .string sep] w fun e w' => e = .returned (.string ⟨#[]⟩) ∧ w' = w := Any.strings_Join_none Tryz.lays156 Tryz.Builder_Extra_156 a c sep w
open Go.RowKit in
/-- strings.Join: "Join concatenates the elements of its first argument to create a single string. The separator string sep is placed between elements in the resulting string.": HOWEVER MANY ELEMENTS. Below the heap's end the world is as it was. (LAID: no walk: one application.) -/
theorem Tryz.strings_Join (bk o c : Nat) (xs : List ByteArray) (sep : ByteArray) (w : World) (hcells : ∀ (j : Nat) x, xs[j]? = some x → w.cell? ⟨bk, o + j, none⟩ = some (.string x)) (hbk : bk < w.heap.size) (hN : xs.length ≤ 140737488355328) (hcap : xs.length ≤ c) (hlen : (Lib.join (xs.map (·.data.toList)) sep.data.toList).length ≤ 140737488355328) :
  Calls Tryz.prog 104 #[.slice (some ⟨bk, o, none⟩) xs.length c, .string sep] w fun e w' => e = .returned (.string ⟨(Lib.join (xs.map (·.data.toList)) sep.data.toList).toArray⟩) ∧ Below w.heap.size w w' := Any.strings_Join Tryz.lays156 Tryz.Builder_Extra_156 bk o c xs sep w hcells hbk hN hcap hlen
def Tryz.lays171_ren : Go.Shelf.Ren := ⟨fun | 171 => 106 | 243 => 115 | 246 => 122 | 283 => 125 | 284 => 126 | 285 => 127 | 286 => 128 | 129 => 130 | 317 => 129 | 318 => 131 | 319 => 132 | 320 => 133 | 337 => 134 | 338 => 135 | n => n, fun | 3 => 3 | 9 => 9 | 2 => 2 | 4 => 4 | 171 => 160 | 0 => 0 | 53 => 127 | 37 => 113 | 5 => 5 | 173 => 163 | 212 => 166 | 51 => 115 | 20 => 20 | 213 => 167 | 46 => 168 | 232 => 171 | 233 => 172 | n => n, fun | 17 => 1 | 18 => 2 | 19 => 3 | n => n⟩
theorem Tryz.lays171 : Go.Proofs.Lays.n171 Tryz.prog Tryz.lays171_ren := {
 mixed := by kernel_rfl
 f129 := Tryz.func130.trans (congrArg some (by kernel_rfl))
 f171 := Tryz.func106.trans (congrArg some (by kernel_rfl))
 f243 := Tryz.func115.trans (congrArg some (by kernel_rfl))
 f246 := Tryz.func122.trans (congrArg some (by kernel_rfl))
 f283 := Tryz.func125.trans (congrArg some (by kernel_rfl))
 f284 := Tryz.func126.trans (congrArg some (by kernel_rfl))
 f285 := Tryz.func127.trans (congrArg some (by kernel_rfl))
 f286 := Tryz.func128.trans (congrArg some (by kernel_rfl))
 f317 := Tryz.func129.trans (congrArg some (by kernel_rfl))
 f318 := Tryz.func131.trans (congrArg some (by kernel_rfl))
 f319 := Tryz.func132.trans (congrArg some (by kernel_rfl))
 f320 := Tryz.func133.trans (congrArg some (by kernel_rfl))
 f337 := Tryz.func134.trans (congrArg some (by kernel_rfl))
 f338 := Tryz.func135.trans (congrArg some (by kernel_rfl))
 t0 := Tryz.underlying0
 a0 := Tryz.isAgg0
 z0 := Tryz.sizeOf0
 v0 := Tryz.zeroValue0
 t2 := Tryz.underlying2
 a2 := Tryz.isAgg2
 z2 := Tryz.sizeOf2
 v2 := Tryz.zeroValue2
 t3 := Tryz.underlying3
 a3 := Tryz.isAgg3
 z3 := Tryz.sizeOf3
 v3 := Tryz.zeroValue3
 t4 := Tryz.underlying4
 a4 := Tryz.isAgg4
 z4 := Tryz.sizeOf4
 v4 := Tryz.zeroValue4
 t5 := Tryz.underlying5
 a5 := Tryz.isAgg5
 z5 := Tryz.sizeOf5
 v5 := Tryz.zeroValue5
 t9 := Tryz.underlying9
 a9 := Tryz.isAgg9
 z9 := Tryz.sizeOf9
 v9 := Tryz.zeroValue9
 t20 := Tryz.underlying20
 a20 := Tryz.isAgg20
 z20 := Tryz.sizeOf20
 v20 := Tryz.zeroValue20
 t37 := Tryz.underlying113
 a37 := Tryz.isAgg113
 z37 := Tryz.sizeOf113
 v37 := Tryz.zeroValue113
 t46 := Tryz.underlying168
 a46 := Tryz.isAgg168
 z46 := Tryz.sizeOf168
 v46 := Tryz.zeroValue168
 t51 := Tryz.underlying115
 a51 := Tryz.isAgg115
 z51 := Tryz.sizeOf115
 v51 := Tryz.zeroValue115
 t53 := Tryz.underlying127
 a53 := Tryz.isAgg127
 z53 := Tryz.sizeOf127
 v53 := Tryz.zeroValue127
 t171 := Tryz.underlying160
 a171 := Tryz.isAgg160
 z171 := Tryz.sizeOf160
 v171 := Tryz.zeroValue160
 t173 := Tryz.underlying163
 a173 := Tryz.isAgg163
 z173 := Tryz.sizeOf163
 v173 := Tryz.zeroValue163
 t212 := Tryz.underlying166
 a212 := Tryz.isAgg166
 z212 := Tryz.sizeOf166
 v212 := Tryz.zeroValue166
 t213 := Tryz.underlying167
 a213 := Tryz.isAgg167
 z213 := Tryz.sizeOf167
 t232 := Tryz.underlying171
 a232 := Tryz.isAgg171
 z232 := Tryz.sizeOf171
 v232 := Tryz.zeroValue171
 t233 := Tryz.underlying172
 a233 := Tryz.isAgg172
 z233 := Tryz.sizeOf172
 v233 := Tryz.zeroValue172
 g17 := by kernel_rfl
 g18 := by kernel_rfl
 g19 := by kernel_rfl }
open Go.RowKit Go.Sort Go.Lib in
/-- THE ROAD WITHOUT THE TABLE: 0 <= i < 100: NO PREMISE ON THE WORLD, AND THE WORLD IS AS IT WAS: a row that keeps its argument in that range need list no table ('laid = []'). (LAID: no walk: one application.) -/
theorem Tryz.strconv_Itoa_small (i : Nat) (hi : i < 100) (w : World) :
  Calls Tryz.prog 106 #[.int .i64 i] w fun e w' => e = .returned (.string ⟨(Lib.decDigits i).toArray⟩) ∧ w' = w := Any.strconv_Itoa_small Tryz.lays171 i hi w
end Go.Proofs

namespace Go.AM
open Go.Proofs
set_option maxRecDepth 100000
set_option linter.unusedVariables false
set_option linter.unusedSimpArgs false
attribute [local go_sem] Function.comp_def argsT Opd.ev Tm.get put ares mapMo ares1 snilP bldParts bslParts putAt AV.cells AV.one astore aload loadCs callArgs abin abinInt aapp elems appMore appNone preLen aFa aFld apart aExt aPick aNot aLens aEqa cellsK fitsA LK.fitsA leavesA leafA nilD aNilc aCint aCid alive alen alenOk Rle lePs len_flat
/-! ### The library's Join and Itoa -/
theorem ba_ext {a b : ByteArray} (h : a.data.toList = b.data.toList) : a = b := by
 cases a with
 | mk x =>
  cases b with
  | mk y =>
   congr 1
   exact Array.toList_inj.1 h
theorem join_lib : ∀ ks : List ByteArray, joinB ks = ⟨(Lib.join (ks.map (·.data.toList)) [44]).toArray⟩
 | [] => rfl
 | [x] => by
  apply ba_ext
  simp [joinB, Lib.join_one]
 | x :: y :: ks => by
  have ih := join_lib (y :: ks)
  apply ba_ext
  have ih2 : (joinB (y :: ks)).data.toList = Lib.join ((y :: ks).map (·.data.toList)) [44] := by rw [ih]
  rw [List.map_cons, Lib.join_cons] at ih2
  rw [joinB, List.map_cons, Lib.join_cons, List.map_cons]
  simp only [ByteArray.data_append, Array.toList_append, ih2]
  simp [Lib.joinTail]
theorem Ev.below {w w' : World} (h : Go.RowKit.Below w.heap.size w w') : Ev [] w [] w' :=
 ⟨h.os, h.tape, h.output, h.size, fun B hB _ => h.block B hB, fun B ⟨e, he, _⟩ => (by cases he), (fun i e h => by simp at h), Nat.le_refl _⟩
theorem FT.out0 {P : Program} {X : Nat → Prop} {E : Env} {w w' : World} {e : Ending} {s : ByteArray} (hr : HR X E w []) (he : e = .returned (.string s)) (hs : s.size ≤ 9223372036854775807) (hev : Ev [] w [] w') :
  ∃ (v : Value) (rv : AV) (E' : Env) (H' : AHeap), e = .returned v ∧ rv = .str s ∧ VR X E' w' rv v ∧ HR X E' w' H' ∧ Ev E w E' w' := by
 have hE : E = [] := List.eq_nil_of_length_eq_zero hr.len
 subst hE
 exact ⟨_, _, [], [], he, rfl, .str s hs, hr.mono hev (fun B ⟨e, he, _⟩ => by cases he), hev⟩
theorem join_PF (ks : List ByteArray) (hlen : (joinB ks).size ≤ 140737488355328) (hn : ks.length ≤ 1048576) : PF Tryz.prog 104 [strs ks, .str ⟨#[44]⟩] (.str (joinB ks)) := by
 refine ⟨by simp, by simp, ⟨Tryz.f104, Tryz.func104, rfl, by kernel_rfl⟩, fun X E w vals hr ha => ?_⟩
 obtain ⟨hs, hv⟩ := ha
 obtain ⟨u, s, rfl⟩ : ∃ u s, vals = #[u, s] := by
  match vals, hs with
  | ⟨[u, s]⟩, _ => exact ⟨u, s, rfl⟩
 have v0 := hv 0 (by simp) (by simp)
 have v1 := hv 1 (by simp) (by simp)
 simp only [List.getElem_cons_zero, List.getElem_cons_succ, List.getElem_toArray] at v0 v1
 cases v1
 cases v0 with
 | rows _ _ _ a c ad f hn' hc hclip hsz hav hL hcell hvv =>
 clear hsz hv hs hL hclip
 have hgoal : (List.map (fun s => [AV.str s]) ks).length = ks.length := List.length_map _
 rw [hgoal] at hn' hc hav
 have hcell : ∀ i j : Nat, i < ks.length → j < 1 → w.cell? ⟨ad.block, ad.off + (i * 1 + j), none⟩ = some (f i j) := fun i j hi hj => hcell i j (by rw [hgoal]; exact hi) hj
 rw [hgoal]
 by_cases h0 : ks = []
 ·subst h0
  refine (Tryz.strings_Join_none a c _ w).mono ?_
  rintro e w' ⟨he, rfl⟩
  exact FT.out0 (P := Tryz.prog) (s := ⟨#[]⟩) hr he (by show (0 : Nat) ≤ _; omega) (Ev.refl _ _)
 have hk0 : 0 < ks.length := List.length_pos_iff.2 h0
 have hav := hav hk0
 subst hav
 have hb : ad.block < w.heap.size := cell_lt (hcell 0 0 hk0 (by omega))
 have hlb : (Lib.join (ks.map (·.data.toList)) [44]).length ≤ 140737488355328 := by
  have e := join_lib ks
  have e2 : (joinB ks).size = (Lib.join (ks.map (·.data.toList)) [44]).length := by
   rw [e]
   simp [ByteArray.size]
  omega
 refine (Tryz.strings_Join ad.block ad.off c ks ⟨#[44]⟩ w (fun j x hx => ?_) hb (by omega) hc hlb).mono ?_
 ·have hj := lt_of_get hx
  rw [List.getElem?_eq_getElem hj] at hx
  injection hx with hx
  have h1 := hcell j 0 hj (by omega)
  have h2 := hvv j (by simpa using hj) 0 (by simp)
  simp only [List.getElem_map, List.getElem_cons_zero, hx] at h2
  generalize f j 0 = y at *
  cases h2
  simpa using h1
 ·rintro e w' ⟨he, hbl⟩
  rw [join_lib]
  refine FT.out0 (P := Tryz.prog) hr he ?_ (Ev.below hbl)
  simp [ByteArray.size]
  omega
theorem itoa_PF (n : Int) (h : 0 ≤ n ∧ n < 10) : PF Tryz.prog 106 [i64 n] (.str ⟨#[UInt8.ofNat (48 + n.toNat)]⟩) := by
 refine ⟨by simp, by simp, ⟨Tryz.f106, Tryz.func106, rfl, by kernel_rfl⟩, fun X E w vals hr ha => ?_⟩
 obtain ⟨hs, hv⟩ := ha
 obtain ⟨u, rfl⟩ : ∃ u, vals = #[u] := by
  match vals, hs with
  | ⟨[u]⟩, _ => exact ⟨u, rfl⟩
 have v0 := hv 0 (by simp) (by simp)
 simp only [List.getElem_cons_zero, List.getElem_toArray] at v0
 cases v0
 obtain ⟨m, rfl⟩ : ∃ m : Nat, n = m := ⟨n.toNat, by omega⟩
 refine (Tryz.strconv_Itoa_small m (by omega) w).mono ?_
 rintro e w' ⟨he, rfl⟩
 have hd : Lib.decDigits m = [UInt8.ofNat (48 + m)] := by
  rw [Lib.decDigits, dif_pos (by omega)]
 rw [hd] at he
 exact FT.out0 (P := Tryz.prog) hr he (by simp [ByteArray.size]) (Ev.refl _ _)
end Go.AM

namespace Go.AM
open Go.Proofs
set_option maxRecDepth 100000
set_option linter.unusedVariables false
set_option linter.unusedSimpArgs false
attribute [local go_sem] Function.comp_def argsT Opd.ev Tm.get put ares mapMo ares1 snilP bldParts bslParts putAt AV.cells AV.one astore aload loadCs callArgs abin abinInt aapp elems appMore appNone preLen aFa aFld apart aExt aPick aNot aLens aEqa cellsK fitsA LK.fitsA leavesA leafA nilD aNilc aCint aCid alive alen alenOk Rle lePs len_flat
def c91b : AFn := ⟨70, .seq (.reg false [⟨some 4, .mov (.lit (.str ⟨#[]⟩)), none⟩, ⟨some 5, .mov (.lit (.int .i64 0)), none⟩]) (.seq (.seq (.reg false [⟨some 12, .mov (.tmp 0), none⟩, ⟨some 13, .nilc (.tmp 12), none⟩, ⟨some 14, .fa 0 (.tmp 13), none⟩, ⟨some 15, .load 1 false (.tmp 14), none⟩, ⟨some 16, .mov (.tmp 1), none⟩, ⟨some 17, .ia 3 (.tmp 15) (.tmp 16), none⟩, ⟨some 18, .fa 2 (.tmp 17), none⟩, ⟨some 19, .load 1 false (.tmp 18), none⟩, ⟨some 20, .bin .eql (.tmp 19) (.lit (.int .i64 0)), none⟩]) (.cond (.tmp 20) (.seq (.reg false [⟨some 21, .mov (.tmp 0), none⟩, ⟨some 22, .mov (.tmp 1), none⟩, ⟨some 23, .call (.lit (.fn (.func 90) [] [])) [.tmp 21, .tmp 22], none⟩, ⟨some 24, .ext (.tmp 23) 0, none⟩, ⟨some 25, .ext (.tmp 23) 1, none⟩, ⟨some 4, .mov (.tmp 24), none⟩, ⟨some 5, .mov (.tmp 25), none⟩]) .ret) .skip)) (.seq (.reg false [⟨some 6, .mov (.lit .nilS), none⟩]) (.seq (.reg false [⟨some 7, .mov (.lit (.int .i64 0)), none⟩]) (.seq (.seq (.reg true [⟨some 26, .mov (.tmp 0), none⟩, ⟨some 27, .nilc (.tmp 26), none⟩, ⟨some 28, .fa 0 (.tmp 27), none⟩, ⟨some 29, .load 1 false (.tmp 28), none⟩, ⟨some 30, .mov (.tmp 0), none⟩, ⟨some 31, .nilc (.tmp 30), none⟩, ⟨some 32, .fa 1 (.tmp 31), none⟩, ⟨some 33, .load 1 false (.tmp 32), none⟩, ⟨some 34, .mov (.tmp 1), none⟩, ⟨some 35, .call (.lit (.fn (.func 102) [] [])) [.tmp 29, .tmp 33, .tmp 34], none⟩, ⟨some 36, .len (.tmp 35), none⟩, ⟨some 37, .mov (.lit (.int .i64 0)), none⟩]) (.block 0 (.loop (.seq (.reg false [⟨some 38, .bin .lss (.tmp 37) (.tmp 36), none⟩]) (.seq (.cond (.tmp 38) .skip (.exit 0)) (.seq (.block 1 (.seq (.reg false [⟨some 39, .ia 1 (.tmp 35) (.tmp 37), none⟩, ⟨some 40, .load 1 false (.tmp 39), none⟩, ⟨some 9, .mov (.tmp 40), none⟩]) (.seq (.reg false [⟨some 42, .mov (.tmp 0), none⟩, ⟨some 43, .mov (.tmp 9), none⟩, ⟨some 44, .call (.lit (.fn (.func 103) [] [])) [.tmp 42, .tmp 43, .lit (.bool false)], none⟩, ⟨some 41, .mov (.tmp 44), none⟩, ⟨some 45, .ext (.tmp 41) 0, none⟩, ⟨some 46, .ext (.tmp 41) 1, none⟩, ⟨some 10, .mov (.tmp 45), none⟩, ⟨some 11, .mov (.tmp 46), none⟩]) (.seq (.reg false [⟨some 47, .mov (.tmp 6), none⟩, ⟨some 48, .mov (.tmp 10), none⟩, ⟨some 49, .bslice 1 1 [.str ⟨#[]⟩] [(0, .tmp 48)], none⟩, ⟨some 50, .app 1 16 (.tmp 47) (.tmp 49), none⟩, ⟨some 6, .mov (.tmp 50), none⟩]) (.reg false [⟨some 51, .mov (.tmp 7), none⟩, ⟨some 52, .mov (.tmp 11), none⟩, ⟨some 53, .mx (.tmp 51) (.tmp 52), none⟩, ⟨some 7, .mov (.tmp 53), none⟩]))))) (.reg false [⟨some 54, .bin .add (.tmp 37) (.lit (.int .i64 1)), none⟩, ⟨some 37, .mov (.tmp 54), none⟩]))))))) (.seq (.seq .mark (.reg true [⟨some 55, .mov (.tmp 0), none⟩, ⟨some 56, .nilc (.tmp 55), none⟩, ⟨some 57, .fa 0 (.tmp 56), none⟩, ⟨some 58, .load 1 false (.tmp 57), none⟩, ⟨some 59, .mov (.tmp 1), none⟩, ⟨some 60, .ia 3 (.tmp 58) (.tmp 59), none⟩, ⟨some 61, .fa 1 (.tmp 60), none⟩, ⟨some 62, .load 1 false (.tmp 61), none⟩, ⟨some 63, .bin .add (.tmp 62) (.lit (.str ⟨#[40]⟩)), none⟩, ⟨some 64, .mov (.tmp 6), none⟩, ⟨some 65, .call (.lit (.fn (.func 104) [] [])) [.tmp 64, .lit (.str ⟨#[44]⟩)], none⟩, ⟨some 66, .bin .add (.tmp 63) (.tmp 65), none⟩, ⟨some 67, .bin .add (.tmp 66) (.lit (.str ⟨#[41]⟩)), none⟩, ⟨some 68, .mov (.tmp 7), none⟩, ⟨some 69, .bin .add (.tmp 68) (.lit (.int .i64 1)), none⟩, ⟨some 4, .mov (.tmp 67), none⟩, ⟨some 5, .mov (.tmp 69), none⟩])) .ret))))), [.tmp 4, .tmp 5]⟩

theorem kids_PF {l : List Nd} {i : Nat} {S : List Int} (hB : Begs l i S) (hg : goodN l (i + 1)) (hi : i < l.length) (hl : l.length ≤ 1048576) :
  PF Tryz.prog 102 [nds l, ints S, i64 i] (ints ((kidsN l i).map fun e => (e.r : Int))) := by
 have h := kids_FT (H := []) (.inl rfl) hB hg hi hl (fun b hb => by cases hb)
 exact ⟨by simp, by simp, h.mono fun rv H' h => h.1⟩
theorem c88_ok : cFn Tryz.prog an0 Tryz.f88 = some c88 := by kernel_rfl
theorem zero_FT (v w : AV) (H : AHeap) (hR : ∀ b ∈ H, RLB H.length b) : FT Tryz.prog 88 [v, w] H (fun rv H' => rv = .tuple [.str ⟨#[48]⟩, i64 0] ∧ H' = H) := by
 refine FTt hm Tryz.func88 c88_ok (Nat.le_of_ble_eq_true rfl) ?_
 simp (maxSteps := 3000000) [go_sem,-List.length_flatten,-List.map_drop,-List.map_take, c88]
 exact hR
theorem c89_ok : cFn Tryz.prog an0 Tryz.f89 = some c89 := by kernel_rfl
theorem one_FT (v w : AV) (H : AHeap) (hR : ∀ b ∈ H, RLB H.length b) : FT Tryz.prog 89 [v, w] H (fun rv H' => rv = .tuple [.str ⟨#[49]⟩, i64 0] ∧ H' = H) := by
 refine FTt hm Tryz.func89 c89_ok (Nat.le_of_ble_eq_true rfl) ?_
 simp (maxSteps := 3000000) [go_sem,-List.length_flatten,-List.map_drop,-List.map_take, c89]
 exact hR
theorem c90_ok : cFn Tryz.prog an0 Tryz.f90 = some c90 := by kernel_rfl
theorem name_FT {H : AHeap} {j g0 k1 g1 k2 g2 : Nat} {l : List Nd} {i : Nat} (h : Wr H j g0 k1 g1 k2 g2 l i) (hi : i < l.length) :
  FT Tryz.prog 90 [.ptr j g0 0, i64 i] H (fun rv H' => rv = .tuple [.str (gi l i).name, i64 0] ∧ H' = H) := by
 refine FTt hm Tryz.func90 c90_ok (Nat.le_of_ble_eq_true rfl) ?_
 have hw := h.w
 simp (maxSteps := 3000000) [go_sem,-List.length_flatten,-List.map_drop,-List.map_take, c90, hw, hi]
 exact h.rl
/-- The deepest of the first parts. -/
def deepK (ks : List En) (k : Nat) : Int := maxD (ks.take k)
theorem deepK_succ {ks : List En} {k : Nat} (h : k < ks.length) : deepK ks (k + 1) = if deepK ks k < (gi ks (k : Int)).d then (gi ks (k : Int)).d else deepK ks k := by
 unfold deepK maxD
 exact foldl_take (fun m e => if m < e.d then e.d else m) 0 ks k h
def kTx (ks : List En) (k : Nat) : List ByteArray := (ks.take k).map (·.t)
theorem kTx_len {ks : List En} {k : Nat} (h : k ≤ ks.length) : (kTx ks k).length = k := by simp [kTx]; omega
theorem kTx_succ {ks : List En} {k : Nat} (h : k < ks.length) : kTx ks (k + 1) = kTx ks k ++ [(gi ks (k : Int)).t] := by
 unfold kTx
 rw [List.take_succ_eq_append_getElem h, List.map_append]
 simp [gi, List.getD, h]
theorem Wr.app {H X : AHeap} {j g0 k1 g1 k2 g2 : Nat} {l : List Nd} {i : Nat} (h : Wr H j g0 k1 g1 k2 g2 l i) (hX : ∀ b ∈ X, RLB (H ++ X).length b) : Wr (H ++ X) j g0 k1 g1 k2 g2 l i := by
 refine ⟨?_, ?_, ?_, fun b hb => ?_⟩
 ·rw [List.getElem?_append_left (lt_of_get h.w)]; exact h.w
 ·rw [List.getElem?_append_left (lt_of_get h.t)]; exact h.t
 ·rw [List.getElem?_append_left (lt_of_get h.d)]; exact h.d
 ·rcases List.mem_append.1 hb with hb | hb
  ·exact RLB_mono (by simp) (h.rl b hb)
  ·exact hX b hb
theorem Shp.kids {l : List Nd} (h : Shp l) {i k : Nat} (hi : i < l.length) (hk : k < pN (gi l i)) : (gi (kidsN l i) (k : Int)).r < i ∧ gi (kidsN l i) (k : Int) = enN l (gi (kidsN l i) (k : Int)).r := kids_en (h.good.sub hi) hk
def an91 : An := ⟨[], [12]⟩
theorem c91_ok : cFn Tryz.prog an91 Tryz.f91 = some c91b := by kernel_rfl
theorem call_FT {H : AHeap} {j g0 k1 g1 k2 g2 : Nat} {l : List Nd} {i : Nat} (h : Wr H j g0 k1 g1 k2 g2 l i) (hs : Shp l) (hi : i < l.length) (hk3 : (gi l i).kind = 3) :
  FT Tryz.prog 91 [.ptr j g0 0, i64 i] H (fun rv H' => rv = .tuple [.str (enN l i).t, i64 (enN l i).d] ∧ H' = H) := by
 refine FTt hm Tryz.func91 c91_ok (Nat.le_of_ble_eq_true rfl) ?_
 have hw := h.w
 have hj1 := lt_of_get hw
 have e1 : (enN l i).t = txtN (gi l i) (kidsN l i) := rfl
 have e2 : (enN l i).d = dpN (gi l i) (kidsN l i) := rfl
 have hpe : partsN (gi l i) = (gi l i).n := by unfold partsN; rw [if_neg (by omega)]
 have h0n := (hs.good i hi).1
 rw [hpe] at h0n
 have hpn : (pN (gi l i) : Int) = (gi l i).n := by unfold pN; omega
 have hts := hs.tx hi
 have hds := hs.dp hi
 have hln := hs.len
 rw [e1] at hts ⊢
 rw [e2] at hds ⊢
 by_cases hn : (gi l i).n = 0
 ·have t1 : txtN (gi l i) (kidsN l i) = (gi l i).name := by simp [txtN, hk3, hn]
  have t2 : dpN (gi l i) (kidsN l i) = 0 := by simp [dpN, hk3, hn]
  simp (maxSteps := 3000000) [go_sem,-List.length_flatten,-List.map_drop,-List.map_take, c91b, hw, hi, hn]
  refine (name_FT h hi).mono ?_
  rintro _ _ ⟨rfl, rfl⟩
  simp (maxSteps := 3000000) [go_sem,-List.length_flatten,-List.map_drop,-List.map_take, Kc, t1, t2]
  exact h.rl
 ·have t1 : txtN (gi l i) (kidsN l i) = (gi l i).name ++ ⟨#[40]⟩ ++ joinB ((kidsN l i).map (·.t)) ++ ⟨#[41]⟩ := by simp [txtN, hk3, hn]
  have t2 : dpN (gi l i) (kidsN l i) = maxD (kidsN l i) + 1 := by simp [dpN, hk3, hn]
  have hk := kids_PF (begs_all l i (by omega)) (hs.good.sub hi) hi hln
  have hkl := kids_len (hs.good i hi).2
  have hki := fun k hk => hs.kids (k := k) hi hk
  have hkr := fun k hk => kids_r (l := l) (i := i) (k := k) (hs.good i hi).2 hk
  have hpi : pN (gi l i) ≤ i := by have := (hs.good i hi).2; have := stk_le l i; omega
  rw [t1] at hts ⊢
  rw [t2] at hds ⊢
  generalize hks : kidsN l i = ks at *
  generalize hpp : pN (gi l i) = p at *
  simp (maxSteps := 3000000) [go_sem,-List.length_flatten,-List.map_drop,-List.map_take, c91b, hw, hi, hn]
  refine ⟨_, hk, ?_⟩
  simp (maxSteps := 3000000) [go_sem,-List.length_flatten,-List.map_drop,-List.map_take, Kc, hkl]
  intro hpA
  have hapR : ∀ X : AHeap, (∀ b ∈ X, RLB (H ++ X).length b) → Wr (H ++ X) j g0 k1 g1 k2 g2 l i := fun X hX => h.app hX
  refine run_loopK (fun m T H' => ∃ (k g : Nat), m = p - k ∧ k ≤ p ∧ T = [(37, i64 k), (36, i64 p), (35, ints (ks.map fun e => (e.r : Int))), (7, i64 (deepK ks k)), (6, .loc H.length g 0 k 1 false), (0, .ptr j g0 0), (1, i64 i)] ∧ H' = H ++ [.cells g (strL (kTx ks k))]) p
   [(37, i64 (0 : Nat)), (36, i64 p), (35, ints (ks.map fun e => (e.r : Int))), (7, i64 0), (6, .loc H.length 0 0 0 1 false), (0, .ptr j g0 0), (1, i64 i)] (H ++ [.cells 0 []])
   ((Wk.nil 6 1 (by simp [Tm.get])).trans (Wk.sub (by simp [Tm.get]))) ⟨0, 0, rfl, by omega, rfl, by simp [kTx]⟩ ?_
  rintro m T H' ⟨k, g, rfl, hkp, rfl, rfl⟩ KK kx kr kn
  have hkt := kTx_len (ks := ks) (k := k) (by omega)
  by_cases h2 : k < p
  ·have e3 := hkr k h2
   obtain ⟨q1, q2⟩ := hki k h2
   have hWr := hapR [.cells g (strL (kTx ks k))] (fun b hb => by simp at hb; subst hb; exact rlb_strL)
   have hds2 := deepK_succ (ks := ks) (k := k) (by omega)
   have hkt2 := kTx_succ (ks := ks) (k := k) (by omega)
   have hap := strL_app (kTx ks k) (gi ks (k : Int)).t
   rw [hkt, ← hkt2] at hap
   have hwk : IntKind.i64.wrap ((k : Int) + 1) = ((k + 1 : Nat) : Int) := nxt (n := p) h2 hpA
   have hkA : k + 1 ≤ maxA := by unfold maxA at *; omega
   have hgt : ∀ X, (H ++ [ABlk.cells g X])[H.length]? = some (ABlk.cells g X) := fun X => by rw [gapp0]; rfl
   have hst : ∀ X Y, (H ++ [ABlk.cells g X]).set H.length Y = H ++ [Y] := fun X Y => by simp
   simp (maxSteps := 3000000) [go_sem,-List.length_flatten,-List.map_drop,-List.map_take, h2, e3, hkl]
   refine (kid_FT hWr q1 false hs (by omega)).mono ?_
   rintro _ _ ⟨rfl, rfl⟩
   rw [← q2]
   have hb1 : brT false (gi ks (k : Int)).t = (gi ks (k : Int)).t := rfl
   have hb2 : brD false (gi ks (k : Int)).d = (gi ks (k : Int)).d := rfl
   rw [hb1, hb2]
   simp (maxSteps := 3000000) [go_sem,-List.length_flatten,-List.map_drop,-List.map_take, Kc, hgt, hkt, hap, hst, hkA, aMx]
   intros
   refine kn _ _ (Kl_sub (p - (k + 1)) ⟨k + 1, g + 1, rfl, h2, rfl, rfl⟩ (by simp [Tm.get, hwk, hds2]) (by omega))
  ·have : k = p := by omega
   subst this
   have et : kTx ks k = ks.map (·.t) := by unfold kTx; rw [List.take_of_length_le (by omega)]
   have ed : deepK ks k = maxD ks := by unfold deepK; rw [List.take_of_length_le (by omega)]
   rw [et] at hkt ⊢
   rw [ed]
   have hjs : (joinB (ks.map (·.t))).size ≤ 1099511627776 := by
    simp only [ByteArray.size_append] at hts
    omega
   have hjp := join_PF (ks.map (·.t)) (by omega) (by rw [hkt]; omega)
   generalize ks.map (·.t) = ts at *
   simp (maxSteps := 3000000) [go_sem,-List.length_flatten,-List.map_drop,-List.map_take, kx]
   have hch := chunk_one (f := fun s : ByteArray => AV.str s) (l := ts)
   rw [hkt] at hch
   refine run_markT [(7, i64 (maxD ks)), (6, strs ts), (0, .ptr j g0 0), (1, i64 i)] H ((Wk.freeze 6 (i := H.length) (g := g) (off := 0) (len := k) (sz := 1) (c := false) (cs := strL ts) (by simp [Tm.get]) (by rw [gapp0]; rfl) (by simp [hkt])).trans (Wk.to H.length (Nat.le_refl _) ?_ (by simp [hj1]) (by simp) h.rl)) ?_
   ·simp [Tm.get, hch]
   ·have hwm : IntKind.i64.wrap (maxD ks + 1) = maxD ks + 1 := w64 (by omega) (by omega)
    have hz1 : (gi l i).name.size + 1 + (joinB ts).size + 1 ≤ 1099511627776 := by
     simp only [ByteArray.size_append] at hts
     have : (⟨#[40]⟩ : ByteArray).size = 1 := rfl
     have : (⟨#[41]⟩ : ByteArray).size = 1 := rfl
     omega
    simp (maxSteps := 3000000) [go_sem,-List.length_flatten,-List.map_drop,-List.map_take, hw, hi]
    refine ⟨by omega, _, hjp, ?_⟩
    simp (maxSteps := 3000000) [go_sem,-List.length_flatten,-List.map_drop,-List.map_take, Kc, hwm]
    exact ⟨by omega, by omega, h.rl⟩
end Go.AM

namespace Go.AM
open Go.Proofs
set_option maxRecDepth 100000
set_option linter.unusedVariables false
set_option linter.unusedSimpArgs false
attribute [local go_sem] Function.comp_def argsT Opd.ev Tm.get put ares mapMo ares1 snilP bldParts bslParts putAt AV.cells AV.one astore aload loadCs callArgs abin abinInt aapp elems appMore appNone preLen aFa aFld apart aExt aPick aNot aLens aEqa cellsK fitsA LK.fitsA leavesA leafA nilD aNilc aCint aCid alive alen alenOk Rle lePs len_flat
def c92b : AFn := ⟨69, .seq (.reg false [⟨some 2, .box (.tmp 0), none⟩, ⟨some 3, .box (.tmp 1), none⟩, ⟨some 4, .mov (.lit (.str ⟨#[]⟩)), none⟩, ⟨some 5, .mov (.lit (.int .i64 0)), none⟩]) (.seq (.reg false [⟨some 13, .mkmap, none⟩, ⟨none, .upd false [.int .i64] (.tmp 13) (.lit (.int .i64 4)) (.lit (.str ⟨#[124]⟩)), none⟩, ⟨none, .upd false [.int .i64] (.tmp 13) (.lit (.int .i64 5)) (.lit (.str ⟨#[38]⟩)), none⟩, ⟨some 14, .mov (.tmp 13), none⟩, ⟨some 6, .alloc [.nilMap], none⟩, ⟨none, .store 1 (.tmp 6) (.tmp 14), none⟩]) (.seq (.reg true [⟨some 15, .load 1 false (.tmp 2), none⟩, ⟨some 16, .nilc (.tmp 15), none⟩, ⟨some 17, .fa 0 (.tmp 16), none⟩, ⟨some 18, .load 1 false (.tmp 17), none⟩, ⟨some 19, .load 1 false (.tmp 2), none⟩, ⟨some 20, .nilc (.tmp 19), none⟩, ⟨some 21, .fa 1 (.tmp 20), none⟩, ⟨some 22, .load 1 false (.tmp 21), none⟩, ⟨some 23, .load 1 false (.tmp 3), none⟩, ⟨some 24, .call (.lit (.fn (.func 102) [] [])) [.tmp 18, .tmp 22, .tmp 23], none⟩, ⟨some 7, .mov (.tmp 24), none⟩]) (.seq (.reg false [⟨some 25, .mkfn (.func 105) [] [.tmp 2, .tmp 6, .tmp 3], none⟩, ⟨some 8, .mov (.tmp 25), none⟩]) (.seq (.reg true [⟨some 27, .load 1 false (.tmp 2), none⟩, ⟨some 28, .mov (.tmp 7), none⟩, ⟨some 29, .ia 1 (.tmp 28) (.lit (.int .i64 0)), none⟩, ⟨some 30, .load 1 false (.tmp 29), none⟩, ⟨some 31, .mov (.tmp 8), none⟩, ⟨some 32, .mov (.tmp 7), none⟩, ⟨some 33, .ia 1 (.tmp 32) (.lit (.int .i64 0)), none⟩, ⟨some 34, .load 1 false (.tmp 33), none⟩, ⟨some 35, .callh (.tmp 31) [.tmp 34, .lit (.bool false)], none⟩, ⟨some 36, .callh (.lit (.fn (.func 103) [] [])) [.tmp 27, .tmp 30, .tmp 35], none⟩, ⟨some 26, .mov (.tmp 36), none⟩, ⟨some 37, .ext (.tmp 26) 0, none⟩, ⟨some 38, .ext (.tmp 26) 1, none⟩, ⟨some 9, .mov (.tmp 37), none⟩, ⟨some 10, .mov (.tmp 38), none⟩]) (.seq (.reg true [⟨some 40, .load 1 false (.tmp 2), none⟩, ⟨some 41, .mov (.tmp 7), none⟩, ⟨some 42, .ia 1 (.tmp 41) (.lit (.int .i64 1)), none⟩, ⟨some 43, .load 1 false (.tmp 42), none⟩, ⟨some 44, .mov (.tmp 8), none⟩, ⟨some 45, .mov (.tmp 7), none⟩, ⟨some 46, .ia 1 (.tmp 45) (.lit (.int .i64 1)), none⟩, ⟨some 47, .load 1 false (.tmp 46), none⟩, ⟨some 48, .callh (.tmp 44) [.tmp 47, .lit (.bool true)], none⟩, ⟨some 49, .callh (.lit (.fn (.func 103) [] [])) [.tmp 40, .tmp 43, .tmp 48], none⟩, ⟨some 39, .mov (.tmp 49), none⟩, ⟨some 50, .ext (.tmp 39) 0, none⟩, ⟨some 51, .ext (.tmp 39) 1, none⟩, ⟨some 11, .mov (.tmp 50), none⟩, ⟨some 12, .mov (.tmp 51), none⟩]) (.seq (.reg true [⟨some 52, .mov (.tmp 9), none⟩, ⟨some 53, .load 1 false (.tmp 6), none⟩, ⟨some 54, .load 1 false (.tmp 2), none⟩, ⟨some 55, .nilc (.tmp 54), none⟩, ⟨some 56, .fa 0 (.tmp 55), none⟩, ⟨some 57, .load 1 false (.tmp 56), none⟩, ⟨some 58, .load 1 false (.tmp 3), none⟩, ⟨some 59, .ia 3 (.tmp 57) (.tmp 58), none⟩, ⟨some 60, .fa 0 (.tmp 59), none⟩, ⟨some 61, .load 1 false (.tmp 60), none⟩, ⟨some 62, .lkp false [.int .i64] (.str ⟨#[]⟩) (.tmp 53) (.tmp 61) false, none⟩, ⟨some 63, .bin .add (.tmp 52) (.tmp 62), none⟩, ⟨some 64, .mov (.tmp 11), none⟩, ⟨some 65, .bin .add (.tmp 63) (.tmp 64), none⟩, ⟨some 66, .mov (.tmp 10), none⟩, ⟨some 67, .mov (.tmp 12), none⟩, ⟨some 68, .mx (.tmp 66) (.tmp 67), none⟩, ⟨some 4, .mov (.tmp 65), none⟩, ⟨some 5, .mov (.tmp 68), none⟩]) .ret)))))), [.tmp 4, .tmp 5]⟩

abbrev signM : List (AV × AV) := [(i64 4, .str ⟨#[124]⟩), (i64 5, .str ⟨#[38]⟩)]
theorem c105_ok : cFn Tryz.prog an0 Tryz.f105 = some c105 := by kernel_rfl
theorem odd105_FT {H : AHeap} {j g0 k1 g1 k2 g2 : Nat} {l : List Nd} {i r a b c m ga gb gc gm : Nat} (h : Wr H j g0 k1 g1 k2 g2 l i) (hi : i < l.length) (hr : r < l.length) (own : Bool)
  (ha : H[a]? = some (.cells ga [.ptr j g0 0])) (hb : H[b]? = some (.cells gb [.mapr m gm])) (hmp : H[m]? = some (.map gm signM)) (hc : H[c]? = some (.cells gc [i64 i])) :
  FT Tryz.prog 105 [i64 r, .bool own, .ptr a ga 0, .ptr b gb 0, .ptr c gc 0] H (fun rv H' => rv = .bool (brk (gi l i).kind (!own) (enN l r)) ∧ H' = H) := by
 refine FTt hm Tryz.func105 c105_ok (Nat.le_of_ble_eq_true rfl) ?_
 have hw := h.w
 have hk : (enN l r).k = (gi l r).kind := rfl
 have hx : (gi l r).kind = 4 ∨ (gi l r).kind = 5 ∨ ((gi l r).kind ≠ 4 ∧ (gi l r).kind ≠ 5) := by omega
 rcases hx with k | k | k
 ·cases own
  all_goals
   simp (maxSteps := 3000000) [go_sem,-List.length_flatten,-List.map_drop,-List.map_take, c105, hw, ha, hb, hmp, hc, hi, hr, k, alkp, amap, lookA, leavesA, leafA]
   refine ⟨h.rl, ?_⟩
   simp [brk, two, hk, k]
   try omega
 ·cases own
  all_goals
   simp (maxSteps := 3000000) [go_sem,-List.length_flatten,-List.map_drop,-List.map_take, c105, hw, ha, hb, hmp, hc, hi, hr, k, alkp, amap, lookA, leavesA, leafA]
   refine ⟨h.rl, ?_⟩
   simp [brk, two, hk, k]
   try omega
 ·simp (maxSteps := 3000000) [go_sem,-List.length_flatten,-List.map_drop,-List.map_take, c105, hw, ha, hb, hmp, hc, hi, hr, k, alkp, amap, lookA, leavesA, leafA]
  refine ⟨h.rl, ?_⟩
  simp [brk, two, hk, k]
def an92 : An := ⟨[2000035, 2000036, 2000048, 2000049], []⟩
theorem c92_ok : cFn Tryz.prog an92 Tryz.f92 = some c92b := by kernel_rfl
theorem two_FT {H : AHeap} {j g0 k1 g1 k2 g2 : Nat} {l : List Nd} {i : Nat} (h : Wr H j g0 k1 g1 k2 g2 l i) (hs : Shp l) (hi : i < l.length) (h2 : two (gi l i).kind = true) :
  FT Tryz.prog 92 [.ptr j g0 0, i64 i] H (fun rv H' => rv = .tuple [.str (enN l i).t, i64 (enN l i).d] ∧ H' = H) := by
 refine FTt hm Tryz.func92 c92_ok (Nat.le_of_ble_eq_true rfl) ?_
 have hw := h.w
 have hj1 := lt_of_get hw
 have e1 : (enN l i).t = txtN (gi l i) (kidsN l i) := rfl
 have e2 : (enN l i).d = dpN (gi l i) (kidsN l i) := rfl
 have hts := hs.tx hi
 have hds := hs.dp hi
 have hln := hs.len
 have hp2 := hs.two i hi h2
 have hkk : (gi l i).kind = 4 ∨ (gi l i).kind = 5 := by simpa [two] using h2
 have n0 : ¬ (gi l i).kind = 0 := by omega
 have n1 : ¬ (gi l i).kind = 1 := by omega
 have n3 : ¬ (gi l i).kind = 3 := by omega
 have t1 : txtN (gi l i) (kidsN l i) = brT (brk (gi l i).kind true (gi (kidsN l i) 0)) (gi (kidsN l i) 0).t ++ ⟨#[if (gi l i).kind = 4 then 124 else 38]⟩ ++ brT (brk (gi l i).kind false (gi (kidsN l i) 1)) (gi (kidsN l i) 1).t := by
  simp only [txtN, if_neg n0, if_neg n1, if_neg n3, if_pos h2]
 have t2 : dpN (gi l i) (kidsN l i) = if brD (brk (gi l i).kind true (gi (kidsN l i) 0)) (gi (kidsN l i) 0).d < brD (brk (gi l i).kind false (gi (kidsN l i) 1)) (gi (kidsN l i) 1).d then brD (brk (gi l i).kind false (gi (kidsN l i) 1)) (gi (kidsN l i) 1).d else brD (brk (gi l i).kind true (gi (kidsN l i) 0)) (gi (kidsN l i) 0).d := by
  simp only [dpN, if_neg n3, if_pos h2]
 have hk := kids_PF (begs_all l i (by omega)) (hs.good.sub hi) hi hln
 have hkl := kids_len (hs.good i hi).2
 have r0 : gi ((kidsN l i).map fun e => (e.r : Int)) 0 = ((gi (kidsN l i) 0).r : Int) := kids_r (l := l) (i := i) (k := 0) (hs.good i hi).2 (by omega)
 have r1 : gi ((kidsN l i).map fun e => (e.r : Int)) 1 = ((gi (kidsN l i) 1).r : Int) := kids_r (l := l) (i := i) (k := 1) (hs.good i hi).2 (by omega)
 obtain ⟨q0, q0'⟩ : (gi (kidsN l i) 0).r < i ∧ gi (kidsN l i) 0 = enN l (gi (kidsN l i) 0).r := hs.kids (k := 0) hi (by omega)
 obtain ⟨q1, q1'⟩ : (gi (kidsN l i) 1).r < i ∧ gi (kidsN l i) 1 = enN l (gi (kidsN l i) 1).r := hs.kids (k := 1) hi (by omega)
 rw [e1, t1] at hts ⊢
 rw [e2, t2] at hds ⊢
 rw [hp2] at hkl
 generalize kidsN l i = ks at *
 have hks0 : ¬ ks = [] := fun e => by rw [e] at hkl; simp at hkl
 have hapR : ∀ X : AHeap, (∀ b ∈ X, RLB (H ++ X).length b) → Wr (H ++ X) j g0 k1 g1 k2 g2 l i := fun X hX => h.app hX
 have hjx : ∀ X : AHeap, (H ++ X)[j]? = some (.cells g0 [nds l, ints (begAll l), .loc k1 g1 0 i 1 false, .loc k2 g2 0 i 1 false]) := fun X => by rw [List.getElem?_append_left hj1]; exact hw
 simp (maxSteps := 3000000) [go_sem,-List.length_flatten,-List.map_drop,-List.map_take, c92b, gapp, gapp0, sapp, aupd, updA, leavesA, leafA, hjx]
 refine ⟨_, hk, ?_⟩
 simp (maxSteps := 3000000) [go_sem,-List.length_flatten,-List.map_drop,-List.map_take, Kc, gapp, gapp0, sapp, hjx, r0, r1, hkl, hks0]
 have hX : ∀ b ∈ ([.cells 0 [.ptr j g0 0], .cells 0 [i64 i], .map 0 signM, .cells 0 [.mapr (H.length + 2) 0]] : AHeap), RLB (H ++ [ABlk.cells 0 [.ptr j g0 0], .cells 0 [i64 i], .map 0 signM, .cells 0 [.mapr (H.length + 2) 0]]).length b := al_mem ⟨by simp [RLB]; omega, by simp [RLB], by simp [RLB], by simp [RLB], trivial⟩
 have hW2 := hapR _ hX
 have gA : (H ++ [ABlk.cells 0 [.ptr j g0 0], .cells 0 [i64 i], .map 0 signM, .cells 0 [.mapr (H.length + 2) 0]])[H.length]? = some (.cells 0 [.ptr j g0 0]) := by rw [gapp0]; rfl
 have gB : (H ++ [ABlk.cells 0 [.ptr j g0 0], .cells 0 [i64 i], .map 0 signM, .cells 0 [.mapr (H.length + 2) 0]])[H.length + 3]? = some (.cells 0 [.mapr (H.length + 2) 0]) := by rw [gapp]; rfl
 have gC : (H ++ [ABlk.cells 0 [.ptr j g0 0], .cells 0 [i64 i], .map 0 signM, .cells 0 [.mapr (H.length + 2) 0]])[H.length + 1]? = some (.cells 0 [i64 i]) := by rw [gapp]; rfl
 have gM : (H ++ [ABlk.cells 0 [.ptr j g0 0], .cells 0 [i64 i], .map 0 signM, .cells 0 [.mapr (H.length + 2) 0]])[H.length + 2]? = some (.map 0 signM) := by rw [gapp]; rfl
 have hw2 := hW2.w
 have o0 := odd105_FT hW2 hi (r := (gi ks 0).r) (by omega) false gA gB gM gC
 have o1 := odd105_FT hW2 hi (r := (gi ks 1).r) (by omega) true gA gB gM gC
 rw [← q0', Bool.not_false] at o0
 rw [← q1', Bool.not_true] at o1
 have z0 := fun b => kid_FT hW2 q0 b hs (by omega)
 have z1 := fun b => kid_FT hW2 q1 b hs (by omega)
 rw [← q0'] at z0
 rw [← q1'] at z1
 generalize brk (gi l i).kind true (gi ks 0) = b0 at *
 generalize brk (gi l i).kind false (gi ks 1) = b1 at *
 have z0 := z0 b0
 have z1 := z1 b1
 have hl2 : (H ++ [ABlk.cells 0 [.ptr j g0 0], .cells 0 [i64 i], .map 0 signM, .cells 0 [.mapr (H.length + 2) 0]]).length = H.length + 4 := by simp
 have uo0 := o0.more (by rw [hl2]; simp) hW2.rl
 have uo1 := o1.more (by rw [hl2]; simp) hW2.rl
 have uz0 := z0.more (by rw [hl2]; simp; omega) hW2.rl
 have uz1 := z1.more (by rw [hl2]; simp; omega) hW2.rl
 clear o0 o1 z0 z1
 simp only [List.append_assoc, List.cons_append, List.nil_append] at uo0 uz0
 clear hl2
 generalize brT b0 (gi ks 0).t = x0 at *
 generalize brT b1 (gi ks 1).t = x1 at *
 generalize brD b0 (gi ks 0).d = y0 at *
 generalize brD b1 (gi ks 1).d = y1 at *
 generalize (gi ks 0).r = a0 at *
 generalize (gi ks 1).r = a1 at *
 clear hapR
 generalize hH2 : H ++ [ABlk.cells 0 [.ptr j g0 0], .cells 0 [i64 i], .map 0 signM, .cells 0 [.mapr (H.length + 2) 0]] = H2 at *
 refine ⟨_, uo0, _, uz0, ?_⟩
 simp (maxSteps := 3000000) [go_sem,-List.length_flatten,-List.map_drop,-List.map_take, gA, gB, gC, gM, r1, hkl]
 refine ⟨_, uo1, ?_⟩
 simp (maxSteps := 3000000) [go_sem,-List.length_flatten,-List.map_drop,-List.map_take, Kc, gA, gB, gC, gM, r1, hkl]
 refine ⟨_, uz1, ?_⟩
 have hsz : x0.size + 1 + x1.size ≤ 1099511627776 := by
  simp only [ByteArray.size_append] at hts
  have : ∀ c : UInt8, (⟨#[c]⟩ : ByteArray).size = 1 := fun c => rfl
  rw [this] at hts
  omega
 have htk : H2.take H.length = H := by rw [← hH2]; simp
 rcases hkk with k | k
 ·simp (maxSteps := 3000000) [go_sem,-List.length_flatten,-List.map_drop,-List.map_take, Kc, gA, gB, gC, gM, hw2, hi, k, alkp, amap, lookA, leavesA, leafA, aMx]
  exact ⟨by omega, by omega, by rw [htk]; exact h.rl, htk⟩
 ·simp (maxSteps := 3000000) [go_sem,-List.length_flatten,-List.map_drop,-List.map_take, Kc, gA, gB, gC, gM, hw2, hi, k, alkp, amap, lookA, leavesA, leafA, aMx]
  exact ⟨by omega, by omega, by rw [htk]; exact h.rl, htk⟩
theorem c93_ok : cFn Tryz.prog an0 Tryz.f93 = some c93 := by kernel_rfl
theorem proj_FT {H : AHeap} {j g0 k1 g1 k2 g2 : Nat} {l : List Nd} {i : Nat} (h : Wr H j g0 k1 g1 k2 g2 l i) (hs : Shp l) (hi : i < l.length) (h6 : (gi l i).kind = 6) :
  FT Tryz.prog 93 [.ptr j g0 0, i64 i] H (fun rv H' => rv = .tuple [.str (enN l i).t, i64 (enN l i).d] ∧ H' = H) := by
 refine FTt hm Tryz.func93 c93_ok (Nat.le_of_ble_eq_true rfl) ?_
 have hw := h.w
 have hj1 := lt_of_get hw
 have e1 : (enN l i).t = txtN (gi l i) (kidsN l i) := rfl
 have e2 : (enN l i).d = dpN (gi l i) (kidsN l i) := rfl
 have hts := hs.tx hi
 have hds := hs.dp hi
 have hln := hs.len
 obtain ⟨hp1, hn0, hn1⟩ := hs.six i hi h6
 have hg := (hs.good i hi).2
 have n2 : ¬ two (gi l i).kind = true := by simp [two, h6]
 have t1 : txtN (gi l i) (kidsN l i) = (gi l i).name ++ ⟨#[126]⟩ ++ ⟨#[UInt8.ofNat (48 + (gi l i).n.toNat)]⟩ ++ brT true (gi (kidsN l i) 0).t := by
  simp only [txtN, h6, if_neg n2]
  simp [two]
 have t2 : dpN (gi l i) (kidsN l i) = (gi (kidsN l i) 0).d + 1 := by
  simp only [dpN, h6]
  simp [two]
 obtain ⟨q0, q0'⟩ : (gi (kidsN l i) 0).r < i ∧ gi (kidsN l i) 0 = enN l (gi (kidsN l i) 0).r := hs.kids (k := 0) hi (by omega)
 have hr1 : ((gi (kidsN l i) 0).r : Int) = (i : Int) - 1 := by
  have hka := kids_at (l := l) (i := i) (k := 0) hg (by omega)
  rw [hp1] at hka
  have hk0 := (kid_at (l := l) (i := i) (k := 0) (hs.good.sub (by omega)) (by omega)).1
  simp only [if_true] at hk0
  have e : gi (kidsN l i) 0 = gi (stk l i) ((0 : Nat) : Int) := hka
  rw [e]
  omega
 rw [e1, t1] at hts ⊢
 rw [e2, t2] at hds ⊢
 have z0 := kid_FT h q0 true hs (by omega)
 rw [← q0'] at z0
 have b2 : brD true (gi (kidsN l i) 0).d = (gi (kidsN l i) 0).d + 1 := rfl
 rw [b2, hr1] at z0
 have hit := itoa_PF (gi l i).n ⟨hn0, hn1⟩
 generalize brT true (gi (kidsN l i) 0).t = x0 at *
 generalize (gi (kidsN l i) 0).d = d0 at *
 have hw1 : IntKind.i64.wrap ((i : Int) - 1) = (i : Int) - 1 := w64 (by omega) (by omega)
 have hsz : (gi l i).name.size + 2 + x0.size ≤ 1099511627776 := by
  simp only [ByteArray.size_append] at hts
  have : ∀ c : UInt8, (⟨#[c]⟩ : ByteArray).size = 1 := fun c => rfl
  rw [this, this] at hts
  omega
 simp (maxSteps := 3000000) [go_sem,-List.length_flatten,-List.map_drop,-List.map_take, c93, hw1]
 refine z0.mono ?_
 rintro _ _ ⟨rfl, rfl⟩
 simp (maxSteps := 3000000) [go_sem,-List.length_flatten,-List.map_drop,-List.map_take, Kc, hw, hi]
 refine ⟨by omega, _, hit, ?_⟩
 simp (maxSteps := 3000000) [go_sem,-List.length_flatten,-List.map_drop,-List.map_take, Kc]
 exact ⟨by omega, by omega, h.rl⟩
end Go.AM

namespace Go.AM
open Go.Proofs
set_option maxRecDepth 100000
set_option linter.unusedVariables false
set_option linter.unusedSimpArgs false
attribute [local go_sem] Function.comp_def argsT Opd.ev Tm.get put ares mapMo ares1 snilP bldParts bslParts putAt AV.cells AV.one astore aload loadCs callArgs abin abinInt aapp elems appMore appNone preLen aFa aFld apart aExt aPick aNot aLens aEqa cellsK fitsA LK.fitsA leavesA leafA nilD aNilc aCint aCid alive alen alenOk Rle lePs len_flat
def c72b : AFn := ⟨73, .seq (.reg false [⟨some 2, .mov (.lit (.str ⟨#[]⟩)), none⟩, ⟨some 3, .mov (.lit (.int .i64 0)), none⟩]) (.seq (.reg false [⟨some 10, .mov (.tmp 0), none⟩, ⟨some 11, .mov (.tmp 0), none⟩, ⟨some 12, .call (.lit (.fn (.func 87) [] [])) [.tmp 11], none⟩, ⟨some 13, .build [.nilS, .nilS, .nilS, .nilS] [(0, 1, .tmp 10), (1, 1, .tmp 12)], none⟩, ⟨some 14, .box (.tmp 13), none⟩, ⟨some 4, .mov (.tmp 14), none⟩]) (.seq (.reg false [⟨some 15, .mkmap, none⟩, ⟨none, .upd false [.int .i64] (.tmp 15) (.lit (.int .i64 0)) (.lit (.fn (.func 88) [] [])), none⟩, ⟨none, .upd false [.int .i64] (.tmp 15) (.lit (.int .i64 1)) (.lit (.fn (.func 89) [] [])), none⟩, ⟨none, .upd false [.int .i64] (.tmp 15) (.lit (.int .i64 2)) (.lit (.fn (.func 90) [] [])), none⟩, ⟨none, .upd false [.int .i64] (.tmp 15) (.lit (.int .i64 3)) (.lit (.fn (.func 91) [] [])), none⟩, ⟨none, .upd false [.int .i64] (.tmp 15) (.lit (.int .i64 4)) (.lit (.fn (.func 92) [] [])), none⟩, ⟨none, .upd false [.int .i64] (.tmp 15) (.lit (.int .i64 5)) (.lit (.fn (.func 92) [] [])), none⟩, ⟨none, .upd false [.int .i64] (.tmp 15) (.lit (.int .i64 6)) (.lit (.fn (.func 93) [] [])), none⟩, ⟨some 16, .mov (.tmp 15), none⟩, ⟨some 5, .mov (.tmp 16), none⟩]) (.seq (.seq (.reg false [⟨some 17, .mov (.tmp 0), none⟩, ⟨some 18, .len (.tmp 17), none⟩, ⟨some 19, .mov (.lit (.int .i64 0)), none⟩]) (.block 0 (.loop (.seq (.reg false [⟨some 20, .bin .lss (.tmp 19) (.tmp 18), none⟩]) (.seq (.cond (.tmp 20) .skip (.exit 0)) (.seq (.block 1 (.seq (.reg false [⟨some 21, .mov (.tmp 19), none⟩, ⟨some 22, .ia 3 (.tmp 17) (.tmp 19), none⟩, ⟨some 23, .load 3 true (.tmp 22), none⟩, ⟨some 7, .alloc [.int .i64 0, .str ⟨#[]⟩, .int .i64 0], none⟩, ⟨some 6, .mov (.tmp 21), none⟩, ⟨none, .store 3 (.tmp 7) (.tmp 23), none⟩]) (.seq (.reg false [⟨some 25, .mov (.tmp 5), none⟩, ⟨some 26, .fa 0 (.tmp 7), none⟩, ⟨some 27, .load 1 false (.tmp 26), none⟩, ⟨some 28, .lkp false [.int .i64] .nilFunc (.tmp 25) (.tmp 27) false, none⟩, ⟨some 29, .mov (.tmp 4), none⟩, ⟨some 30, .mov (.tmp 6), none⟩, ⟨some 31, .call (.tmp 28) [.tmp 29, .tmp 30], none⟩, ⟨some 24, .mov (.tmp 31), none⟩, ⟨some 32, .ext (.tmp 24) 0, none⟩, ⟨some 33, .ext (.tmp 24) 1, none⟩, ⟨some 8, .mov (.tmp 32), none⟩, ⟨some 9, .mov (.tmp 33), none⟩]) (.seq (.seq .mark (.reg false [⟨some 34, .mov (.tmp 4), none⟩, ⟨some 35, .mov (.tmp 4), none⟩, ⟨some 36, .nilc (.tmp 35), none⟩, ⟨some 37, .fa 2 (.tmp 36), none⟩, ⟨some 38, .load 1 false (.tmp 37), none⟩, ⟨some 39, .mov (.tmp 8), none⟩, ⟨some 40, .bslice 1 1 [.str ⟨#[]⟩] [(0, .tmp 39)], none⟩, ⟨some 41, .app 1 16 (.tmp 38) (.tmp 40), none⟩, ⟨some 42, .nilc (.tmp 34), none⟩, ⟨some 43, .fa 2 (.tmp 42), none⟩, ⟨none, .store 1 (.tmp 43) (.tmp 41), none⟩])) (.reg false [⟨some 44, .mov (.tmp 4), none⟩, ⟨some 45, .mov (.tmp 4), none⟩, ⟨some 46, .nilc (.tmp 45), none⟩, ⟨some 47, .fa 3 (.tmp 46), none⟩, ⟨some 48, .load 1 false (.tmp 47), none⟩, ⟨some 49, .mov (.tmp 9), none⟩, ⟨some 50, .bslice 1 1 [.int .i64 0] [(0, .tmp 49)], none⟩, ⟨some 51, .app 1 8 (.tmp 48) (.tmp 50), none⟩, ⟨some 52, .nilc (.tmp 44), none⟩, ⟨some 53, .fa 3 (.tmp 52), none⟩, ⟨none, .store 1 (.tmp 53) (.tmp 51), none⟩]))))) (.reg false [⟨some 54, .bin .add (.tmp 19) (.lit (.int .i64 1)), none⟩, ⟨some 19, .mov (.tmp 54), none⟩]))))))) (.seq (.reg true [⟨some 55, .mov (.tmp 4), none⟩, ⟨some 56, .nilc (.tmp 55), none⟩, ⟨some 57, .fa 2 (.tmp 56), none⟩, ⟨some 58, .load 1 false (.tmp 57), none⟩, ⟨some 59, .mov (.tmp 0), none⟩, ⟨some 60, .len (.tmp 59), none⟩, ⟨some 61, .bin .sub (.tmp 60) (.lit (.int .i64 1)), none⟩, ⟨some 62, .ia 1 (.tmp 58) (.tmp 61), none⟩, ⟨some 63, .load 1 false (.tmp 62), none⟩, ⟨some 64, .mov (.tmp 4), none⟩, ⟨some 65, .nilc (.tmp 64), none⟩, ⟨some 66, .fa 3 (.tmp 65), none⟩, ⟨some 67, .load 1 false (.tmp 66), none⟩, ⟨some 68, .mov (.tmp 0), none⟩, ⟨some 69, .len (.tmp 68), none⟩, ⟨some 70, .bin .sub (.tmp 69) (.lit (.int .i64 1)), none⟩, ⟨some 71, .ia 1 (.tmp 67) (.tmp 70), none⟩, ⟨some 72, .load 1 false (.tmp 71), none⟩, ⟨some 2, .mov (.tmp 63), none⟩, ⟨some 3, .mov (.tmp 72), none⟩]) .ret)))), [.tmp 2, .tmp 3]⟩

def an72 : An := ⟨[], [7]⟩
theorem c72_ok : cFn Tryz.prog an72 Tryz.f72 = some c72b := by kernel_rfl
abbrev doesM : List (AV × AV) := [(i64 0, .fn (.func 88) [] []), (i64 1, .fn (.func 89) [] []), (i64 2, .fn (.func 90) [] []), (i64 3, .fn (.func 91) [] []), (i64 4, .fn (.func 92) [] []), (i64 5, .fn (.func 92) [] []), (i64 6, .fn (.func 93) [] [])]
set_option maxHeartbeats 2000000 in
theorem written_PF {l : List Nd} (hs : Shp l) (h0 : 0 < l.length) : PF Tryz.prog 72 [nds l] (.tuple [.str (enN l (l.length - 1)).t, i64 (enN l (l.length - 1)).d]) := by
 refine PFk 9 hm Tryz.func72 c72_ok (Nat.le_of_ble_eq_true rfl) (by simp) (by simp) ?_
 generalize hQ : Rle 9 (.tuple [.str (enN l (l.length - 1)).t, i64 (enN l (l.length - 1)).d]) = Q
 have hln := hs.len
 simp (maxSteps := 3000000) [go_sem,-List.length_flatten,-List.map_drop,-List.map_take, c72b]
 refine PF.call (starts_PF hs.good hln) 9 (by simp [lePs]) ?_
 simp (maxSteps := 3000000) [go_sem,-List.length_flatten,-List.map_drop,-List.map_take, Kc, aupd, updA, leavesA, leafA]
 intro hA
 refine run_loopK (fun m T H => ∃ (i g1 g2 : Nat), m = l.length - i ∧ i ≤ l.length ∧ T = [(19, i64 i), (18, i64 l.length), (17, nds l), (5, .mapr 1 0), (4, .ptr 0 0 0), (0, nds l)] ∧ H = [.cells 0 [nds l, ints (begAll l), .loc 2 g1 0 i 1 false, .loc 3 g2 0 i 1 false], .map 0 doesM, .cells g1 (strL (txts l i)), .cells g2 (i64s (dps l i))]) l.length
  [(19, i64 (0 : Nat)), (18, i64 l.length), (17, nds l), (5, .mapr 1 0), (4, .ptr 0 0 0), (0, nds l)] [.cells 0 [nds l, ints (begAll l), .loc 2 0 0 0 1 false, .loc 3 0 0 0 1 false], .map 0 doesM, .cells 0 [], .cells 0 []]
  ?tell ⟨0, 0, 0, rfl, by omega, rfl, rfl⟩ ?_
 case tell =>
  exact (Wk.sub (T' := [(19, i64 (0 : Nat)), (18, i64 l.length), (17, nds l), (5, .mapr 1 0), (4, .ptr 0 0 0), (0, nds l)]) (by simp [Tm.get])).trans (Wk.own.trans (Wk.own.trans ((Wk.nilAt 0 2 2 1 (g := 0) (cs := [nds l, ints (begAll l), .nilS, .nilS]) rfl rfl rfl).trans
   (Wk.nilAt 0 3 3 1 (g := 0) (cs := [nds l, ints (begAll l), .loc 2 0 0 0 1 false, .nilS]) rfl rfl rfl))))
 rintro m T H ⟨i, g1, g2, rfl, hi, rfl, rfl⟩ KK kx kr kn
 by_cases h : i < l.length
 ·have hWr : ∀ x, Wr [.cells 0 [nds l, ints (begAll l), .loc 2 g1 0 i 1 false, .loc 3 g2 0 i 1 false], .map 0 doesM, .cells g1 (strL (txts l i)), .cells g2 (i64s (dps l i)), .cells 0 (Nd.cs x)] 0 0 2 g1 3 g2 l i := fun x =>
   ⟨rfl, rfl, rfl, al_mem ⟨by simp [RLB], by simp [RLB], rlb_strL, rlb_i64s, by simp [RLB], trivial⟩⟩
  obtain ⟨k0, k6⟩ := hs.kinds i h
  refine by_way (A := ?G) (fun key => ?main) ?sub
  case main =>
   have hk : (gi l i).kind = 0 ∨ (gi l i).kind = 1 ∨ (gi l i).kind = 2 ∨ (gi l i).kind = 3 ∨ (gi l i).kind = 4 ∨ (gi l i).kind = 5 ∨ (gi l i).kind = 6 := by omega
   have e1 : (enN l i).t = txtN (gi l i) (kidsN l i) := rfl
   have e2 : (enN l i).d = dpN (gi l i) (kidsN l i) := rfl
   have hcall : ∀ f (x : Nd), (f = 88 ∧ (gi l i).kind = 0 ∨ f = 89 ∧ (gi l i).kind = 1 ∨ f = 90 ∧ (gi l i).kind = 2 ∨ f = 91 ∧ (gi l i).kind = 3 ∨ f = 92 ∧ two (gi l i).kind = true ∨ f = 93 ∧ (gi l i).kind = 6) → FT Tryz.prog f [.ptr 0 0 0, i64 i] [.cells 0 [nds l, ints (begAll l), .loc 2 g1 0 i 1 false, .loc 3 g2 0 i 1 false], .map 0 doesM, .cells g1 (strL (txts l i)), .cells g2 (i64s (dps l i)), .cells 0 (Nd.cs x)]
     (fun rv H' => rv = .tuple [.str (enN l i).t, i64 (enN l i).d] ∧ H' = [.cells 0 [nds l, ints (begAll l), .loc 2 g1 0 i 1 false, .loc 3 g2 0 i 1 false], .map 0 doesM, .cells g1 (strL (txts l i)), .cells g2 (i64s (dps l i)), .cells 0 (Nd.cs x)]) := by
    rintro f x (⟨rfl, k⟩ | ⟨rfl, k⟩ | ⟨rfl, k⟩ | ⟨rfl, k⟩ | ⟨rfl, k⟩ | ⟨rfl, k⟩)
    ·rw [e1, e2, show txtN (gi l i) (kidsN l i) = ⟨#[48]⟩ by simp [txtN, k], show dpN (gi l i) (kidsN l i) = 0 by simp [dpN, k, two]]
     exact zero_FT _ _ _ (hWr x).rl
    ·rw [e1, e2, show txtN (gi l i) (kidsN l i) = ⟨#[49]⟩ by simp [txtN, k], show dpN (gi l i) (kidsN l i) = 0 by simp [dpN, k, two]]
     exact one_FT _ _ _ (hWr x).rl
    ·rw [e1, e2, show txtN (gi l i) (kidsN l i) = (gi l i).name by simp [txtN, k, two], show dpN (gi l i) (kidsN l i) = 0 by simp [dpN, k, two]]
     exact name_FT (hWr x) h
    ·exact call_FT (hWr x) hs h k
    ·exact two_FT (hWr x) hs h k
    ·exact proj_FT (hWr x) hs h k
   rcases hk with k | k | k | k | k | k | k
   all_goals
    simp (maxSteps := 3000000) [go_sem,-List.length_flatten,-List.map_drop,-List.map_take, h, alkp, amap, lookA, leavesA, leafA, k]
    refine (hcall _ ⟨_, (gi l i).name, (gi l i).n⟩ (by simp [k, two])).mono ?_
    rintro _ _ ⟨rfl, rfl⟩
    simp (maxSteps := 3000000) [go_sem,-List.length_flatten,-List.map_drop,-List.map_take, Kc]
    refine run_markT [(9, i64 (enN l i).d), (8, .str (enN l i).t), (19, i64 i), (18, i64 l.length), (17, nds l), (5, .mapr 1 0), (4, .ptr 0 0 0), (0, nds l)] [.cells 0 [nds l, ints (begAll l), .loc 2 g1 0 i 1 false, .loc 3 g2 0 i 1 false], .map 0 doesM, .cells g1 (strL (txts l i)), .cells g2 (i64s (dps l i))]
     (Wk.tell 4 (by omega) (by simp [Tm.get]) (by simp) (by simp) ⟨by simp [RLB], by simp [RLB], rlb_strL, rlb_i64s, trivial⟩) ?_
    exact key ()
  case sub =>
   have ht := txts_len l i
   have hd := dps_len l i
   have a1 := strL_app (txts l i) (enN l i).t
   rw [ht, ← txts_succ] at a1
   have a2 := i64s_app (dps l i) (enN l i).d
   rw [hd, ← dps_succ] at a2
   have hkA : i + 1 ≤ maxA := by unfold maxA; omega
   simp (maxSteps := 3000000) [go_sem,-List.length_flatten,-List.map_drop,-List.map_take, ht, hd, a1, a2, hkA]
   intros
   refine kn _ _ (Kl_sub (l.length - (i + 1)) ⟨i + 1, g1 + 1, g2 + 1, rfl, h, rfl, rfl⟩ (by simp [Tm.get, nxt h hA]) (by omega))
 ·have : i = l.length := by omega
  subst this
  obtain ⟨n, hn⟩ : ∃ n, l.length = n + 1 := ⟨l.length - 1, by omega⟩
  have ht := txts_len l l.length
  have hd := dps_len l l.length
  have l1 := loadCs_drop (f := fun s : ByteArray => AV.str s) (l := txts l l.length) (k := n) (by omega)
  have l2 := loadCs_drop (f := fun n : Int => AV.int IntKind.i64 n) (l := dps l l.length) (k := n) (by omega)
  rw [txts_at (by omega)] at l1
  rw [dps_at (by omega)] at l2
  have hw : IntKind.i64.wrap (n : Int) = (n : Int) := w64 (by omega) (by omega)
  have hni : (n : Int) < (n : Int) + 1 := by omega
  have hnn : n < l.length := by omega
  rw [hn] at hQ l1 l2 ht hd hA ⊢
  rw [show n + 1 - 1 = n by omega] at hQ
  simp (maxSteps := 3000000) [go_sem,-List.length_flatten,-List.map_drop,-List.map_take, hn, kx, hw, ↓l1, ↓l2, ht, hd, hni]
  intros
  rw [← hQ]
  simp (maxSteps := 3000000) [go_sem,-List.length_flatten,-List.map_drop,-List.map_take]
end Go.AM

namespace Go.AM
open Go.Proofs
set_option maxRecDepth 100000
set_option linter.unusedVariables false
set_option linter.unusedSimpArgs false
attribute [local go_sem] Function.comp_def argsT Opd.ev Tm.get put ares mapMo ares1 snilP bldParts bslParts putAt AV.cells AV.one astore aload loadCs callArgs abin abinInt aapp elems appMore appNone preLen aFa aFld apart aExt aPick aNot aLens aEqa cellsK fitsA LK.fitsA leavesA leafA nilD aNilc aCint aCid alive alen alenOk Rle lePs len_flat
/-! ### Brackets -/
def bw (c : UInt8) : Int := if c = 40 then 1 else if c = 41 then -1 else 0
/-- How many more are opened than closed; how many are open at most. -/
def ol : List UInt8 → Int
 | [] => 0
 | c :: l => bw c + ol l
def od : List UInt8 → Int
 | [] => 0
 | c :: l => if 0 ≤ bw c + od l then bw c + od l else 0
theorem od_nonneg : ∀ l, 0 ≤ od l
 | [] => by simp [od]
 | c :: l => by rw [od]; split <;> omega
theorem ol_app : ∀ a b, ol (a ++ b) = ol a + ol b
 | [], b => by simp [ol]
 | c :: a, b => by
  have := ol_app a b
  simp only [List.cons_append, ol]
  omega
theorem od_app : ∀ a b, od (a ++ b) = if od a ≤ ol a + od b then ol a + od b else od a
 | [], b => by
  have := od_nonneg b
  simp [od, ol, this]
 | c :: a, b => by
  have h := od_app a b
  have := od_nonneg a
  simp only [List.cons_append, od, ol, h]
  repeat' split
  all_goals omega
theorem ol_take_le : ∀ (l : List UInt8) (i : Nat), ol (l.take i) ≤ od l
 | [], i => by simp [ol, od]
 | c :: l, 0 => by simp only [List.take_zero, ol]; exact od_nonneg _
 | c :: l, i + 1 => by
  have := ol_take_le l i
  simp only [List.take_succ_cons, ol, od]
  split <;> omega
theorem od_take : ∀ l : List UInt8, ∃ i, i ≤ l.length ∧ ol (l.take i) = od l
 | [] => ⟨0, by simp, rfl⟩
 | c :: l => by
  obtain ⟨i, h1, h2⟩ := od_take l
  by_cases h : 0 ≤ bw c + od l
  ·exact ⟨i + 1, by simpa using h1, by simp only [List.take_succ_cons, ol, od, if_pos h, h2]⟩
  ·exact ⟨0, by simp, by simp only [List.take_zero, ol, od, if_neg h]⟩
/-- A text whose brackets are as many, and so many open at most. -/
def Bal (t : ByteArray) (d : Int) : Prop := ol t.data.toList = 0 ∧ od t.data.toList = d
theorem bal_plain {t : ByteArray} (h : ∀ c ∈ t.data.toList, c ≠ 40 ∧ c ≠ 41) : Bal t 0 := by
 have : ∀ l : List UInt8, (∀ c ∈ l, c ≠ 40 ∧ c ≠ 41) → ol l = 0 ∧ od l = 0 := by
  intro l
  induction l with
  | nil => intro _; exact ⟨rfl, rfl⟩
  | cons c l ih =>
   intro h
   obtain ⟨h1, h2⟩ := ih (fun x hx => h x (by simp [hx]))
   obtain ⟨h3, h4⟩ := h c (by simp)
   simp [ol, od, bw, h1, h2, h3, h4]
 exact this _ h
theorem Bal.app {a b : ByteArray} {x y : Int} (ha : Bal a x) (hb : Bal b y) : Bal (a ++ b) (if x ≤ y then y else x) := by
 obtain ⟨a1, a2⟩ := ha
 obtain ⟨b1, b2⟩ := hb
 refine ⟨by simp [ol_app, a1, b1], ?_⟩
 simp only [ByteArray.data_append, Array.toList_append, od_app, a1, a2, b2, Int.zero_add]
theorem Bal.br {t : ByteArray} {d : Int} (h : Bal t d) : Bal (⟨#[40]⟩ ++ t ++ ⟨#[41]⟩) (d + 1) := by
 obtain ⟨h1, h2⟩ := h
 have hn := od_nonneg t.data.toList
 rw [h2] at hn
 refine ⟨by simp [ol_app, ol, bw, h1], ?_⟩
 simp only [ByteArray.data_append, Array.toList_append, od_app, ol_app, h1, h2]
 simp [ol, od, bw]
 omega
theorem Bal.pos {t : ByteArray} {d : Int} (h : Bal t d) : 0 ≤ d := h.2 ▸ od_nonneg _
theorem bal_c (c : UInt8) (h : c ≠ 40 ∧ c ≠ 41) : Bal ⟨#[c]⟩ 0 := bal_plain (fun x hx => by simp at hx; subst hx; exact h)
theorem bal_brT {t : ByteArray} {d : Int} (b : Bool) (h : Bal t d) : Bal (brT b t) (brD b d) := by
 cases b
 ·exact h
 ·exact h.br
theorem maxD_from (ks : List En) : ∀ m : Int, 0 ≤ m → (∀ e ∈ ks, 0 ≤ e.d) → ks.foldl (fun m e => if m < e.d then e.d else m) m = if m < maxD ks then maxD ks else m := by
 induction ks with
 | nil => intro m hm _; simp [maxD]; omega
 | cons e ks ih =>
  intro m hm h
  have h1 := ih (if m < e.d then e.d else m) (by split <;> omega) (fun x hx => h x (by simp [hx]))
  have h2 := ih (if 0 < e.d then e.d else 0) (by split <;> omega) (fun x hx => h x (by simp [hx]))
  have := h e (by simp)
  have e3 : maxD (e :: ks) = ks.foldl (fun m e => if m < e.d then e.d else m) (if 0 < e.d then e.d else 0) := rfl
  rw [e3, h2, List.foldl_cons, h1]
  repeat' split
  all_goals omega
theorem maxD_cons {e : En} {ks : List En} (h : ∀ x ∈ e :: ks, 0 ≤ x.d) : maxD (e :: ks) = if e.d < maxD ks then maxD ks else e.d := by
 have e3 : maxD (e :: ks) = ks.foldl (fun m e => if m < e.d then e.d else m) (if 0 < e.d then e.d else 0) := rfl
 have := h e (by simp)
 rw [e3, maxD_from ks _ (by split <;> omega) (fun x hx => h x (by simp [hx]))]
 repeat' split
 all_goals omega
theorem bal_join : ∀ {ks : List En}, (∀ e ∈ ks, Bal e.t e.d) → Bal (joinB (ks.map (·.t))) (maxD ks)
 | [], _ => ⟨rfl, rfl⟩
 | [e], h => by
  have he := h e (by simp)
  have := he.pos
  have e1 : maxD [e] = e.d := by simp only [maxD, List.foldl_cons, List.foldl_nil]; split <;> omega
  rw [e1]
  exact he
 | e :: e' :: ks, h => by
  have ih := bal_join (ks := e' :: ks) (fun x hx => h x (by simp at hx ⊢; exact .inr hx))
  have he := h e (by simp)
  have hp := he.pos
  have hip := ih.pos
  have hc := (bal_c 44 (by decide)).app ih
  have := he.app hc
  rw [maxD_cons (fun x hx => (h x hx).pos)]
  have e1 : (if e.d ≤ (if (0 : Int) ≤ maxD (e' :: ks) then maxD (e' :: ks) else 0) then (if (0 : Int) ≤ maxD (e' :: ks) then maxD (e' :: ks) else 0) else e.d) = (if e.d < maxD (e' :: ks) then maxD (e' :: ks) else e.d) := by
   rw [if_pos hip]
   repeat' split
   all_goals omega
  rw [e1] at this
  exact this
theorem bal_txt {x : Nd} {ks : List En} (hn : Bal x.name 0) (hk : ∀ e ∈ ks, Bal e.t e.d) (h2 : two x.kind = true → ks.length = 2) (h6 : x.kind = 6 → ks.length = 1 ∧ x.n < 10) : Bal (txtN x ks) (dpN x ks) := by
 have z : ∀ {t : ByteArray} {d : Int}, 0 ≤ d → Bal t (if (0 : Int) ≤ d then d else 0) → Bal t d := fun hd h => by rwa [if_pos hd] at h
 unfold txtN dpN
 by_cases k0 : x.kind = 0
 ·simp [k0, two]; exact bal_c 48 (by decide)
 by_cases k1 : x.kind = 1
 ·simp [k1, two]; exact bal_c 49 (by decide)
 by_cases k3 : x.kind = 3
 ·simp only [k3]
  by_cases n0 : x.n = 0
  ·simp [n0]; exact hn
  ·simp only [n0, if_false, if_true]
   have hj := bal_join hk
   have := hn.app hj.br
   have hp := hj.pos
   rw [if_pos (by omega)] at this
   have e : x.name ++ ⟨#[40]⟩ ++ joinB (ks.map (·.t)) ++ ⟨#[41]⟩ = x.name ++ (⟨#[40]⟩ ++ joinB (ks.map (·.t)) ++ ⟨#[41]⟩) := by simp only [ByteArray.append_assoc]
   simp only [show ¬ ((3 : Int) = 0) by decide, show ¬ ((3 : Int) = 1) by decide, if_false]
   rw [e]
   exact this
 by_cases kt : two x.kind = true
 ·simp only [if_neg k0, if_neg k1, if_neg k3, if_pos kt]
  have hl := h2 kt
  match ks, hl with
  | [a, b], _ =>
   have ha := bal_brT (brk x.kind true a) (hk a (by simp))
   have hb := bal_brT (brk x.kind false b) (hk b (by simp))
   have hc : Bal ⟨#[if x.kind = 4 then 124 else 38]⟩ 0 := bal_c _ (by split <;> decide)
   have := (ha.app hc).app hb
   have pa := ha.pos
   have pb := hb.pos
   have g0 : gi [a, b] 0 = a := rfl
   have g1 : gi [a, b] 1 = b := rfl
   rw [g0, g1]
   generalize brD (brk x.kind true a) a.d = u at *
   generalize brD (brk x.kind false b) b.d = v at *
   have e : (if (if u ≤ 0 then (0 : Int) else u) ≤ v then v else (if u ≤ 0 then (0 : Int) else u)) = if u < v then v else u := by
    repeat' split
    all_goals omega
   rw [e] at this
   exact this
 by_cases k6 : x.kind = 6
 ·obtain ⟨hl, hx⟩ := h6 k6
  match ks, hl with
  | [a], _ =>
   have ha := (hk a (by simp)).br
   have hd : Bal ⟨#[UInt8.ofNat (48 + x.n.toNat)]⟩ 0 := bal_c _ (by
    have hlt : x.n.toNat < 10 := by omega
    generalize x.n.toNat = n at *
    match n, hlt with
    | 0, _ => decide
    | 1, _ => decide
    | 2, _ => decide
    | 3, _ => decide
    | 4, _ => decide
    | 5, _ => decide
    | 6, _ => decide
    | 7, _ => decide
    | 8, _ => decide
    | 9, _ => decide)
   have := ((hn.app (bal_c 126 (by decide))).app hd).app ha
   have pa := ha.pos
   simp only [if_neg k0, if_neg k1, if_neg k3, if_neg kt, if_pos k6]
   have g0 : gi [a] 0 = a := rfl
   rw [g0]
   simp only [Int.le_refl, if_true] at this
   rw [if_pos pa] at this
   exact this
 ·simp only [if_neg k0, if_neg k1, if_neg k3, if_neg kt, if_neg k6]
  exact hn
end Go.AM

namespace Go.AM
open Go.Proofs
set_option maxRecDepth 100000
set_option linter.unusedVariables false
set_option linter.unusedSimpArgs false
attribute [local go_sem] Function.comp_def argsT Opd.ev Tm.get put ares mapMo ares1 snilP bldParts bslParts putAt AV.cells AV.one astore aload loadCs callArgs abin abinInt aapp elems appMore appNone preLen aFa aFld apart aExt aPick aNot aLens aEqa cellsK fitsA LK.fitsA leavesA leafA nilD aNilc aCint aCid alive alen alenOk Rle lePs len_flat
def c24b : AFn := ⟨121, .seq (.reg false [⟨some 2, .mov (.lit (.str ⟨#[]⟩)), none⟩]) (.seq (.reg false [⟨some 10, .mov (.tmp 0), none⟩, ⟨some 11, .call (.lit (.fn (.func 55) [] [])) [.tmp 10], none⟩, ⟨some 3, .mov (.tmp 11), none⟩]) (.seq (.reg false [⟨some 4, .mov (.lit .nilS), none⟩]) (.seq (.seq (.reg false [⟨some 5, .mov (.lit (.int .i64 0)), none⟩]) (.block 0 (.loop (.seq (.seq (.reg false [⟨some 12, .mov (.tmp 5), none⟩, ⟨some 13, .mov (.tmp 0), none⟩, ⟨some 14, .len (.tmp 13), none⟩, ⟨some 15, .bin .lss (.tmp 12) (.tmp 14), none⟩]) (.cond (.tmp 15) .skip (.exit 0))) (.seq (.block 1 (.seq (.reg false [⟨some 18, .mov (.tmp 0), none⟩, ⟨some 19, .mov (.tmp 5), none⟩, ⟨some 20, .ia 3 (.tmp 18) (.tmp 19), none⟩, ⟨some 21, .load 3 true (.tmp 20), none⟩, ⟨some 6, .alloc [.int .i64 0, .str ⟨#[]⟩, .int .i64 0], none⟩, ⟨none, .store 3 (.tmp 6) (.tmp 21), none⟩]) (.seq (.reg false [⟨some 22, .mov (.tmp 0), none⟩, ⟨some 23, .mov (.tmp 3), none⟩, ⟨some 24, .mov (.tmp 5), none⟩, ⟨some 25, .call (.lit (.fn (.func 56) [] [])) [.tmp 22, .tmp 23, .tmp 24], none⟩, ⟨some 7, .mov (.tmp 25), none⟩]) (.seq (.reg false [⟨some 26, .fa 1 (.tmp 6), none⟩, ⟨some 27, .load 1 false (.tmp 26), none⟩, ⟨some 8, .mov (.tmp 27), none⟩]) (.seq (.seq (.reg false [⟨some 28, .fa 0 (.tmp 6), none⟩, ⟨some 29, .load 1 false (.tmp 28), none⟩]) (.block 2 (.seq (.reg false [⟨some 31, .bin .eql (.tmp 29) (.lit (.int .i64 0)), none⟩, ⟨some 30, .mov (.tmp 31), none⟩]) (.cond (.tmp 30) (.reg false [⟨some 8, .mov (.lit (.str ⟨#[48]⟩)), none⟩]) (.seq (.reg false [⟨some 33, .bin .eql (.tmp 29) (.lit (.int .i64 1)), none⟩, ⟨some 32, .mov (.tmp 33), none⟩]) (.cond (.tmp 32) (.reg false [⟨some 8, .mov (.lit (.str ⟨#[49]⟩)), none⟩]) (.seq (.reg false [⟨some 35, .bin .eql (.tmp 29) (.lit (.int .i64 3)), none⟩, ⟨some 34, .mov (.tmp 35), none⟩]) (.cond (.tmp 34) (.seq (.seq (.reg false [⟨some 9, .mov (.lit (.int .i64 0)), none⟩]) (.block 3 (.loop (.seq (.seq (.reg false [⟨some 36, .mov (.tmp 9), none⟩, ⟨some 37, .mov (.tmp 7), none⟩, ⟨some 38, .len (.tmp 37), none⟩, ⟨some 39, .bin .lss (.tmp 36) (.tmp 38), none⟩]) (.cond (.tmp 39) .skip (.exit 3))) (.seq (.block 4 (.seq (.seq (.reg false [⟨some 42, .mov (.tmp 9), none⟩, ⟨some 43, .bin .eql (.tmp 42) (.lit (.int .i64 0)), none⟩]) (.cond (.tmp 43) (.reg false [⟨some 44, .mov (.tmp 8), none⟩, ⟨some 45, .bin .add (.tmp 44) (.lit (.str ⟨#[40]⟩)), none⟩, ⟨some 8, .mov (.tmp 45), none⟩]) (.reg false [⟨some 46, .mov (.tmp 8), none⟩, ⟨some 47, .bin .add (.tmp 46) (.lit (.str ⟨#[44]⟩)), none⟩, ⟨some 8, .mov (.tmp 47), none⟩]))) (.reg false [⟨some 48, .mov (.tmp 8), none⟩, ⟨some 49, .mov (.tmp 4), none⟩, ⟨some 50, .mov (.tmp 7), none⟩, ⟨some 51, .mov (.tmp 9), none⟩, ⟨some 52, .ia 1 (.tmp 50) (.tmp 51), none⟩, ⟨some 53, .load 1 false (.tmp 52), none⟩, ⟨some 54, .ia 1 (.tmp 49) (.tmp 53), none⟩, ⟨some 55, .load 1 false (.tmp 54), none⟩, ⟨some 56, .bin .add (.tmp 48) (.tmp 55), none⟩, ⟨some 8, .mov (.tmp 56), none⟩]))) (.reg false [⟨some 40, .mov (.tmp 9), none⟩, ⟨some 41, .bin .add (.tmp 40) (.lit (.int .i64 1)), none⟩, ⟨some 9, .mov (.tmp 41), none⟩])))))) (.seq (.reg false [⟨some 57, .mov (.tmp 7), none⟩, ⟨some 58, .len (.tmp 57), none⟩, ⟨some 59, .bin .gtr (.tmp 58) (.lit (.int .i64 0)), none⟩]) (.cond (.tmp 59) (.reg false [⟨some 60, .mov (.tmp 8), none⟩, ⟨some 61, .bin .add (.tmp 60) (.lit (.str ⟨#[41]⟩)), none⟩, ⟨some 8, .mov (.tmp 61), none⟩]) .skip))) (.seq (.reg false [⟨some 63, .bin .eql (.tmp 29) (.lit (.int .i64 4)), none⟩, ⟨some 62, .mov (.tmp 63), none⟩]) (.cond (.tmp 62) (.reg true [⟨some 64, .mov (.tmp 0), none⟩, ⟨some 65, .mov (.tmp 4), none⟩, ⟨some 66, .mov (.tmp 7), none⟩, ⟨some 67, .ia 1 (.tmp 66) (.lit (.int .i64 0)), none⟩, ⟨some 68, .load 1 false (.tmp 67), none⟩, ⟨some 69, .callh (.lit (.fn (.func 57) [] [])) [.tmp 64, .tmp 65, .tmp 68, .lit (.int .i64 4), .lit (.bool true)], none⟩, ⟨some 70, .bin .add (.tmp 69) (.lit (.str ⟨#[124]⟩)), none⟩, ⟨some 71, .mov (.tmp 0), none⟩, ⟨some 72, .mov (.tmp 4), none⟩, ⟨some 73, .mov (.tmp 7), none⟩, ⟨some 74, .ia 1 (.tmp 73) (.lit (.int .i64 1)), none⟩, ⟨some 75, .load 1 false (.tmp 74), none⟩, ⟨some 76, .callh (.lit (.fn (.func 57) [] [])) [.tmp 71, .tmp 72, .tmp 75, .lit (.int .i64 4), .lit (.bool false)], none⟩, ⟨some 77, .bin .add (.tmp 70) (.tmp 76), none⟩, ⟨some 8, .mov (.tmp 77), none⟩]) (.seq (.reg false [⟨some 79, .bin .eql (.tmp 29) (.lit (.int .i64 5)), none⟩, ⟨some 78, .mov (.tmp 79), none⟩]) (.cond (.tmp 78) (.reg true [⟨some 80, .mov (.tmp 0), none⟩, ⟨some 81, .mov (.tmp 4), none⟩, ⟨some 82, .mov (.tmp 7), none⟩, ⟨some 83, .ia 1 (.tmp 82) (.lit (.int .i64 0)), none⟩, ⟨some 84, .load 1 false (.tmp 83), none⟩, ⟨some 85, .callh (.lit (.fn (.func 57) [] [])) [.tmp 80, .tmp 81, .tmp 84, .lit (.int .i64 5), .lit (.bool true)], none⟩, ⟨some 86, .bin .add (.tmp 85) (.lit (.str ⟨#[38]⟩)), none⟩, ⟨some 87, .mov (.tmp 0), none⟩, ⟨some 88, .mov (.tmp 4), none⟩, ⟨some 89, .mov (.tmp 7), none⟩, ⟨some 90, .ia 1 (.tmp 89) (.lit (.int .i64 1)), none⟩, ⟨some 91, .load 1 false (.tmp 90), none⟩, ⟨some 92, .callh (.lit (.fn (.func 57) [] [])) [.tmp 87, .tmp 88, .tmp 91, .lit (.int .i64 5), .lit (.bool false)], none⟩, ⟨some 93, .bin .add (.tmp 86) (.tmp 92), none⟩, ⟨some 8, .mov (.tmp 93), none⟩]) (.seq (.reg false [⟨some 95, .bin .eql (.tmp 29) (.lit (.int .i64 6)), none⟩, ⟨some 94, .mov (.tmp 95), none⟩]) (.cond (.tmp 94) (.reg true [⟨some 96, .mov (.tmp 8), none⟩, ⟨some 97, .bin .add (.tmp 96) (.lit (.str ⟨#[126]⟩)), none⟩, ⟨some 98, .fa 2 (.tmp 6), none⟩, ⟨some 99, .load 1 false (.tmp 98), none⟩, ⟨some 100, .call (.lit (.fn (.func 58) [] [])) [.tmp 99], none⟩, ⟨some 101, .bin .add (.tmp 97) (.tmp 100), none⟩, ⟨some 102, .bin .add (.tmp 101) (.lit (.str ⟨#[40]⟩)), none⟩, ⟨some 103, .mov (.tmp 4), none⟩, ⟨some 104, .mov (.tmp 7), none⟩, ⟨some 105, .ia 1 (.tmp 104) (.lit (.int .i64 0)), none⟩, ⟨some 106, .load 1 false (.tmp 105), none⟩, ⟨some 107, .ia 1 (.tmp 103) (.tmp 106), none⟩, ⟨some 108, .load 1 false (.tmp 107), none⟩, ⟨some 109, .bin .add (.tmp 102) (.tmp 108), none⟩, ⟨some 110, .bin .add (.tmp 109) (.lit (.str ⟨#[41]⟩)), none⟩, ⟨some 8, .mov (.tmp 110), none⟩]) .skip)))))))))))))) (.seq .mark (.reg false [⟨some 111, .mov (.tmp 4), none⟩, ⟨some 112, .mov (.tmp 8), none⟩, ⟨some 113, .bslice 1 1 [.str ⟨#[]⟩] [(0, .tmp 112)], none⟩, ⟨some 114, .app 1 16 (.tmp 111) (.tmp 113), none⟩, ⟨some 4, .mov (.tmp 114), none⟩]))))))) (.reg false [⟨some 16, .mov (.tmp 5), none⟩, ⟨some 17, .bin .add (.tmp 16) (.lit (.int .i64 1)), none⟩, ⟨some 5, .mov (.tmp 17), none⟩])))))) (.seq (.reg false [⟨some 115, .mov (.tmp 4), none⟩, ⟨some 116, .mov (.tmp 0), none⟩, ⟨some 117, .len (.tmp 116), none⟩, ⟨some 118, .bin .sub (.tmp 117) (.lit (.int .i64 1)), none⟩, ⟨some 119, .ia 1 (.tmp 115) (.tmp 118), none⟩, ⟨some 120, .load 1 false (.tmp 119), none⟩, ⟨some 2, .mov (.tmp 120), none⟩]) .ret)))), [.tmp 2]⟩

/-! ### The document's text -/
theorem c57_ok : cFn Tryz.prog an0 Tryz.f57 = some c57 := by kernel_rfl
theorem side_FT {H : AHeap} {k1 g1 : Nat} {l : List Nd} {i r : Nat} (ht : H[k1]? = some (.cells g1 (strL (txts l i)))) (hR : ∀ b ∈ H, RLB H.length b) (hs : Shp l) (hi : i ≤ l.length) (hr : r < i) (kind : Int) (fst : Bool) :
  FT Tryz.prog 57 [nds l, .loc k1 g1 0 i 1 false, i64 r, i64 kind, .bool fst] H (fun rv H' => rv = .str (brT (brk kind fst (enN l r)) (enN l r).t) ∧ H' = H) := by
 refine FTt hm Tryz.func57 c57_ok (Nat.le_of_ble_eq_true rfl) ?_
 have hl1 := loadCs_drop (f := fun s : ByteArray => AV.str s) (l := txts l i) (k := r) (by rw [txts_len]; exact hr)
 rw [txts_at hr] at hl1
 have hts := hs.tx (i := r) (by omega)
 have hk : (enN l r).k = (gi l r).kind := rfl
 have hrl : r < l.length := by omega
 have hb : ∀ b : Bool, brk kind fst (enN l r) = b → ((two (gi l r).kind && (!fst || decide ((gi l r).kind ≠ kind))) = b) := fun b h => h
 by_cases h4 : (gi l r).kind = 4
 ·cases fst
  ·simp (maxSteps := 3000000) [go_sem,-List.length_flatten,-List.map_drop,-List.map_take, c57, ht, hr, hrl, h4, ↓hl1]
   refine ⟨by omega, by omega, hR, ?_⟩
   simp [brk, two, hk, h4, brT]
  ·by_cases he : kind = 4
   ·have he2 : (4 : Int) = kind := he.symm
    simp (maxSteps := 3000000) [go_sem,-List.length_flatten,-List.map_drop,-List.map_take, c57, ht, hr, hrl, h4, ↓hl1, he]
    refine ⟨hR, ?_⟩
    simp [brk, two, hk, h4, brT]
   ·have he2 : ¬ (4 : Int) = kind := fun e => he e.symm
    simp (maxSteps := 3000000) [go_sem,-List.length_flatten,-List.map_drop,-List.map_take, c57, ht, hr, hrl, h4, ↓hl1, he2]
    refine ⟨by omega, by omega, hR, ?_⟩
    simp [brk, two, hk, h4, brT, he2]
 by_cases h5 : (gi l r).kind = 5
 ·cases fst
  ·simp (maxSteps := 3000000) [go_sem,-List.length_flatten,-List.map_drop,-List.map_take, c57, ht, hr, hrl, h5, ↓hl1]
   refine ⟨by omega, by omega, hR, ?_⟩
   simp [brk, two, hk, h5, brT]
  ·by_cases he : kind = 5
   ·simp (maxSteps := 3000000) [go_sem,-List.length_flatten,-List.map_drop,-List.map_take, c57, ht, hr, hrl, h5, ↓hl1, he]
    refine ⟨hR, ?_⟩
    simp [brk, two, hk, h5, brT]
   ·have he2 : ¬ (5 : Int) = kind := fun e => he e.symm
    simp (maxSteps := 3000000) [go_sem,-List.length_flatten,-List.map_drop,-List.map_take, c57, ht, hr, hrl, h5, ↓hl1, he2]
    refine ⟨by omega, by omega, hR, ?_⟩
    simp [brk, two, hk, h5, brT, he2]
 ·simp (maxSteps := 3000000) [go_sem,-List.length_flatten,-List.map_drop,-List.map_take, c57, ht, hr, hrl, h4, h5, ↓hl1]
  refine ⟨hR, ?_⟩
  simp [brk, two, hk, h4, h5, brT]
theorem c58_ok : cFn Tryz.prog an0 Tryz.f58 = some c58 := by kernel_rfl
theorem figure_PF (n : Int) (h : 0 ≤ n ∧ n < 10) : PF Tryz.prog 58 [i64 n] (.str ⟨#[UInt8.ofNat (48 + n.toNat)]⟩) := by
 refine PFk 9 hm Tryz.func58 c58_ok (Nat.le_of_ble_eq_true rfl) (by simp) (by simp) ?_
 have hw : IntKind.i64.wrap (48 + n) = 48 + n := w64 (by omega) (by omega)
 have hw2 : IntKind.u8.wrap (48 + n) = 48 + n := by
  have : ∀ x : Int, IntKind.u8.wrap x = x % 256 := fun x => by simp [IntKind.wrap, IntKind.bits, IntKind.signed]
  rw [this]
  omega
 have hw3 : (48 + n).toNat = 48 + n.toNat := by omega
 simp (maxSteps := 3000000) [go_sem,-List.length_flatten,-List.map_drop,-List.map_take, c58, hw, hw2, aB2s, bytesA, hw3]
end Go.AM

namespace Go.AM
open Go.Proofs
set_option maxRecDepth 100000
set_option linter.unusedVariables false
set_option linter.unusedSimpArgs false
attribute [local go_sem] Function.comp_def argsT Opd.ev Tm.get put ares mapMo ares1 snilP bldParts bslParts putAt AV.cells AV.one astore aload loadCs callArgs abin abinInt aapp elems appMore appNone preLen aFa aFld apart aExt aPick aNot aLens aEqa cellsK fitsA LK.fitsA leavesA leafA nilD aNilc aCint aCid alive alen alenOk Rle lePs len_flat
def sK (name : ByteArray) (ks : List En) : Nat → ByteArray
 | 0 => name
 | k + 1 => sK name ks k ++ ⟨#[if k = 0 then 40 else 44]⟩ ++ (gi ks (k : Int)).t
theorem joinB_snoc : ∀ (xs : List ByteArray) (y : ByteArray), xs ≠ [] → joinB (xs ++ [y]) = joinB xs ++ ⟨#[44]⟩ ++ y
 | [], y, h => absurd rfl h
 | [x], y, _ => by simp only [List.cons_append, List.nil_append, joinB, ByteArray.append_assoc]
 | x :: x' :: xs, y, _ => by
  have ih := joinB_snoc (x' :: xs) y (by simp)
  simp only [List.cons_append, joinB] at ih ⊢
  rw [ih]
  simp only [ByteArray.append_assoc]
theorem sK_join (name : ByteArray) (ks : List En) : ∀ k, k < ks.length → sK name ks (k + 1) = name ++ ⟨#[40]⟩ ++ joinB ((ks.take (k + 1)).map (·.t))
 | 0, h => by
  match ks, h with
  | e :: ks, _ => simp [sK, joinB, gi]
 | k + 1, h => by
  have ih := sK_join name ks k (by omega)
  rw [sK, ih, if_neg (by omega), List.take_succ_eq_append_getElem h, List.map_append, List.map_cons, List.map_nil, joinB_snoc _ _ (by
   intro e
   have h3 : 0 < ((ks.take (k + 1)).map (·.t)).length := by simp; omega
   rw [e] at h3
   simp at h3)]
  have e : gi ks ((k + 1 : Nat) : Int) = ks[k + 1] := by simp only [gi, List.getD, Int.toNat_natCast]; simp [h]
  rw [e]
  simp only [ByteArray.append_assoc]
theorem sK_size {name : ByteArray} {ks : List En} (hn : name.size ≤ 1099511627776) (hk : ∀ k : Nat, k < ks.length → (gi ks (k : Int)).t.size ≤ 1099511627776) : ∀ k, k ≤ ks.length → (sK name ks k).size ≤ 1099511627776 + k * 1099511627777
 | 0, _ => by simpa [sK] using hn
 | k + 1, h => by
  have ih := sK_size hn hk k (by omega)
  have := hk k (by omega)
  have s1 : ∀ c : UInt8, (⟨#[c]⟩ : ByteArray).size = 1 := fun c => rfl
  rw [sK]
  simp only [ByteArray.size_append, s1]
  omega
def an24 : An := ⟨[2000069, 2000076, 2000085, 2000092], [30]⟩
theorem c24_ok : cFn Tryz.prog an24 Tryz.f24 = some c24b := by kernel_rfl
set_option maxHeartbeats 4000000 in
theorem rtext_PF {l : List Nd} (hs : Shp l) (h0 : 0 < l.length) : PF Tryz.prog 24 [nds l] (.str (enN l (l.length - 1)).t) := by
 refine PFk 9 hm Tryz.func24 c24_ok (Nat.le_of_ble_eq_true rfl) (by simp) (by simp) ?_
 generalize hQ : Rle 9 (.str (enN l (l.length - 1)).t) = Q
 have hln := hs.len
 simp (maxSteps := 3000000) [go_sem,-List.length_flatten,-List.map_drop,-List.map_take, c24b]
 refine PF.call (rstarts_PF hs.good hln) 9 (by simp [lePs]) ?_
 simp (maxSteps := 3000000) [go_sem,-List.length_flatten,-List.map_drop,-List.map_take, Kc]
 refine run_loopK (fun m T H => ∃ (i g : Nat), m = l.length - i ∧ i ≤ l.length ∧ T = [(5, i64 i), (4, .loc 0 g 0 i 1 false), (3, ints (begAll l)), (0, nds l)] ∧ H = [.cells g (strL (txts l i))]) l.length
  [(5, i64 (0 : Nat)), (4, .loc 0 0 0 0 1 false), (3, ints (begAll l)), (0, nds l)] [.cells 0 []]
  ((Wk.nil 4 1 (by simp [Tm.get])).trans (Wk.tell 1 (by omega) (by simp [Tm.get]) (by simp) (by simp) (by simp [RLB]))) ⟨0, 0, rfl, by omega, rfl, rfl⟩ ?_
 rintro m T H ⟨i, g, rfl, hi, rfl, rfl⟩ KK kx kr kn
 by_cases h : i < l.length
 ·have hp := (hs.good i h).2
  have hp0 := (hs.good i h).1
  have hk := rkids_PF (begs_all l i hi) (hs.good.sub h) h hln
  have hkl := kids_len hp
  have hki := fun k hk => hs.kids (k := k) h hk
  have hkr := fun k hk => kids_r (l := l) (i := i) (k := k) hp hk
  have e1 : (enN l i).t = txtN (gi l i) (kidsN l i) := rfl
  have hts := hs.tx h
  have htk := fun k hk => hs.tx (i := (gi (kidsN l i) ((k : Nat) : Int)).r) (by have := (hki k hk).1; omega)
  have hld := fun r (hr : r < i) => loadCs_drop (f := fun s : ByteArray => AV.str s) (l := txts l i) (k := r) (by rw [txts_len]; exact hr)
  have hldv := fun r (hr : r < i) => txts_at (l := l) hr
  have ht2 := txts_succ l i
  have hRL : ∀ x : Nd, ∀ b ∈ ([.cells g (strL (txts l i)), .cells 0 (Nd.cs x)] : AHeap), RLB 2 b := fun x => al_mem ⟨rlb_strL, by simp [RLB], trivial⟩
  have hsd := fun (x : Nd) r (hr : r < i) kind fst => side_FT (H := [.cells g (strL (txts l i)), .cells 0 (Nd.cs x)]) (k1 := 0) (g1 := g) (l := l) (i := i) rfl (hRL x) hs hi hr kind fst
  have htl := txts_len l i
  have hz : (gi l i).name.size ≤ 1099511627776 := by
   have h1 := wsum_succ h
   have h2 := wsum_le l (i + 1)
   have := hs.size
   omega
  refine by_way (A := ?G) (fun key => ?main) ?sub
  case main =>
   obtain ⟨k0, k6⟩ := hs.kinds i h
   have hkk : (gi l i).kind = 0 ∨ (gi l i).kind = 1 ∨ (gi l i).kind = 2 ∨ (gi l i).kind = 3 ∨ (gi l i).kind = 4 ∨ (gi l i).kind = 5 ∨ (gi l i).kind = 6 := by omega
   simp (maxSteps := 3000000) [go_sem,-List.length_flatten,-List.map_drop,-List.map_take, h]
   intro _
   refine PF.call hk 9 (by simp [lePs]) ?_
   rcases hkk with k | k | k | k | k | k | k
   ·simp (maxSteps := 3000000) [go_sem,-List.length_flatten,-List.map_drop,-List.map_take, Kc, k]
    refine run_markT [(8, .str (enN l i).t), (5, i64 i), (4, .loc 0 g 0 i 1 false), (3, ints (begAll l)), (0, nds l)] [.cells g (strL (txts l i))] (Wk.tell 1 (by omega) (by simp [Tm.get, e1, txtN, k]) (by simp) (by simp) ⟨rlb_strL, trivial⟩) ?_
    exact key ()
   ·simp (maxSteps := 3000000) [go_sem,-List.length_flatten,-List.map_drop,-List.map_take, Kc, k]
    refine run_markT [(8, .str (enN l i).t), (5, i64 i), (4, .loc 0 g 0 i 1 false), (3, ints (begAll l)), (0, nds l)] [.cells g (strL (txts l i))] (Wk.tell 1 (by omega) (by simp [Tm.get, e1, txtN, k]) (by simp) (by simp) ⟨rlb_strL, trivial⟩) ?_
    exact key ()
   ·simp (maxSteps := 3000000) [go_sem,-List.length_flatten,-List.map_drop,-List.map_take, Kc, k]
    refine run_markT [(8, .str (enN l i).t), (5, i64 i), (4, .loc 0 g 0 i 1 false), (3, ints (begAll l)), (0, nds l)] [.cells g (strL (txts l i))] (Wk.tell 1 (by omega) (by simp [Tm.get, e1, txtN, k, two]) (by simp) (by simp) ⟨rlb_strL, trivial⟩) ?_
    exact key ()
   ·have hpe : partsN (gi l i) = (gi l i).n := by unfold partsN; rw [if_neg (by omega)]
    have hpn : ((kidsN l i).length : Int) = (gi l i).n := by rw [hkl]; unfold pN; omega
    have hsz := sK_size (name := (gi l i).name) (ks := kidsN l i) hz (fun k hk => by
     have h1 := hki k (by omega)
     have := htk k (by omega)
     rw [← h1.2] at this
     omega)
    have hpi : (kidsN l i).length ≤ l.length := by rw [hkl]; have := stk_le l i; omega
    have hjn := sK_join (gi l i).name (kidsN l i)
    have e1' : (enN l i).t = if (kidsN l i).length = 0 then (gi l i).name else (gi l i).name ++ ⟨#[40]⟩ ++ joinB ((kidsN l i).map (·.t)) ++ ⟨#[41]⟩ := by
     rw [e1]
     simp only [txtN, k]
     by_cases hn : (gi l i).n = 0
     ·rw [if_pos hn, if_pos (show (kidsN l i).length = 0 by omega)]
      rfl
     ·rw [if_neg hn, if_neg (show ¬ (kidsN l i).length = 0 by omega)]
      rfl
    rw [← hkl] at hki hkr htk
    rw [e1'] at hts
    simp (maxSteps := 3000000) [go_sem,-List.length_flatten,-List.map_drop,-List.map_take, Kc, k]
    generalize hks : kidsN l i = ks at *
    refine run_loopK (fun m T H => ∃ q : Nat, m = ks.length - q ∧ q ≤ ks.length ∧ T = [(9, i64 q), (8, .str (sK (gi l i).name ks q)), (7, ints (ks.map fun e => (e.r : Int))), (5, i64 i), (4, .loc 0 g 0 i 1 false), (3, ints (begAll l)), (0, nds l)] ∧ H = [.cells g (strL (txts l i))]) ks.length
     [(9, i64 (0 : Nat)), (8, .str (gi l i).name), (7, ints (ks.map fun e => (e.r : Int))), (5, i64 i), (4, .loc 0 g 0 i 1 false), (3, ints (begAll l)), (0, nds l)] [.cells g (strL (txts l i))]
     (Wk.tell 1 (by omega) (by simp [Tm.get]) (by simp) (by simp) ⟨rlb_strL, trivial⟩) ⟨0, rfl, by omega, rfl, rfl⟩ ?_
    rintro m T H ⟨q, rfl, hq, rfl, rfl⟩ KK2 kx2 kr2 kn2
    have hs1 := hsz q hq
    by_cases h2 : q < ks.length
    ·obtain ⟨r1, r2⟩ := hki q h2
     have hr := hkr q h2
     have hv := hld _ r1
     rw [hldv _ r1, ← r2] at hv
     have hs2 := hsz (q + 1) (by omega)
     have hti := htk q h2
     rw [← r2] at hti
     have hwq : IntKind.i64.wrap ((q : Int) + 1) = ((q + 1 : Nat) : Int) := nxt (n := ks.length) h2 (by unfold maxA; omega)
     by_cases hq0 : q = 0
     ·have hsk : sK (gi l i).name ks (q + 1) = sK (gi l i).name ks q ++ ⟨#[40]⟩ ++ (gi ks (q : Int)).t := by rw [sK, if_pos hq0]
      have hq1 := eq_true hq0
      have hq2 := eq_true (show (q : Int) = 0 by omega)
      clear hq0
      simp (maxSteps := 3000000) [go_sem,-List.length_flatten,-List.map_drop,-List.map_take, h2, hr, r1, ↓hv, htl, hq1, hq2]
      intros
      refine ⟨by omega, by omega, kn2 _ _ (Kl_next (ks.length - (q + 1)) 1 (by omega) ⟨q + 1, rfl, h2, rfl, rfl⟩ (by simp [Tm.get, hwq, hsk]) (by simp) (by simp) ⟨rlb_strL, trivial⟩ (by omega))⟩
     ·have hq1 : ¬ (q : Int) = 0 := by omega
      have hsk : sK (gi l i).name ks (q + 1) = sK (gi l i).name ks q ++ ⟨#[44]⟩ ++ (gi ks (q : Int)).t := by rw [sK, if_neg hq0]
      simp (maxSteps := 3000000) [go_sem,-List.length_flatten,-List.map_drop,-List.map_take, h2, hr, r1, ↓hv, htl, hq1, hq0]
      intros
      refine ⟨by omega, by omega, kn2 _ _ (Kl_next (ks.length - (q + 1)) 1 (by omega) ⟨q + 1, rfl, h2, rfl, rfl⟩ (by simp [Tm.get, hwq, hsk]) (by simp) (by simp) ⟨rlb_strL, trivial⟩ (by omega))⟩
    ·have : q = ks.length := by omega
     subst this
     by_cases hne : ks = []
     ·rw [if_pos (by rw [hne]; rfl)] at e1'
      simp (maxSteps := 3000000) [go_sem,-List.length_flatten,-List.map_drop,-List.map_take, kx2, hne]
      refine run_markT [(8, .str (enN l i).t), (5, i64 i), (4, .loc 0 g 0 i 1 false), (3, ints (begAll l)), (0, nds l)] [.cells g (strL (txts l i))] (Wk.tell 1 (by omega) (by simp [Tm.get, e1', hne, sK]) (by simp) (by simp) ⟨rlb_strL, trivial⟩) ?_
      exact key ()
     ·have hl0 : 0 < ks.length := List.length_pos_iff.2 hne
      rw [if_neg (by omega)] at e1'
      have hj := hjn (ks.length - 1) (by omega)
      rw [show ks.length - 1 + 1 = ks.length by omega, List.take_of_length_le (Nat.le_refl _)] at hj
      have hs3 := hsz ks.length (Nat.le_refl _)
      rw [hj] at hs3 ⊢
      have hs4 : (gi l i).name.size + 1 + (joinB (ks.map (·.t))).size ≤ 1099511627776 + ks.length * 1099511627777 := by
       simp only [ByteArray.size_append] at hs3
       have : (⟨#[40]⟩ : ByteArray).size = 1 := rfl
       omega
      simp (maxSteps := 3000000) [go_sem,-List.length_flatten,-List.map_drop,-List.map_take, kx2, hl0]
      intros
      refine ⟨by omega, ?_⟩
      refine run_markT [(8, .str (enN l i).t), (5, i64 i), (4, .loc 0 g 0 i 1 false), (3, ints (begAll l)), (0, nds l)] [.cells g (strL (txts l i))] (Wk.tell 1 (by omega) (by simp [Tm.get, e1']) (by simp) (by simp) ⟨rlb_strL, trivial⟩) ?_
      exact key ()
   ·have hp2 := hs.two i h (by simp [two, k])
    have r0 : gi ((kidsN l i).map fun e => (e.r : Int)) 0 = ((gi (kidsN l i) 0).r : Int) := hkr 0 (by omega)
    have r1 : gi ((kidsN l i).map fun e => (e.r : Int)) 1 = ((gi (kidsN l i) 1).r : Int) := hkr 1 (by omega)
    obtain ⟨q0, q0'⟩ : (gi (kidsN l i) 0).r < i ∧ gi (kidsN l i) 0 = enN l (gi (kidsN l i) 0).r := hki 0 (by omega)
    obtain ⟨q1, q1'⟩ : (gi (kidsN l i) 1).r < i ∧ gi (kidsN l i) 1 = enN l (gi (kidsN l i) 1).r := hki 1 (by omega)
    have s0 := hsd ⟨4, (gi l i).name, (gi l i).n⟩ _ q0 4 true
    have s1 := hsd ⟨4, (gi l i).name, (gi l i).n⟩ _ q1 4 false
    have s0 := s0.more (by simp) (hRL _)
    have s1 := s1.more (by simp) (hRL _)
    rw [← q0'] at s0
    rw [← q1'] at s1
    have e1' : (enN l i).t = brT (brk 4 true (gi (kidsN l i) 0)) (gi (kidsN l i) 0).t ++ ⟨#[124]⟩ ++ brT (brk 4 false (gi (kidsN l i) 1)) (gi (kidsN l i) 1).t := by
     rw [e1]
     simp [txtN, k, two]
    rw [e1'] at hts
    rw [hp2] at hkl
    generalize kidsN l i = ks at *
    generalize brT (brk 4 true (gi ks 0)) (gi ks 0).t = x0 at *
    generalize brT (brk 4 false (gi ks 1)) (gi ks 1).t = x1 at *
    have hz2 : x0.size + 1 + x1.size ≤ 1099511627776 := by
     simp only [ByteArray.size_append] at hts
     have : (⟨#[124]⟩ : ByteArray).size = 1 := rfl
     omega
    have hne : ¬ ks = [] := fun e => by rw [e] at hkl; simp at hkl
    simp (maxSteps := 3000000) [go_sem,-List.length_flatten,-List.map_drop,-List.map_take, Kc, k, r0, r1, hkl, hne]
    refine ⟨_, s0, ?_⟩
    simp (maxSteps := 3000000) [go_sem,-List.length_flatten,-List.map_drop,-List.map_take, Kc, r0, r1, hkl]
    refine ⟨by omega, _, s1, ?_⟩
    simp (maxSteps := 3000000) [go_sem,-List.length_flatten,-List.map_drop,-List.map_take, Kc]
    refine ⟨by omega, ?_⟩
    refine run_markT [(8, .str (enN l i).t), (5, i64 i), (4, .loc 0 g 0 i 1 false), (3, ints (begAll l)), (0, nds l)] [.cells g (strL (txts l i))] (Wk.tell 1 (by omega) (by simp [Tm.get, e1']) (by simp) (by simp) ⟨rlb_strL, trivial⟩) ?_
    exact key ()
   ·have hp2 := hs.two i h (by simp [two, k])
    have r0 : gi ((kidsN l i).map fun e => (e.r : Int)) 0 = ((gi (kidsN l i) 0).r : Int) := hkr 0 (by omega)
    have r1 : gi ((kidsN l i).map fun e => (e.r : Int)) 1 = ((gi (kidsN l i) 1).r : Int) := hkr 1 (by omega)
    obtain ⟨q0, q0'⟩ : (gi (kidsN l i) 0).r < i ∧ gi (kidsN l i) 0 = enN l (gi (kidsN l i) 0).r := hki 0 (by omega)
    obtain ⟨q1, q1'⟩ : (gi (kidsN l i) 1).r < i ∧ gi (kidsN l i) 1 = enN l (gi (kidsN l i) 1).r := hki 1 (by omega)
    have s0 := hsd ⟨5, (gi l i).name, (gi l i).n⟩ _ q0 5 true
    have s1 := hsd ⟨5, (gi l i).name, (gi l i).n⟩ _ q1 5 false
    have s0 := s0.more (by simp) (hRL _)
    have s1 := s1.more (by simp) (hRL _)
    rw [← q0'] at s0
    rw [← q1'] at s1
    have e1' : (enN l i).t = brT (brk 5 true (gi (kidsN l i) 0)) (gi (kidsN l i) 0).t ++ ⟨#[38]⟩ ++ brT (brk 5 false (gi (kidsN l i) 1)) (gi (kidsN l i) 1).t := by
     rw [e1]
     simp [txtN, k, two]
    rw [e1'] at hts
    rw [hp2] at hkl
    generalize kidsN l i = ks at *
    generalize brT (brk 5 true (gi ks 0)) (gi ks 0).t = x0 at *
    generalize brT (brk 5 false (gi ks 1)) (gi ks 1).t = x1 at *
    have hz2 : x0.size + 1 + x1.size ≤ 1099511627776 := by
     simp only [ByteArray.size_append] at hts
     have : (⟨#[38]⟩ : ByteArray).size = 1 := rfl
     omega
    have hne : ¬ ks = [] := fun e => by rw [e] at hkl; simp at hkl
    simp (maxSteps := 3000000) [go_sem,-List.length_flatten,-List.map_drop,-List.map_take, Kc, k, r0, r1, hkl, hne]
    refine ⟨_, s0, ?_⟩
    simp (maxSteps := 3000000) [go_sem,-List.length_flatten,-List.map_drop,-List.map_take, Kc, r0, r1, hkl]
    refine ⟨by omega, _, s1, ?_⟩
    simp (maxSteps := 3000000) [go_sem,-List.length_flatten,-List.map_drop,-List.map_take, Kc]
    refine ⟨by omega, ?_⟩
    refine run_markT [(8, .str (enN l i).t), (5, i64 i), (4, .loc 0 g 0 i 1 false), (3, ints (begAll l)), (0, nds l)] [.cells g (strL (txts l i))] (Wk.tell 1 (by omega) (by simp [Tm.get, e1']) (by simp) (by simp) ⟨rlb_strL, trivial⟩) ?_
    exact key ()
   ·obtain ⟨hp1, hn0, hn1⟩ := hs.six i h k
    have r0 : gi ((kidsN l i).map fun e => (e.r : Int)) 0 = ((gi (kidsN l i) 0).r : Int) := hkr 0 (by omega)
    obtain ⟨q0, q0'⟩ : (gi (kidsN l i) 0).r < i ∧ gi (kidsN l i) 0 = enN l (gi (kidsN l i) 0).r := hki 0 (by omega)
    have hv := hld _ q0
    rw [hldv _ q0, ← q0'] at hv
    have hfg := figure_PF (gi l i).n ⟨hn0, hn1⟩
    have e1' : (enN l i).t = (gi l i).name ++ ⟨#[126]⟩ ++ ⟨#[UInt8.ofNat (48 + (gi l i).n.toNat)]⟩ ++ ⟨#[40]⟩ ++ (gi (kidsN l i) 0).t ++ ⟨#[41]⟩ := by
     rw [e1]
     simp [txtN, k, two, brT, ByteArray.append_assoc]
    rw [e1'] at hts
    rw [hp1] at hkl
    generalize kidsN l i = ks at *
    have hz2 : (gi l i).name.size + 1 + 1 + 1 + (gi ks 0).t.size + 1 ≤ 1099511627776 := by
     simp only [ByteArray.size_append] at hts
     have s1 : ∀ c : UInt8, (⟨#[c]⟩ : ByteArray).size = 1 := fun c => rfl
     simp only [s1] at hts
     omega
    have hne : ¬ ks = [] := fun e => by rw [e] at hkl; simp at hkl
    simp (maxSteps := 3000000) [go_sem,-List.length_flatten,-List.map_drop,-List.map_take, Kc, k]
    refine ⟨by omega, _, hfg, ?_⟩
    simp (maxSteps := 3000000) [go_sem,-List.length_flatten,-List.map_drop,-List.map_take, Kc, r0, hkl, hne, q0, ↓hv, htl]
    refine ⟨by omega, by omega, by omega, by omega, ?_⟩
    refine run_markT [(8, .str (enN l i).t), (5, i64 i), (4, .loc 0 g 0 i 1 false), (3, ints (begAll l)), (0, nds l)] [.cells g (strL (txts l i))] (Wk.tell 1 (by omega) (by simp [Tm.get, e1']) (by simp) (by simp) ⟨rlb_strL, trivial⟩) ?_
    exact key ()
  case sub =>
   have a1 := strL_app (txts l i) (enN l i).t
   rw [htl, ← txts_succ] at a1
   have hkA : i + 1 ≤ maxA := by unfold maxA; omega
   have hwk : IntKind.i64.wrap ((i : Int) + 1) = ((i + 1 : Nat) : Int) := nxt (n := l.length) h (by unfold maxA; omega)
   simp (maxSteps := 3000000) [go_sem,-List.length_flatten,-List.map_drop,-List.map_take, htl, a1, hkA]
   intros
   refine kn _ _ (Kl_sub (l.length - (i + 1)) ⟨i + 1, g + 1, rfl, h, rfl, rfl⟩ (by simp [Tm.get, hwk]) (by omega))
 ·have : i = l.length := by omega
  subst this
  obtain ⟨n, hn⟩ : ∃ n, l.length = n + 1 := ⟨l.length - 1, by omega⟩
  have ht := txts_len l l.length
  have l1 := loadCs_drop (f := fun s : ByteArray => AV.str s) (l := txts l l.length) (k := n) (by omega)
  rw [txts_at (by omega)] at l1
  have hw : IntKind.i64.wrap (n : Int) = (n : Int) := w64 (by omega) (by omega)
  have hni : (n : Int) < (n : Int) + 1 := by omega
  rw [hn] at hQ l1 ht ⊢
  rw [show n + 1 - 1 = n by omega] at hQ
  simp (maxSteps := 3000000) [go_sem,-List.length_flatten,-List.map_drop,-List.map_take, hn, kx, hw, ↓l1, ht, hni]
  intros
  rw [← hQ]
  simp (maxSteps := 3000000) [go_sem,-List.length_flatten,-List.map_drop,-List.map_take]
end Go.AM

namespace Go.AM
open Go.Proofs
set_option maxRecDepth 100000
set_option linter.unusedVariables false
set_option linter.unusedSimpArgs false
attribute [local go_sem] Function.comp_def argsT Opd.ev Tm.get put ares mapMo ares1 snilP bldParts bslParts putAt AV.cells AV.one astore aload loadCs callArgs abin abinInt aapp elems appMore appNone preLen aFa aFld apart aExt aPick aNot aLens aEqa cellsK fitsA LK.fitsA leavesA leafA nilD aNilc aCint aCid alive alen alenOk Rle lePs len_flat
/-! ### Right rows of nodes -/
def ndsMay (l : List Nd) : Prop := ∀ i : Nat, i < l.length → ndMay (gi l i) = true ∧ partsN (gi l i) ≤ (stk l i).length
theorem mayKind {x : Nd} (h : ndMay x = true) : 0 ≤ x.kind ∧ x.kind ≤ 6 := by
 unfold ndMay at h
 apply Classical.byContradiction
 intro hn
 rw [if_neg (by omega), if_neg (by omega), if_neg (by omega), if_neg (by omega), if_neg (by omega)] at h
 cases h
theorem nameOk_size {s : ByteArray} (h : nameOk s = true) : s.size ≤ 20 := by
 simp only [nameOk, Bool.and_eq_true, decide_eq_true_eq] at h
 exact h.1.2
theorem mayName {x : Nd} (h : ndMay x = true) : x.name = ⟨#[]⟩ ∨ nameOk x.name = true := by
 have hk := mayKind h
 unfold ndMay at h
 have hkk : x.kind = 0 ∨ x.kind = 1 ∨ x.kind = 2 ∨ x.kind = 3 ∨ x.kind = 4 ∨ x.kind = 5 ∨ x.kind = 6 := by omega
 rcases hkk with k | k | k | k | k | k | k <;> simp [k, varOk, conOk] at h
 all_goals first
  | exact .inl h.1
  | exact .inr h.1.1.1
theorem mayN {x : Nd} (h : ndMay x = true) : 0 ≤ partsN x ∧ (two x.kind = true → partsN x = 2) ∧ (x.kind = 6 → partsN x = 1 ∧ 1 ≤ x.n ∧ x.n ≤ 8) ∧ (x.kind < 3 → x.n = 0) := by
 have hk := mayKind h
 unfold ndMay at h
 have hkk : x.kind = 0 ∨ x.kind = 1 ∨ x.kind = 2 ∨ x.kind = 3 ∨ x.kind = 4 ∨ x.kind = 5 ∨ x.kind = 6 := by omega
 rcases hkk with k | k | k | k | k | k | k <;> simp [k] at h <;> simp [partsN, two, k] <;> omega
theorem maySize {x : Nd} (h : ndMay x = true) : x.name.size ≤ 20 := by
 rcases mayName h with e | e
 ·rw [e]; show (0 : Nat) ≤ _; omega
 ·exact nameOk_size e
theorem mayBal {x : Nd} (h : ndMay x = true) : Bal x.name 0 := by
 rcases mayName h with e | e
 ·rw [e]; exact ⟨rfl, rfl⟩
 ·refine bal_plain fun c hc => ?_
  simp only [nameOk, Bool.and_eq_true, decide_eq_true_eq] at e
  obtain ⟨i, h1, h2⟩ := List.getElem_of_mem hc
  have hi : i < x.name.size := by rw [Array.length_toList] at h1; exact h1
  have hb : byte x.name i = (c.toNat : Int) := by
   have h3 : i < x.name.data.size := hi
   have h4 : x.name.data.getD i 0 = c := by
    rw [← h2]
    simp [Array.getD, hi]
   unfold byte
   rw [Int.toNat_natCast, h4]
  have hl := e.2 i hi
  rw [hb] at hl
  unfold letter figure at hl
  have e40 : (40 : UInt8).toNat = 40 := rfl
  have e41 : (41 : UInt8).toNat = 41 := rfl
  refine ⟨fun hh => ?_, fun hh => ?_⟩
  ·rw [hh, e40] at hl
   omega
  ·rw [hh, e41] at hl
   omega
theorem fold_size {l : List Nd} (h : ∀ x ∈ l, x.name.size ≤ 20) : ∀ s, l.foldl (fun s x => s + (x.name.size + 12)) s ≤ s + 32 * l.length := by
 induction l with
 | nil => intro s; simp
 | cons x l ih =>
  intro s
  have h1 := ih (fun y hy => h y (by simp [hy])) (s + (x.name.size + 12))
  have h2 := h x (by simp)
  simp only [List.foldl_cons, List.length_cons]
  omega
theorem shp_of {l : List Nd} (hl : l.length ≤ 1048576) (h : ndsMay l) : Shp l := by
 refine ⟨fun j hj => ?_, fun j hj e => ?_, fun j hj e => ?_, fun j hj => mayKind (h j hj).1, hl, ?_⟩
 ·have := (h j hj).2
  have h2 := (mayN (h j hj).1).1
  unfold pN
  omega
 ·have := (mayN (h j hj).1).2.1 e
  unfold pN
  omega
 ·have := (mayN (h j hj).1).2.2.1 e
  unfold pN
  omega
 ·have := fold_size (l := l) (fun x hx => by
   obtain ⟨i, h1, h2⟩ := List.getElem_of_mem hx
   have := maySize (h i h1).1
   simpa [gi, List.getD, h1, h2] using this) 0
  omega
theorem bal_en {l : List Nd} (hl : l.length ≤ 1048576) (h : ndsMay l) : ∀ i : Nat, i < l.length → Bal (enN l i).t (enN l i).d := by
 intro i
 induction i using Nat.strongRecOn with
 | _ i ih =>
  intro hi
  have hs := shp_of hl h
  have hk := kids_len (hs.good i hi).2
  refine bal_txt (x := gi l i) (ks := kidsN l i) (mayBal (h i hi).1) (fun e he => ?_) (fun e => by rw [hk]; exact hs.two i hi e) (fun e => by rw [hk]; have := hs.six i hi e; exact ⟨this.1, this.2.2⟩)
  obtain ⟨k, h1, h2⟩ := List.getElem_of_mem he
  have hki := hs.kids (k := k) hi (by omega)
  have e2 : gi (kidsN l i) (k : Int) = e := by simp [gi, List.getD, h1, h2]
  rw [e2] at hki
  rw [hki.2]
  exact ih e.r hki.1 (by omega)
noncomputable def rightN (l : List Nd) : Bool := by
 classical exact decide (ndsMay l) && (decide ((stk l l.length).length = 1) && decide ((enN l (l.length - 1)).d ≤ 40))
end Go.AM

namespace Go.AM
open Go.Proofs
set_option maxRecDepth 100000
set_option linter.unusedVariables false
set_option linter.unusedSimpArgs false
attribute [local go_sem] Function.comp_def argsT Opd.ev Tm.get put ares mapMo ares1 snilP bldParts bslParts putAt AV.cells AV.one astore aload loadCs callArgs abin abinInt aapp elems appMore appNone preLen aFa aFld apart aExt aPick aNot aLens aEqa cellsK fitsA LK.fitsA leavesA leafA nilD aNilc aCint aCid alive alen alenOk Rle lePs len_flat
theorem c44_ok : cFn Tryz.prog an0 Tryz.f44 = some c44 := by kernel_rfl
theorem text_PF {l : List Nd} (hs : Shp l) (h0 : 0 < l.length) : PF Tryz.prog 44 [nds l] (.str (enN l (l.length - 1)).t) := by
 refine PFk 9 hm Tryz.func44 c44_ok (Nat.le_of_ble_eq_true rfl) (by simp) (by simp) ?_
 simp (maxSteps := 3000000) [go_sem,-List.length_flatten,-List.map_drop,-List.map_take, c44]
 refine PF.call (written_PF hs h0) 9 (by simp [lePs]) ?_
 simp (maxSteps := 3000000) [go_sem,-List.length_flatten,-List.map_drop,-List.map_take, Kc]
theorem ndsBad {l : List Nd} {i : Nat} (h : i < l.length) (hn : ¬ (ndMay (gi l i) = true ∧ partsN (gi l i) ≤ (stk l i).length)) : rightN l = false := by
 have : ¬ ndsMay l := fun hh => hn (hh i h)
 simp [rightN, this]
theorem stk_int {l : List Nd} {i : Nat} (h0 : 0 ≤ partsN (gi l i)) (h : partsN (gi l i) ≤ (stk l i).length) : ((stk l (i + 1)).length : Int) = (stk l i).length - partsN (gi l i) + 1 := by
 have := stk_len l i (by unfold pN; omega)
 unfold pN at this
 omega
theorem c39_ok : cFn Tryz.prog an0 Tryz.f39 = some c39 := by kernel_rfl
theorem right39_PF (l : List Nd) (hl : l.length ≤ 1048576) : PF Tryz.prog 39 [nds l] (.bool (rightN l)) := by
 refine PFk 9 hm Tryz.func39 c39_ok (Nat.le_of_ble_eq_true rfl) (by simp) (by simp) ?_
 generalize hQ : Rle 9 (.bool (rightN l)) = Q
 simp (maxSteps := 3000000) [go_sem,-List.length_flatten,-List.map_drop,-List.map_take, c39]
 intro hA
 refine run_loopK (fun m T H => ∃ i : Nat, m = l.length - i ∧ i ≤ l.length ∧ (∀ j : Nat, j < i → (ndMay (gi l j) = true ∧ partsN (gi l j) ≤ (stk l j).length)) ∧ T = [(10, i64 i), (9, i64 l.length), (8, nds l), (3, i64 (stk l i).length), (0, nds l)] ∧ H = []) l.length
  [(10, i64 (0 : Nat)), (9, i64 l.length), (8, nds l), (3, i64 (0 : Nat)), (0, nds l)] [] (Wk.tell 0 (by omega) (by simp [Tm.get]) (by simp) rfl (by simp)) ⟨0, rfl, by omega, fun j hj => by omega, by simp [stk], rfl⟩ ?_
 rintro m T H ⟨i, rfl, hi, hj, rfl, rfl⟩ KK kx kr kn
 have hle := stk_le l i
 by_cases h : i < l.length
 ·simp (maxSteps := 3000000) [go_sem,-List.length_flatten,-List.map_drop,-List.map_take, h]
  refine PF.call (parts70_PF (gi l i)) 9 (by simp [lePs]) ?_
  simp (maxSteps := 3000000) [go_sem,-List.length_flatten,-List.map_drop,-List.map_take, Kc]
  refine PF.call (ndMay_PF (gi l i)) 9 (by simp [lePs]) ?_
  cases hm1 : ndMay (gi l i) with
  | false =>
   have hb := ndsBad h (by simp [hm1])
   simp (maxSteps := 3000000) [go_sem,-List.length_flatten,-List.map_drop,-List.map_take, Kc, kr]
   rw [← hQ, hb]
   simp (maxSteps := 3000000) [go_sem,-List.length_flatten,-List.map_drop,-List.map_take]
  | true =>
   have hp0 := (mayN hm1).1
   have hp9 : partsN (gi l i) ≤ 8 := by
    have := mayKind hm1
    unfold ndMay at hm1
    unfold partsN
    have hkk : (gi l i).kind = 0 ∨ (gi l i).kind = 1 ∨ (gi l i).kind = 2 ∨ (gi l i).kind = 3 ∨ (gi l i).kind = 4 ∨ (gi l i).kind = 5 ∨ (gi l i).kind = 6 := by omega
    rcases hkk with k | k | k | k | k | k | k <;> simp [k] at hm1 ⊢ <;> omega
   have hw1 : IntKind.i64.wrap (((stk l i).length : Int) - partsN (gi l i)) = ((stk l i).length : Int) - partsN (gi l i) := w64 (by omega) (by omega)
   by_cases h2 : partsN (gi l i) ≤ (stk l i).length
   ·have h2' : ¬ ((stk l i).length : Int) - partsN (gi l i) < 0 := by omega
    have hsi := stk_int hp0 h2
    have hw2 : IntKind.i64.wrap (((stk l i).length : Int) - partsN (gi l i) + 1) = ((stk l (i + 1)).length : Int) := by rw [← hsi]; have := stk_le l (i + 1); exact w64 (by omega) (by omega)
    simp (maxSteps := 3000000) [go_sem,-List.length_flatten,-List.map_drop,-List.map_take, Kc, hw1, h2', hw2]
    refine kn _ _ (Kl_next (l.length - (i + 1)) 0 (by omega) ⟨i + 1, rfl, h, all_next hj ⟨hm1, h2⟩, rfl, rfl⟩ (by simp [Tm.get, nxt h hA]) (by simp) rfl (by simp) (by omega))
   ·have h2' : ((stk l i).length : Int) - partsN (gi l i) < 0 := by omega
    have hb := ndsBad h (by simp [h2])
    simp (maxSteps := 3000000) [go_sem,-List.length_flatten,-List.map_drop,-List.map_take, Kc, hw1, h2', kr]
    rw [← hQ, hb]
    simp (maxSteps := 3000000) [go_sem,-List.length_flatten,-List.map_drop,-List.map_take]
 ·have e : i = l.length := by omega
  subst e
  have hM : ndsMay l := hj
  by_cases h1 : (stk l l.length).length = 1
  ·have h1' : ((stk l l.length).length : Int) = 1 := by omega
   have h0 : 0 < l.length := by omega
   simp (maxSteps := 3000000) [go_sem,-List.length_flatten,-List.map_drop,-List.map_take, h, kx, h1]
   refine PF.call (written_PF (shp_of hl hM) h0) 9 (by simp [lePs]) ?_
   simp (maxSteps := 3000000) [go_sem,-List.length_flatten,-List.map_drop,-List.map_take, Kc]
   rw [← hQ]
   simp (maxSteps := 3000000) [go_sem,-List.length_flatten,-List.map_drop,-List.map_take, rightN, hM, h1]
  ·have h1' : ¬ ((stk l l.length).length : Int) = 1 := by omega
   simp (maxSteps := 3000000) [go_sem,-List.length_flatten,-List.map_drop,-List.map_take, h, kx, h1, h1']
   rw [← hQ]
   simp (maxSteps := 3000000) [go_sem,-List.length_flatten,-List.map_drop,-List.map_take, rightN, hM, h1]
/-- How many brackets are open behind so many bytes. -/
def opn (s : ByteArray) (i : Nat) : Int := ol (s.data.toList.take i)
theorem opn_succ {s : ByteArray} {i : Nat} (h : i < s.size) : opn s (i + 1) = opn s i + (if byte s i = 40 then 1 else if byte s i = 41 then -1 else 0) := by
 have h1 : i < s.data.toList.length := by rw [Array.length_toList]; exact h
 unfold opn
 rw [List.take_succ_eq_append_getElem h1, ol_app]
 have hb : byte s i = ((s.data.toList[i]).toNat : Int) := by
  have h3 : i < s.data.size := h
  have h4 : s.data.getD i 0 = s.data.toList[i] := by
   rw [Array.getElem_toList]
   simp [Array.getD, h]
  unfold byte
  rw [Int.toNat_natCast, h4]
 rw [hb]
 generalize s.data.toList[i] = c
 have e : ol [c] = bw c := by simp [ol]
 rw [e]
 congr 1
 unfold bw
 have e40 : c = 40 ↔ (c.toNat : Int) = 40 := ⟨fun h => by subst h; rfl, fun h => UInt8.toNat_inj.1 (by show c.toNat = 40; omega)⟩
 have e41 : c = 41 ↔ (c.toNat : Int) = 41 := ⟨fun h => by subst h; rfl, fun h => UInt8.toNat_inj.1 (by show c.toNat = 41; omega)⟩
 simp only [e40, e41]
theorem opn_range (s : ByteArray) : ∀ i, i ≤ s.size → -(i : Int) ≤ opn s i ∧ opn s i ≤ i
 | 0, _ => by simp [opn, ol]
 | i + 1, h => by
  have ih := opn_range s i (by omega)
  rw [opn_succ (by omega)]
  repeat' split
  all_goals omega
theorem bal_open {t : ByteArray} {d : Int} (h : Bal t d) (m : Int) : (∀ i, i ≤ t.size → opn t i ≤ m) ↔ d ≤ m := by
 constructor
 ·intro hh
  obtain ⟨i, h1, h2⟩ := od_take t.data.toList
  rw [h.2] at h2
  have := hh i (by rw [Array.length_toList] at h1; exact h1)
  unfold opn at this
  omega
 ·intro hd i _
  have := ol_take_le t.data.toList i
  rw [h.2] at this
  unfold opn
  omega
end Go.AM

namespace Go.AM
open Go.Proofs
set_option maxRecDepth 100000
set_option linter.unusedVariables false
set_option linter.unusedSimpArgs false
attribute [local go_sem] Function.comp_def argsT Opd.ev Tm.get put ares mapMo ares1 snilP bldParts bslParts putAt AV.cells AV.one astore aload loadCs callArgs abin abinInt aapp elems appMore appNone preLen aFa aFld apart aExt aPick aNot aLens aEqa cellsK fitsA LK.fitsA leavesA leafA nilD aNilc aCint aCid alive alen alenOk Rle lePs len_flat
theorem parts_le {x : Nd} (h : ndMay x = true) : partsN x ≤ 8 := by
 have := mayKind h
 unfold ndMay at h
 unfold partsN
 have hkk : x.kind = 0 ∨ x.kind = 1 ∨ x.kind = 2 ∨ x.kind = 3 ∨ x.kind = 4 ∨ x.kind = 5 ∨ x.kind = 6 := by omega
 rcases hkk with k | k | k | k | k | k | k <;> simp [k] at h ⊢ <;> omega
theorem c19_ok : cFn Tryz.prog an0 Tryz.f19 = some c19 := by kernel_rfl
theorem right19_PF (l : List Nd) (hl : l.length ≤ 1048576) : PF Tryz.prog 19 [nds l] (.bool (rightN l)) := by
 refine PFk 9 hm Tryz.func19 c19_ok (Nat.le_of_ble_eq_true rfl) (by simp) (by simp) ?_
 generalize hQ : Rle 9 (.bool (rightN l)) = Q
 simp (maxSteps := 3000000) [go_sem,-List.length_flatten,-List.map_drop,-List.map_take, c19]
 refine run_loopK (fun m T H => ∃ i : Nat, m = l.length - i ∧ i ≤ l.length ∧ (∀ j : Nat, j < i → (ndMay (gi l j) = true ∧ partsN (gi l j) ≤ (stk l j).length)) ∧ T = [(4, i64 i), (3, i64 (stk l i).length), (0, nds l)] ∧ H = []) l.length
  [(4, i64 (0 : Nat)), (3, i64 (0 : Nat)), (0, nds l)] [] (Wk.tell 0 (by omega) (by simp [Tm.get]) (by simp) rfl (by simp)) ⟨0, rfl, by omega, fun j hj => by omega, by simp [stk], rfl⟩ ?_
 rintro m T H ⟨i, rfl, hi, hj, rfl, rfl⟩ KK kx kr kn
 have hle := stk_le l i
 by_cases h : i < l.length
 ·simp (maxSteps := 3000000) [go_sem,-List.length_flatten,-List.map_drop,-List.map_take, h]
  intro hA
  refine PF.call (rndMay_PF (gi l i)) 9 (by simp [lePs]) ?_
  cases hm1 : ndMay (gi l i) with
  | false =>
   have hb := ndsBad h (by simp [hm1])
   simp (maxSteps := 3000000) [go_sem,-List.length_flatten,-List.map_drop,-List.map_take, Kc, kr]
   rw [← hQ, hb]
   simp (maxSteps := 3000000) [go_sem,-List.length_flatten,-List.map_drop,-List.map_take]
  | true =>
   have hp0 := (mayN hm1).1
   have hp9 := parts_le hm1
   simp (maxSteps := 3000000) [go_sem,-List.length_flatten,-List.map_drop,-List.map_take, Kc, h]
   refine PF.call (parts46_PF (gi l i)) 9 (by simp [lePs]) ?_
   have hw1 : IntKind.i64.wrap (((stk l i).length : Int) - partsN (gi l i)) = ((stk l i).length : Int) - partsN (gi l i) := w64 (by omega) (by omega)
   by_cases h2 : partsN (gi l i) ≤ (stk l i).length
   ·have h2' : ¬ ((stk l i).length : Int) < partsN (gi l i) := by omega
    have hsi := stk_int hp0 h2
    have hw2 : IntKind.i64.wrap (((stk l i).length : Int) - partsN (gi l i) + 1) = ((stk l (i + 1)).length : Int) := by rw [← hsi]; have := stk_le l (i + 1); exact w64 (by omega) (by omega)
    simp (maxSteps := 3000000) [go_sem,-List.length_flatten,-List.map_drop,-List.map_take, Kc, h2', h]
    refine PF.call (parts46_PF (gi l i)) 9 (by simp [lePs]) ?_
    simp (maxSteps := 3000000) [go_sem,-List.length_flatten,-List.map_drop,-List.map_take, Kc, hw1, hw2]
    refine kn _ _ (Kl_next (l.length - (i + 1)) 0 (by omega) ⟨i + 1, rfl, h, all_next hj ⟨hm1, h2⟩, rfl, rfl⟩ (by simp [Tm.get, nxt h hA]) (by simp) rfl (by simp) (by omega))
   ·have h2' : ((stk l i).length : Int) < partsN (gi l i) := by omega
    have hb := ndsBad h (by simp [h2])
    simp (maxSteps := 3000000) [go_sem,-List.length_flatten,-List.map_drop,-List.map_take, Kc, h2', kr]
    rw [← hQ, hb]
    simp (maxSteps := 3000000) [go_sem,-List.length_flatten,-List.map_drop,-List.map_take]
 ·have e : i = l.length := by omega
  subst e
  have hM : ndsMay l := hj
  by_cases h1 : (stk l l.length).length = 1
  ·have h1' : ((stk l l.length).length : Int) = 1 := by omega
   have h0 : 0 < l.length := by omega
   have hsh := shp_of hl hM
   have hbal := bal_open (bal_en hl hM (l.length - 1) (by omega)) 40
   have hts := hsh.tx (i := l.length - 1) (by omega)
   have hrn : rightN l = decide ((enN l (l.length - 1)).d ≤ 40) := by simp [rightN, hM, h1]
   rw [hrn] at hQ
   simp (maxSteps := 3000000) [go_sem,-List.length_flatten,-List.map_drop,-List.map_take, h, kx, h1]
   intro _
   refine PF.call (rtext_PF hsh h0) 9 (by simp [lePs]) ?_
   simp (maxSteps := 3000000) [go_sem,-List.length_flatten,-List.map_drop,-List.map_take, Kc]
   generalize (enN l (l.length - 1)).t = s at *
   generalize (enN l (l.length - 1)).d = d at *
   have h00 : ∀ j : Nat, j ≤ 0 → opn s j ≤ 40 := fun j hj => by
    have : j = 0 := by omega
    subst this
    simp [opn, ol]
   refine run_loopK (fun m T H => ∃ i : Nat, m = s.size - i ∧ i ≤ s.size ∧ (∀ j : Nat, j ≤ i → opn s j ≤ 40) ∧ T = [(8, i64 i), (7, i64 (opn s i)), (6, .str s)] ∧ H = []) s.size
    [(8, i64 (0 : Nat)), (7, i64 0), (6, .str s)] [] (Wk.tell 0 (by omega) (by simp [Tm.get]) (by simp) rfl (by simp)) ⟨0, rfl, by omega, h00, by simp [opn, ol], rfl⟩ ?_
   rintro m T H ⟨i, rfl, hi2, hj2, rfl, rfl⟩ KK2 kx2 kr2 kn2
   by_cases h3 : i < s.size
   ·have hos := opn_succ h3
    have hor := opn_range s i hi2
    have hor2 := opn_range s (i + 1) h3
    have hwi : IntKind.i64.wrap ((i : Int) + 1) = ((i + 1 : Nat) : Int) := by rw [w64 (by omega) (by omega)]; omega
    have fin : opn s (i + 1) ≤ 40 → ∀ j : Nat, j ≤ i + 1 → opn s j ≤ 40 := fun h4 j hjj => by
     rcases Nat.lt_or_ge j (i + 1) with h5 | h5
     ·exact hj2 j (by omega)
     ·have : j = i + 1 := by omega
      subst this
      exact h4
    have bad : ¬ opn s (i + 1) ≤ 40 → decide (d ≤ 40) = false := fun h4 => decide_eq_false fun hd => h4 ((hbal.2 hd) (i + 1) h3)
    have hb := byte_range s i
    by_cases b1 : byte s i = 40
    ·have b2 : ¬ byte s i = 41 := by omega
     rw [if_pos b1] at hos
     have hwo : IntKind.i64.wrap (opn s i + 1) = opn s (i + 1) := by rw [hos]; exact w64 (by omega) (by omega)
     by_cases h4 : opn s (i + 1) ≤ 40
     ·have h4' : ¬ 40 < opn s (i + 1) := by omega
      simp (maxSteps := 3000000) [go_sem,-List.length_flatten,-List.map_drop,-List.map_take, h3, b1, b2, hwo, h4']
      intros
      refine kn2 _ _ (Kl_next (s.size - (i + 1)) 0 (by omega) ⟨i + 1, rfl, h3, fin h4, rfl, rfl⟩ (by simp [Tm.get, hwi]) (by simp) rfl (by simp) (by omega))
     ·have h4' : 40 < opn s (i + 1) := by omega
      simp (maxSteps := 3000000) [go_sem,-List.length_flatten,-List.map_drop,-List.map_take, h3, b1, b2, hwo, h4', kr2]
      intros
      rw [← hQ, bad h4]
      simp (maxSteps := 3000000) [go_sem,-List.length_flatten,-List.map_drop,-List.map_take]
    ·by_cases b2 : byte s i = 41
     ·rw [if_neg b1, if_pos b2] at hos
      have hwo : IntKind.i64.wrap (opn s i - 1) = opn s (i + 1) := by rw [hos]; exact w64 (by omega) (by omega)
      by_cases h4 : opn s (i + 1) ≤ 40
      ·have h4' : ¬ 40 < opn s (i + 1) := by omega
       simp (maxSteps := 3000000) [go_sem,-List.length_flatten,-List.map_drop,-List.map_take, h3, b1, b2, hwo, h4']
       intros
       refine kn2 _ _ (Kl_next (s.size - (i + 1)) 0 (by omega) ⟨i + 1, rfl, h3, fin h4, rfl, rfl⟩ (by simp [Tm.get, hwi]) (by simp) rfl (by simp) (by omega))
      ·exact absurd (hj2 i (Nat.le_refl _)) (by omega)
     ·rw [if_neg b1, if_neg b2] at hos
      have h4 : opn s (i + 1) ≤ 40 := by have := hj2 i (Nat.le_refl _); omega
      have h4' : ¬ 40 < opn s i := by omega
      simp (maxSteps := 3000000) [go_sem,-List.length_flatten,-List.map_drop,-List.map_take, h3, b1, b2, h4']
      intros
      refine kn2 _ _ (Kl_next (s.size - (i + 1)) 0 (by omega) ⟨i + 1, rfl, h3, fin h4, rfl, rfl⟩ (by simp [Tm.get, hwi, hos]) (by simp) rfl (by simp) (by omega))
   ·have hd : decide (d ≤ 40) = true := decide_eq_true (hbal.1 fun j hjj => hj2 j (by omega))
    simp (maxSteps := 3000000) [go_sem,-List.length_flatten,-List.map_drop,-List.map_take, h3, kx2]
    intros
    rw [← hQ, hd]
    simp (maxSteps := 3000000) [go_sem,-List.length_flatten,-List.map_drop,-List.map_take]
  ·have h1' : ¬ ((stk l l.length).length : Int) = 1 := by omega
   simp (maxSteps := 3000000) [go_sem,-List.length_flatten,-List.map_drop,-List.map_take, h, kx, h1, h1']
   intros
   rw [← hQ]
   simp (maxSteps := 3000000) [go_sem,-List.length_flatten,-List.map_drop,-List.map_take, rightN, hM, h1]
end Go.AM

namespace Go.AM
open Go.Proofs
set_option maxRecDepth 100000
set_option linter.unusedVariables false
set_option linter.unusedSimpArgs false
attribute [local go_sem] Function.comp_def argsT Opd.ev Tm.get put ares mapMo ares1 snilP bldParts bslParts putAt AV.cells AV.one astore aload loadCs callArgs abin abinInt aapp elems appMore appNone preLen aFa aFld apart aExt aPick aNot aLens aEqa cellsK fitsA LK.fitsA leavesA leafA nilD aNilc aCint aCid alive alen alenOk Rle lePs len_flat
/-! ### A term's own node -/
def ndT (l : List Sg) (names : List ByteArray) (t : Tm0) : Nd × Bool :=
 if t.kind = 2 then (if names.length ≤ t.sym then (⟨2, ⟨#[]⟩, t.args.length⟩, false) else (⟨2, gi names t.sym, t.args.length⟩, true))
 else if t.kind = 3 then (⟨3, (gi l t.sym).name, t.args.length⟩, true)
 else if t.kind = 6 then (⟨6, (gi l t.sym).name, t.part + 1⟩, true)
 else (⟨t.kind, ⟨#[]⟩, t.args.length⟩, true)
/-- What a term of a right store is like. -/
def tmFit (l : List Sg) (t : Tm0) : Prop := (t.kind = 2 → 0 ≤ t.sym) ∧ (t.kind = 3 ∨ t.kind = 6 → 0 ≤ t.sym ∧ t.sym < l.length) ∧ (t.kind = 6 → 0 ≤ t.part ∧ t.part < 1048576) ∧ (t.kind = 0 ∨ t.kind = 1 ∨ t.kind = 2 → t.args.length = 0) ∧ (t.kind = 4 ∨ t.kind = 5 → t.args.length = 2) ∧ 0 ≤ t.kind ∧ t.kind ≤ 6
theorem c36_ok : cFn Tryz.prog an0 Tryz.f36 = some c36 := by kernel_rfl
theorem node_PF (l : List Sg) (names : List ByteArray) (t : Tm0) (h : tmFit l t) : PF Tryz.prog 36 [sigs l, strs names, .agg t.cs] (.tuple [.agg (ndT l names t).1.cs, .bool (ndT l names t).2]) := by
 obtain ⟨h2, h3, h6, ha0, ha2, hk0, hk6⟩ := h
 refine PFk 9 hm Tryz.func36 c36_ok (Nat.le_of_ble_eq_true rfl) (by simp) (by simp) ?_
 generalize hQ : Rle 9 (.tuple [.agg (ndT l names t).1.cs, .bool (ndT l names t).2]) = Q
 have hk : t.kind = 2 ∨ t.kind = 3 ∨ t.kind = 6 ∨ (t.kind ≠ 2 ∧ t.kind ≠ 3 ∧ t.kind ≠ 6) := by omega
 rcases hk with k | k | k | k
 ·have hs := h2 k
  by_cases hn : names.length ≤ t.sym
  ·simp (maxSteps := 3000000) [go_sem,-List.length_flatten,-List.map_drop,-List.map_take, c36, k, hn]
   intros
   rw [← hQ]
   simp (maxSteps := 3000000) [go_sem,-List.length_flatten,-List.map_drop,-List.map_take, ndT, k, hn]
  ·have hn' : t.sym < names.length := by omega
   simp (maxSteps := 3000000) [go_sem,-List.length_flatten,-List.map_drop,-List.map_take, c36, k, hn, hs, hn']
   intros
   rw [← hQ]
   simp (maxSteps := 3000000) [go_sem,-List.length_flatten,-List.map_drop,-List.map_take, ndT, k, hn]
 ·obtain ⟨hs, hs2⟩ := h3 (.inl k)
  simp (maxSteps := 3000000) [go_sem,-List.length_flatten,-List.map_drop,-List.map_take, c36, k, hs, hs2]
  intros
  rw [← hQ]
  simp (maxSteps := 3000000) [go_sem,-List.length_flatten,-List.map_drop,-List.map_take, ndT, k]
 ·obtain ⟨hs, hs2⟩ := h3 (.inr k)
  obtain ⟨hp1, hp2⟩ := h6 k
  have hw : IntKind.i64.wrap (t.part + 1) = t.part + 1 := w64 (by omega) (by omega)
  simp (maxSteps := 3000000) [go_sem,-List.length_flatten,-List.map_drop,-List.map_take, c36, k, hs, hs2, hw, indB, apartB, aliveRd]
  intros
  rw [← hQ]
  simp (maxSteps := 3000000) [go_sem,-List.length_flatten,-List.map_drop,-List.map_take, ndT, k]
 ·simp (maxSteps := 3000000) [go_sem,-List.length_flatten,-List.map_drop,-List.map_take, c36, k]
  intros
  rw [← hQ]
  simp (maxSteps := 3000000) [go_sem,-List.length_flatten,-List.map_drop,-List.map_take, ndT, k]
/-! ### A store's terms as trees -/
theorem flatMap_cong {α β : Type} {f g : α → List β} : ∀ {l : List α}, (∀ x ∈ l, f x = g x) → l.flatMap f = l.flatMap g
 | [], _ => rfl
 | x :: l, h => by
  rw [List.flatMap_cons, List.flatMap_cons, h x (by simp), flatMap_cong (fun y hy => h y (by simp [hy]))]
def treeF (l : List Sg) (a : Kd) (names : List ByteArray) : Nat → Int → List Nd
 | 0, _ => []
 | f + 1, n => (termAt a n).1.args.flatMap (treeF l a names f) ++ [(ndT l names (termAt a n).1).1]
def treeN (l : List Sg) (a : Kd) (names : List ByteArray) (n : Int) : List Nd := treeF l a names (n.toNat + 1) n
theorem treeF_more {l : List Sg} {a : Kd} {names : List ByteArray} (ha : argsIn a) : ∀ (f : Nat) (n : Nat), n < f → n < a.keys.length → treeF l a names f n = treeN l a names n := by
 have key : ∀ (n : Nat), n < a.keys.length → ∀ f g, n < f → n < g → treeF l a names f n = treeF l a names g n := by
  intro n
  induction n using Nat.strongRecOn with
  | _ n ih =>
   intro hn f g hf hg
   obtain ⟨f', rfl⟩ : ∃ f', f = f' + 1 := ⟨f - 1, by omega⟩
   obtain ⟨g', rfl⟩ : ∃ g', g = g' + 1 := ⟨g - 1, by omega⟩
   rw [treeF, treeF]
   congr 1
   refine flatMap_cong fun x hx => ?_
   have := ha n hn x hx
   obtain ⟨m, rfl⟩ : ∃ m : Nat, x = m := ⟨x.toNat, by omega⟩
   exact ih m (by omega) (by omega) f' g' (by omega) (by omega)
 intro f n hf hn
 exact key n hn f _ hf (by simp)
theorem treeN_eq {l : List Sg} {a : Kd} {names : List ByteArray} (ha : argsIn a) {n : Nat} (hn : n < a.keys.length) : treeN l a names n = (termAt a n).1.args.flatMap (treeN l a names) ++ [(ndT l names (termAt a n).1).1] := by
 have e : treeN l a names n = treeF l a names (n + 1) n := rfl
 rw [e, treeF]
 congr 1
 refine flatMap_cong fun x hx => ?_
 have := ha n hn x hx
 obtain ⟨m, rfl⟩ : ∃ m : Nat, x = m := ⟨x.toNat, by omega⟩
 exact treeF_more ha n m (by omega) (by omega)
end Go.AM

namespace Go.AM
open Go.Proofs
set_option maxRecDepth 100000
set_option linter.unusedVariables false
set_option linter.unusedSimpArgs false
attribute [local go_sem] Function.comp_def argsT Opd.ev Tm.get put ares mapMo ares1 snilP bldParts bslParts putAt AV.cells AV.one astore aload loadCs callArgs abin abinInt aapp elems appMore appNone preLen aFa aFld apart aExt aPick aNot aLens aEqa cellsK fitsA LK.fitsA leavesA leafA nilD aNilc aCint aCid alive alen alenOk Rle lePs len_flat
/-! ### A store's nodes: the program's walk -/
abbrev ndH (l : List Sg) (a : Kd) (names : List ByteArray) (out : List Nd) (lf junk : List Int) (g1 g2 : Nat) : AHeap :=
 [.cells 0 [sigs l], .cells 0 a.cs, .cells 0 [strs names], .cells 0 [.loc 6 g1 0 out.length 3 false], .cells g2 (i64s (lf ++ junk)), .cells 0 [.loc 4 g2 0 lf.length 1 false], .cells g1 (fl Nd.cs out)]
theorem rlb_nds {n g : Nat} {l : List Nd} : RLB n (.cells g (fl Nd.cs l)) := fl_RL (fun x y hy => by simp at hy; rcases hy with rfl | rfl | rfl <;> simp) l
theorem ndH_rl {l : List Sg} {a : Kd} {names : List ByteArray} {out : List Nd} {lf junk : List Int} {g1 g2 : Nat} : al (RLB 7) (ndH l a names out lf junk g1 g2) :=
 ⟨by simp [RLB], rlb_kd, by simp [RLB], by simp [RLB], rlb_i64s, by simp [RLB], rlb_nds, trivial⟩
theorem rlb_i64s2 {n g : Nat} {l m : List Int} : RLB n (.cells g (i64s l ++ i64s m)) := by
 rw [← List.map_append]
 exact rlb_i64s
theorem flat_i64s : ∀ l : List Int, (List.map (fun n => [AV.int IntKind.i64 n]) l).flatten = i64s l
 | [] => rfl
 | x :: l => by simp only [List.map_cons, List.flatten_cons, flat_i64s l]; rfl
theorem c34_ok : cFn Tryz.prog an0 Tryz.f34 = some c34 := by kernel_rfl
theorem lay_FT {l : List Sg} {a : Kd} {names : List ByteArray} {out : List Nd} {lf junk : List Int} {g1 g2 : Nat} {n : Int} (hf : tmFit l (termAt a n).1) (hin : (termAt a n).2 = true) (hnm : (ndT l names (termAt a n).1).2 = true) (hal : (termAt a n).1.args.length ≤ 1048576)
  (ho : out.length ≤ 1048576) (hlf : lf.length ≤ 1099500000000) : FT Tryz.prog 34 [i64 n, .ptr 1 0 0, .ptr 0 0 0, .ptr 2 0 0, .ptr 3 0 0, .ptr 5 0 0] (ndH l a names out lf junk g1 g2)
   (fun rv H' => rv = i64 0 ∧ ∃ g1' g2' junk', H' = ndH l a names (out ++ [(ndT l names (termAt a n).1).1]) (lf ++ (termAt a n).1.args) junk' g1' g2') := by
 refine FTt hm Tryz.func34 c34_ok (Nat.le_of_ble_eq_true rfl) ?_
 have htm := termAt_PF a n
 rw [hin] at htm
 have hnd := node_PF l names (termAt a n).1 hf
 rw [hnm] at hnd
 generalize hQ : (fun (rv : AV) (H' : AHeap) => rv = i64 0 ∧ ∃ g1' g2' junk', H' = ndH l a names (out ++ [(ndT l names (termAt a n).1).1]) (lf ++ (termAt a n).1.args) junk' g1' g2') = Q
 generalize hx : (ndT l names (termAt a n).1).1 = x at *
 generalize ht : (termAt a n).1 = t at *
 simp (maxSteps := 3000000) [go_sem,-List.length_flatten,-List.map_drop,-List.map_take, c34]
 refine PF.call htm 9 (by simp [lePs]) ?_
 simp (maxSteps := 3000000) [go_sem,-List.length_flatten,-List.map_drop,-List.map_take, Kc]
 refine PF.call hnd 9 (by simp [lePs]) ?_
 have hfl := fl_len nd3 out
 have hap := app_fl nd3 out [x]
 rw [show fl Nd.cs [x] = [i64 x.kind, .str x.name, i64 x.n] by simp [fl]] at hap
 have hoA : out.length + 1 ≤ maxA := by unfold maxA; omega
 have hlA : lf.length + t.args.length ≤ maxA := by unfold maxA; omega
 by_cases hargs : t.args = []
 ·simp (maxSteps := 3000000) [go_sem,-List.length_flatten,-List.map_drop,-List.map_take, Kc, hfl, hap, hoA, hargs]
  intros
  exact ⟨⟨by simp [RLB], rlb_kd, by simp [RLB], by simp [RLB], rlb_i64s2, by simp [RLB], rlb_nds⟩, junk, rfl⟩
 ·simp (maxSteps := 3000000) [go_sem,-List.length_flatten,-List.map_drop,-List.map_take, Kc, hfl, hap, hoA, hargs, hlA, flat_i64s]
  intros
  exact ⟨by simp [RLB], rlb_kd, by simp [RLB], by simp [RLB], rlb_i64s2, by simp [RLB], rlb_nds⟩
theorem layBad_FT {l : List Sg} {a : Kd} {names : List ByteArray} {out : List Nd} {lf junk : List Int} {g1 g2 : Nat} {n : Int} (hin : (termAt a n).2 = false) :
  FT Tryz.prog 34 [i64 n, .ptr 1 0 0, .ptr 0 0 0, .ptr 2 0 0, .ptr 3 0 0, .ptr 5 0 0] (ndH l a names out lf junk g1 g2) (fun rv H' => rv = i64 1 ∧ H' = ndH l a names out lf junk g1 g2) := by
 refine FTt hm Tryz.func34 c34_ok (Nat.le_of_ble_eq_true rfl) ?_
 have htm := termAt_PF a n
 rw [hin] at htm
 simp (maxSteps := 3000000) [go_sem,-List.length_flatten,-List.map_drop,-List.map_take, c34]
 refine PF.call htm 9 (by simp [lePs]) ?_
 simp (maxSteps := 3000000) [go_sem,-List.length_flatten,-List.map_drop,-List.map_take, Kc]
 exact ⟨by simp [RLB], rlb_kd, by simp [RLB], by simp [RLB], rlb_i64s2, by simp [RLB], rlb_nds⟩
end Go.AM

namespace Go.AM
open Go.Proofs
set_option maxRecDepth 100000
set_option linter.unusedVariables false
set_option linter.unusedSimpArgs false
attribute [local go_sem] Function.comp_def argsT Opd.ev Tm.get put ares mapMo ares1 snilP bldParts bslParts putAt AV.cells AV.one astore aload loadCs callArgs abin abinInt aapp elems appMore appNone preLen aFa aFld apart aExt aPick aNot aLens aEqa cellsK fitsA LK.fitsA leavesA leafA nilD aNilc aCint aCid alive alen alenOk Rle lePs len_flat
def c13b : AFn := ⟨77, .seq (.reg false [⟨some 4, .box (.tmp 0), none⟩, ⟨some 5, .box (.tmp 1), none⟩, ⟨some 6, .box (.tmp 2), none⟩, ⟨some 8, .mov (.lit .nilS), none⟩, ⟨some 9, .mov (.lit (.int .i64 0)), none⟩]) (.seq (.reg false [⟨some 10, .alloc [.nilS], none⟩]) (.seq (.reg false [⟨some 21, .mov (.tmp 3), none⟩, ⟨some 22, .bsloc 1 1 [.int .i64 0] [(0, .tmp 21)], none⟩, ⟨some 11, .alloc [.nilS], none⟩, ⟨none, .store 1 (.tmp 11) (.tmp 22), none⟩]) (.seq (.reg false [⟨some 23, .mkfn (.func 34) [] [.tmp 5, .tmp 4, .tmp 6, .tmp 10, .tmp 11], none⟩, ⟨some 12, .mov (.tmp 23), none⟩]) (.seq (.seq (.reg false [⟨some 24, .load 2 true (.tmp 5), none⟩, ⟨some 25, .mov (.tmp 3), none⟩, ⟨some 26, .call (.lit (.fn (.func 37) [] [])) [.tmp 24, .tmp 25], none⟩, ⟨some 27, .len (.tmp 26), none⟩, ⟨some 28, .mov (.lit (.int .i64 0)), none⟩]) (.block 0 (.loop (.seq (.reg false [⟨some 29, .bin .lss (.tmp 28) (.tmp 27), none⟩]) (.seq (.cond (.tmp 29) .skip (.exit 0)) (.seq (.block 1 (.seq (.reg false [⟨some 30, .ia 1 (.tmp 26) (.tmp 28), none⟩, ⟨some 31, .load 1 false (.tmp 30), none⟩, ⟨some 14, .mov (.tmp 31), none⟩]) (.seq (.reg false [⟨some 33, .load 2 true (.tmp 5), none⟩, ⟨some 34, .mov (.tmp 14), none⟩, ⟨some 35, .call (.lit (.fn (.func 35) [] [])) [.tmp 33, .tmp 34], none⟩, ⟨some 32, .mov (.tmp 35), none⟩, ⟨some 36, .ext (.tmp 32) 0, none⟩, ⟨some 37, .ext (.tmp 32) 1, none⟩, ⟨some 15, .alloc [.int .i64 0, .int .i64 0, .int .i64 0, .nilS], none⟩, ⟨none, .store 4 (.tmp 15) (.tmp 36), none⟩, ⟨some 16, .mov (.tmp 37), none⟩]) (.seq (.reg false [⟨some 39, .load 1 false (.tmp 4), none⟩, ⟨some 40, .load 1 false (.tmp 6), none⟩, ⟨some 41, .load 4 true (.tmp 15), none⟩, ⟨some 42, .call (.lit (.fn (.func 36) [] [])) [.tmp 39, .tmp 40, .tmp 41], none⟩, ⟨some 38, .mov (.tmp 42), none⟩, ⟨some 43, .ext (.tmp 38) 0, none⟩, ⟨some 44, .ext (.tmp 38) 1, none⟩, ⟨some 17, .alloc [.int .i64 0, .str ⟨#[]⟩, .int .i64 0], none⟩, ⟨none, .store 3 (.tmp 17) (.tmp 43), none⟩, ⟨some 18, .mov (.tmp 44), none⟩]) (.seq (.reg false [⟨some 45, .mov (.tmp 18), none⟩, ⟨some 46, .not (.tmp 45), none⟩]) (.cond (.tmp 46) (.seq (.reg false [⟨some 8, .mov (.lit .nilS), none⟩, ⟨some 9, .mov (.lit (.int .i64 1)), none⟩]) .ret) .skip)))))) (.reg false [⟨some 47, .bin .add (.tmp 28) (.lit (.int .i64 1)), none⟩, ⟨some 28, .mov (.tmp 47), none⟩]))))))) (.seq (.block 2 (.loop (.seq (.seq (.reg false [⟨some 48, .load 1 false (.tmp 11), none⟩, ⟨some 49, .len (.tmp 48), none⟩, ⟨some 50, .bin .gtr (.tmp 49) (.lit (.int .i64 0)), none⟩]) (.cond (.tmp 50) .skip (.exit 2))) (.block 3 (.seq (.reg false [⟨some 51, .load 1 false (.tmp 11), none⟩, ⟨some 52, .load 1 false (.tmp 11), none⟩, ⟨some 53, .len (.tmp 52), none⟩, ⟨some 54, .bin .sub (.tmp 53) (.lit (.int .i64 1)), none⟩, ⟨some 55, .ia 1 (.tmp 51) (.tmp 54), none⟩, ⟨some 56, .load 1 false (.tmp 55), none⟩, ⟨some 19, .mov (.tmp 56), none⟩]) (.seq (.reg false [⟨some 57, .load 1 false (.tmp 11), none⟩, ⟨some 58, .load 1 false (.tmp 11), none⟩, ⟨some 59, .len (.tmp 58), none⟩, ⟨some 60, .bin .sub (.tmp 59) (.lit (.int .i64 1)), none⟩, ⟨some 61, .slc 1 (.tmp 57) none (some (.tmp 60)) none, none⟩, ⟨none, .store 1 (.tmp 11) (.tmp 61), none⟩]) (.seq (.seq (.reg false [⟨some 62, .mov (.tmp 12), none⟩, ⟨some 63, .mov (.tmp 19), none⟩, ⟨some 64, .call (.tmp 62) [.tmp 63], none⟩, ⟨some 20, .mov (.tmp 64), none⟩]) (.seq (.reg false [⟨some 65, .mov (.tmp 20), none⟩, ⟨some 66, .bin .neq (.tmp 65) (.lit (.int .i64 0)), none⟩]) (.cond (.tmp 66) (.seq (.reg false [⟨some 67, .mov (.tmp 20), none⟩, ⟨some 8, .mov (.lit .nilS), none⟩, ⟨some 9, .mov (.tmp 67), none⟩]) .ret) .skip))) (.seq (.reg false [⟨some 68, .load 1 false (.tmp 10), none⟩, ⟨some 69, .len (.tmp 68), none⟩, ⟨some 70, .bin .gtr (.tmp 69) (.lit (.int .i64 300)), none⟩]) (.cond (.tmp 70) (.seq (.reg false [⟨some 8, .mov (.lit .nilS), none⟩, ⟨some 9, .mov (.lit (.int .i64 7)), none⟩]) .ret) .skip))))))))) (.seq (.reg false [⟨some 71, .load 1 false (.tmp 10), none⟩, ⟨some 72, .call (.lit (.fn (.func 38) [] [])) [.tmp 71], none⟩]) (.seq (.seq (.reg false [⟨some 73, .load 1 false (.tmp 10), none⟩, ⟨some 74, .call (.lit (.fn (.func 39) [] [])) [.tmp 73], none⟩, ⟨some 75, .not (.tmp 74), none⟩]) (.cond (.tmp 75) (.seq (.reg false [⟨some 8, .mov (.lit .nilS), none⟩, ⟨some 9, .mov (.lit (.int .i64 7)), none⟩]) .ret) .skip)) (.seq (.reg false [⟨some 76, .load 1 false (.tmp 10), none⟩, ⟨some 8, .mov (.tmp 76), none⟩, ⟨some 9, .mov (.lit (.int .i64 0)), none⟩]) .ret)))))))), [.tmp 8, .tmp 9]⟩

@[simp] theorem aSlc_loc_hi {H : AHeap} {i g off len sz sz' : Nat} {c : Bool} {q : IntKind} {n : Int} :
  aSlc H sz (.loc i g off len sz' c) none (some (.int q n)) none = if (sz' = sz ∧ alive H i g = true) ∧ 0 ≤ n ∧ n ≤ len then some (.loc i g off n.toNat sz (c && n.toNat == len)) else none := by
 unfold aSlc
 by_cases hs : sz' = sz ∧ alive H i g = true
 ·by_cases h : 0 ≤ n ∧ n ≤ len
  ·simp [hs, h, aint]
  ·simp only [hs, aint, if_true, if_neg h]
   simp [h]
 ·simp [hs]
structure SF (l : List Sg) (a : Kd) : Prop where
 ain : argsIn a
 len : a.keys.length ≤ 1048576
 fit : ∀ i : Nat, i < a.keys.length → (termAt a i).2 = true ∧ tmFit l (termAt a i).1 ∧ (termAt a i).1.args.length ≤ 8
def unnamed (l : List Sg) (a : Kd) (names : List ByteArray) (k : Int) : Bool := !(ndT l names (termAt a k).1).2
noncomputable def nodesP (l : List Sg) (a : Kd) (names : List ByteArray) (id : Int) : List Nd × Int :=
 if id < 0 ∨ a.keys.length ≤ id then ([], 1)
 else if ∃ k ∈ belowP a id, unnamed l a names k = true then ([], 1)
 else if 300 < (treeN l a names id).length then ([], 7)
 else if rightN (treeN l a names id) = false then ([], 7)
 else (treeN l a names id, 0)
theorem tree_rev {l : List Sg} {a : Kd} {names : List ByteArray} (ha : argsIn a) {n : Nat} (hn : n < a.keys.length) : (treeN l a names n).reverse = (ndT l names (termAt a n).1).1 :: (termAt a n).1.args.reverse.flatMap fun x => (treeN l a names x).reverse := by
 rw [treeN_eq ha hn, List.reverse_append, List.reverse_flatMap]
 simp [Function.comp_def]
theorem chunk_nds {l : List Nd} : chunk 3 (fl Nd.cs l) l.length = l.map Nd.cs := chunk_fl nd3 l
def an13 : An := ⟨[22], []⟩
theorem c13_ok : cFn Tryz.prog an13 Tryz.f13 = some c13b := by kernel_rfl
abbrev layF : AV := .fn (.func 34) [] [.ptr 1 0 0, .ptr 0 0 0, .ptr 2 0 0, .ptr 3 0 0, .ptr 5 0 0]
theorem mem_belowP {a : Kd} {id : Int} {k : Int} (ha : argsIn a) (hk : k ∈ belowP a id) : 0 ≤ k ∧ k < a.keys.length ∧ 0 ≤ id ∧ id < a.keys.length ∧ Rch a id.toNat k := by
 by_cases h : id < 0 ∨ a.keys.length ≤ id
 ·simp only [belowP, if_pos h] at hk
  cases hk
 ·obtain ⟨n, rfl⟩ : ∃ n : Nat, id = n := ⟨id.toNat, by omega⟩
  rw [belowP_up ha (by omega), mem_upTo] at hk
  have := rch_le ha (by omega) hk.2
  exact ⟨by omega, by omega, by omega, by omega, hk.2⟩
set_option maxHeartbeats 4000000 in
theorem nodes_PF {l : List Sg} {a : Kd} (hsf : SF l a) (names : List ByteArray) (id : Int) : PF Tryz.prog 13 [sigs l, .agg a.cs, strs names, i64 id] (.tuple [nds (nodesP l a names id).1, i64 (nodesP l a names id).2]) := by
 refine PFk 9 hm Tryz.func13 c13_ok (Nat.le_of_ble_eq_true rfl) (by simp) (by simp) ?_
 generalize hQ : Rle 9 (.tuple [nds (nodesP l a names id).1, i64 (nodesP l a names id).2]) = Q
 have hbl := below_PF a hsf.ain hsf.len id
 have hmem := fun k (hk : k ∈ belowP a id) => mem_belowP hsf.ain hk
 have hkl : (belowP a id).length ≤ 1048577 := by
  by_cases h : id < 0 ∨ a.keys.length ≤ id
  ·simp [belowP, h]
  ·simp only [belowP, if_neg h, List.length_reverse]
   have := belowS_out a id.toNat (id.toNat + 1)
   have := hsf.len
   omega
 generalize hks : belowP a id = ks at *
 simp (maxSteps := 3000000) [go_sem,-List.length_flatten,-List.map_drop,-List.map_take, c13b]
 refine PF.call hbl 9 (by simp [lePs]) ?_
 simp (maxSteps := 3000000) [go_sem,-List.length_flatten,-List.map_drop,-List.map_take, Kc]
 intro hA
 refine run_loopK (fun m T H => ∃ q : Nat, m = ks.length - q ∧ q ≤ ks.length ∧ (∀ j : Nat, j < q → unnamed l a names (gi ks j) = false) ∧ T = [(28, i64 q), (27, i64 ks.length), (26, ints ks), (12, layF), (4, .ptr 0 0 0), (5, .ptr 1 0 0), (6, .ptr 2 0 0), (10, .ptr 3 0 0), (11, .ptr 5 0 0)] ∧ H = [.cells 0 [sigs l], .cells 0 a.cs, .cells 0 [strs names], .cells 0 [.nilS], .cells 0 [i64 id], .cells 0 [.loc 4 0 0 1 1 false]]) ks.length
  [(28, i64 (0 : Nat)), (27, i64 ks.length), (26, ints ks), (12, layF), (4, .ptr 0 0 0), (5, .ptr 1 0 0), (6, .ptr 2 0 0), (10, .ptr 3 0 0), (11, .ptr 5 0 0)] [.cells 0 [sigs l], .cells 0 a.cs, .cells 0 [strs names], .cells 0 [.nilS], .cells 0 [i64 id], .cells 0 [.loc 4 0 0 1 1 false]]
  (Wk.tell 6 (by omega) (by simp [Tm.get]) (by simp) (by simp) (by simp [RLB])) ⟨0, rfl, by omega, fun j hj => by omega, rfl, rfl⟩ ?_
 rintro m T H ⟨q, rfl, hq, hjq, rfl, rfl⟩ KK kx kr kn
 by_cases h : q < ks.length
 ·have hk := hmem (gi ks q) (by simp [gi, List.getD, h])
  obtain ⟨z, hz⟩ : ∃ z : Nat, gi ks q = z := ⟨(gi ks q).toNat, by omega⟩
  have hfit := hsf.fit z (by omega)
  rw [← hz] at hfit
  have htm := termAt_PF a (gi ks q)
  have hnd := node_PF l names (termAt a (gi ks q)).1 hfit.2.1
  simp (maxSteps := 3000000) [go_sem,-List.length_flatten,-List.map_drop,-List.map_take, h]
  refine PF.call htm 9 (by simp [lePs]) ?_
  simp (maxSteps := 3000000) [go_sem,-List.length_flatten,-List.map_drop,-List.map_take, Kc]
  refine PF.call hnd 9 (by simp [lePs]) ?_
  cases hn : (ndT l names (termAt a (gi ks q)).1).2 with
  | false =>
   have hr : nodesP l a names id = ([], 1) := by
    unfold nodesP
    rw [if_neg (by omega), hks, if_pos ⟨gi ks q, by simp [gi, List.getD, h], by simp [unnamed, hn]⟩]
   simp (maxSteps := 3000000) [go_sem,-List.length_flatten,-List.map_drop,-List.map_take, Kc, hn, kr]
   rw [← hQ, hr]
   simp (maxSteps := 3000000) [go_sem,-List.length_flatten,-List.map_drop,-List.map_take]
  | true =>
   simp (maxSteps := 3000000) [go_sem,-List.length_flatten,-List.map_drop,-List.map_take, Kc, hn]
   refine kn _ _ (Kl_next (ks.length - (q + 1)) 6 (by omega) ⟨q + 1, rfl, h, all_next hjq (by simp [unnamed, hn]), rfl, rfl⟩ (by simp [Tm.get, nxt h hA]) (by simp) rfl (by simp [RLB]) (by omega))
 ·have e : q = ks.length := by omega
  subst e
  have hun : ∀ k ∈ ks, unnamed l a names k = false := fun k hk => by
   obtain ⟨j, h1, h2⟩ := List.getElem_of_mem hk
   have := hjq j h1
   simpa [gi, List.getD, h1, h2] using this
  simp (maxSteps := 3000000) [go_sem,-List.length_flatten,-List.map_drop,-List.map_take, h, kx]
  by_cases hid : id < 0 ∨ a.keys.length ≤ id
  ·have hr : nodesP l a names id = ([], 1) := by unfold nodesP; rw [if_pos hid]
   have hin : (termAt a id).2 = false := by
    unfold termAt
    rw [if_pos (by omega)]
   refine run_loopK (fun m T H => m = 1 ∧ T = [(12, layF), (10, .ptr 3 0 0), (11, .ptr 5 0 0)] ∧ H = ndH l a names [] [id] [] 0 0) 1
    [(12, layF), (10, .ptr 3 0 0), (11, .ptr 5 0 0)] (ndH l a names [] [id] [] 0 0)
    ((Wk.sub (by simp [Tm.get])).trans (Wk.own.trans (Wk.nilAt 3 0 6 3 (g := 0) (cs := [.nilS]) rfl rfl rfl))) ⟨rfl, rfl, rfl⟩ ?_
   rintro m T H ⟨rfl, rfl, rfl⟩ KK2 kx2 kr2 kn2
   have hw0 : IntKind.i64.wrap 0 = 0 := rfl
   simp (maxSteps := 3000000) [go_sem,-List.length_flatten,-List.map_drop,-List.map_take, hw0]
   intros
   refine (layBad_FT (l := l) (a := a) (names := names) (out := []) (lf := []) (junk := [id]) (g1 := 0) (g2 := 0) hin).mono ?_
   rintro _ _ ⟨rfl, rfl⟩
   simp (maxSteps := 3000000) [go_sem,-List.length_flatten,-List.map_drop,-List.map_take, Kc, kr2]
   rw [← hQ, hr]
   simp (maxSteps := 3000000) [go_sem,-List.length_flatten,-List.map_drop,-List.map_take]
  ·obtain ⟨n, rfl⟩ : ∃ n : Nat, id = n := ⟨id.toNat, by omega⟩
   have hn : n < a.keys.length := by omega
   have hrk : ∀ x, Rch a n x → unnamed l a names x = false := fun x hx => by
    have := rch_le hsf.ain hn hx
    refine hun x ?_
    rw [← hks, belowP_up hsf.ain hn, mem_upTo]
    exact ⟨by omega, hx⟩
   have hr0 : nodesP l a names n = if 300 < (treeN l a names n).length then ([], 7) else if rightN (treeN l a names n) = false then ([], 7) else (treeN l a names n, 0) := by
    unfold nodesP
    rw [if_neg hid, if_neg (fun ⟨k, h1, h2⟩ => by rw [hks] at h1; rw [hun k h1] at h2; cases h2)]
   clear hjq kn kx kr hmem hbl hkl hA hq h hun
   refine run_loopK (fun m T H => ∃ (out : List Nd) (lf junk : List Int) (g1 g2 : Nat), m = 301 - out.length ∧ out.length ≤ 300 ∧ lf.length ≤ 1 + 8 * out.length ∧ (∀ x ∈ lf, Rch a n x) ∧ out ++ lf.reverse.flatMap (fun x => (treeN l a names x).reverse) = (treeN l a names n).reverse ∧ T = [(12, layF), (10, .ptr 3 0 0), (11, .ptr 5 0 0)] ∧ H = ndH l a names out lf junk g1 g2) 301
    [(12, layF), (10, .ptr 3 0 0), (11, .ptr 5 0 0)] (ndH l a names [] [(n : Int)] [] 0 0)
    ((Wk.sub (by simp [Tm.get])).trans (Wk.own.trans (Wk.nilAt 3 0 6 3 (g := 0) (cs := [.nilS]) rfl rfl rfl))) ⟨[], [(n : Int)], [], 0, 0, rfl, by simp, by simp, fun x hx => by simp at hx; subst hx; exact .self, by simp, rfl, rfl⟩ ?_
   rintro m T H ⟨out, lf, junk, g1, g2, rfl, ho, hlf, hrl, htr, rfl, rfl⟩ KK2 kx2 kr2 kn2
   rcases List.eq_nil_or_concat lf with rfl | ⟨lf', x, rfl⟩
   ·simp only [List.reverse_nil, List.flatMap_nil, List.append_nil] at htr
    have hlen : out.length = (treeN l a names n).length := by rw [htr]; simp
    have hrev : out.reverse = treeN l a names n := by rw [htr]; simp
    rw [if_neg (by omega)] at hr0
    simp (maxSteps := 3000000) [go_sem,-List.length_flatten,-List.map_drop,-List.map_take, kx2]
    refine (rev38_FT out (by unfold maxA; omega) false 6 g1 _ rfl (al_mem (p := RLB 7) ndH_rl)).mono ?_
    rintro _ _ ⟨rfl, rfl⟩
    rw [hrev]
    generalize treeN l a names n = tr at *
    have hch : chunk 3 (fl Nd.cs tr) out.length = tr.map Nd.cs := by rw [hlen]; exact chunk_nds
    have hfl : out.length * 3 ≤ (fl Nd.cs tr).length := by rw [fl_len nd3, hlen]; exact Nat.le_refl _
    simp (maxSteps := 3000000) [go_sem,-List.length_flatten,-List.map_drop,-List.map_take, Kc]
    refine PF.borrow (right39_PF tr (by omega)) 9 9 rfl (by simp [lePs, hch, hfl]) ?_
    cases hrt : rightN tr with
    | false =>
     rw [hrt] at hr0
     simp (maxSteps := 3000000) [go_sem,-List.length_flatten,-List.map_drop,-List.map_take, Kc]
     rw [← hQ, hr0]
     simp (maxSteps := 3000000) [go_sem,-List.length_flatten,-List.map_drop,-List.map_take]
    | true =>
     rw [hrt] at hr0
     simp (maxSteps := 3000000) [go_sem,-List.length_flatten,-List.map_drop,-List.map_take, Kc]
     rw [← hQ, hr0]
     simp (maxSteps := 3000000) [go_sem,-List.length_flatten,-List.map_drop,-List.map_take, hch, hfl]
   ·simp only [List.concat_eq_append] at *
    have hx := hrl x (by simp)
    have hxl := rch_le hsf.ain hn hx
    have hxn := hrk x hx
    obtain ⟨z, rfl⟩ : ∃ z : Nat, x = z := ⟨x.toNat, by omega⟩
    obtain ⟨f1, f2, f3⟩ := hsf.fit z (by omega)
    have hnm : (ndT l names (termAt a z).1).2 = true := by simpa [unnamed] using hxn
    have hlx : lf'.length + 1 = (lf' ++ [(z : Int)]).length := by simp
    have hjx : lf' ++ [(z : Int)] ++ junk = lf' ++ ((z : Int) :: junk) := by simp
    have hld := loadCs_drop (f := fun n : Int => AV.int IntKind.i64 n) (l := lf' ++ ((z : Int) :: junk)) (k := lf'.length) (by simp)
    have hgz : gi (lf' ++ ((z : Int) :: junk)) (lf'.length : Int) = z := by simp [gi, List.getD]
    rw [hgz] at hld
    simp only [List.length_append, List.length_cons, List.length_nil] at hlf
    have hw1 : IntKind.i64.wrap ((lf'.length : Int)) = (lf'.length : Int) := w64 (by omega) (by omega)
    have hly := lay_FT (l := l) (a := a) (names := names) (out := out) (lf := lf') (junk := (z : Int) :: junk) (g1 := g1) (g2 := g2) (n := z) f2 f1 hnm (by omega) (by omega) (by omega)
    have e2 := tree_rev (l := l) (names := names) hsf.ain (n := z) (by omega)
    rw [List.reverse_append, List.flatMap_append] at htr
    simp only [List.reverse_cons, List.reverse_nil, List.nil_append, List.flatMap_cons, List.flatMap_nil, List.append_nil, e2] at htr
    have hsx : ∀ y ∈ lf' ++ (termAt a (z : Int)).1.args, Rch a n y := fun y hy => by
     rcases List.mem_append.1 hy with hy | hy
     ·exact hrl y (by simp [hy])
     ·exact .arg hx hy
    show run _ _ _ _ _ [.cells 0 [sigs l], .cells 0 a.cs, .cells 0 [strs names], .cells 0 [.loc 6 g1 0 out.length 3 false], .cells g2 (i64s (lf' ++ [(z : Int)] ++ junk)), .cells 0 [.loc 4 g2 0 (lf' ++ [(z : Int)]).length 1 false], .cells g1 (fl Nd.cs out)]
    rw [hjx, ← hlx]
    simp (maxSteps := 3000000) [go_sem,-List.length_flatten,-List.map_drop,-List.map_take, hw1]
    intros
    refine ⟨by omega, fun _ => ⟨by omega, ?_⟩⟩
    have hcs : List.map (fun n => AV.int IntKind.i64 n) lf' ++ AV.int IntKind.i64 z :: List.map (fun n => AV.int IntKind.i64 n) junk = i64s (lf' ++ (z : Int) :: junk) := by simp
    rw [hcs]
    refine hly.mono ?_
    rintro _ _ ⟨rfl, g1', g2', junk', rfl⟩
    have hl2 : (lf' ++ (termAt a (z : Int)).1.args).length ≤ 1 + 8 * (out.length + 1) := by simp; omega
    have htr2 : (out ++ [(ndT l names (termAt a (z : Int)).1).1]) ++ (lf' ++ (termAt a (z : Int)).1.args).reverse.flatMap (fun x => (treeN l a names x).reverse) = (treeN l a names n).reverse := by
     rw [← htr, List.reverse_append, List.flatMap_append]
     simp
    have ho2 : (out ++ [(ndT l names (termAt a (z : Int)).1).1]).length = out.length + 1 := by simp
    generalize out ++ [(ndT l names (termAt a (z : Int)).1).1] = out2 at *
    generalize lf' ++ (termAt a (z : Int)).1.args = lf2 at *
    have hln : out2.length ≤ (treeN l a names n).length := by
     have := congrArg List.length htr2
     simp only [List.length_append, List.length_reverse] at this
     omega
    by_cases h3 : out2.length ≤ 300
    ·have h3' : ¬ (300 : Int) < (out2.length : Int) := by omega
     simp (maxSteps := 3000000) [go_sem,-List.length_flatten,-List.map_drop,-List.map_take, Kc, h3']
     intros
     exact kn2 _ _ (Kl_next (301 - out2.length) 7 (by omega) ⟨out2, lf2, junk', g1', g2', rfl, h3, by omega, hsx, htr2, rfl, rfl⟩ (by simp [Tm.get]) (by simp) (by simp) ndH_rl (by omega))
    ·have h3' : (300 : Int) < (out2.length : Int) := by omega
     rw [if_pos (by omega)] at hr0
     simp (maxSteps := 3000000) [go_sem,-List.length_flatten,-List.map_drop,-List.map_take, Kc, h3', kr2]
     intros
     rw [← hQ, hr0]
     simp (maxSteps := 3000000) [go_sem,-List.length_flatten,-List.map_drop,-List.map_take]

end Go.AM
