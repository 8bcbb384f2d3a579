/- Contracts of the program's functions. -/
import Derived.Test.YtkkeepdlocmgjaaGreatE2
import Derived.KernelRfl
namespace Go.AM
open Go.Proofs
set_option maxRecDepth 100000
set_option linter.unusedVariables false
set_option linter.unusedSimpArgs false
/-! ### The machine -/
structure Cl where
 loc : Int
 kind : Int
 v : Int
 deriving Inhabited, DecidableEq
abbrev Cl.cs (c : Cl) : List AV := [i64 c.loc, i64 c.kind, i64 c.v]
structure Ps where
 body : Int
 at' : Int
 call : Int
 deriving Inhabited, DecidableEq
abbrev Ps.cs (c : Ps) : List AV := [i64 c.body, i64 c.at', i64 c.call]
abbrev wk (gc gs nc ns : Nat) (eV : AV) (h : Int) (p : Pg) (at' : Int) (s : Stm) : List AV :=
 [.loc 3 gc 0 nc 3 false, .loc 4 gs 0 ns 3 false, eV, i64 h, fns p.funs, stms p.l, strs (varsOf p), i64 at', i64 s.kind, i64 s.inn, .str s.x, .str s.y, strs s.args, i64 s.n]
abbrev wh (b0 b1 b2 : ABlk) (gc gs : Nat) (cs : List Cl) (st : List Ps) (ns : Nat) (eV : AV) (h : Int) (p : Pg) (at' : Int) (s : Stm) : AHeap :=
 [b0, b1, b2, .cells gc (cs.map Cl.cs).flatten, .cells gs (st.map Ps.cs).flatten, .cells 0 (wk gc gs cs.length ns eV h p at' s)]
def ix (p : Pg) (name : ByteArray) : Int := fstAt (fun x => decide (x = name)) (varsOf p)
theorem index73_PF (l : List ByteArray) (s : ByteArray) : PF Tryz.prog 78 [strs l, .str s] (i64 (fstAt (fun x => decide (x = s)) l)) := by
 refine PFk 9 hm Tryz.func78 c78_ok (Nat.le_of_ble_eq_true rfl) (by simp) (by simp) ?_
 simp (maxSteps := 3000000) [-List.length_flatten,-List.map_drop,-List.map_take,Function.comp_def,argsT,Opd.ev,Tm.get,put,ares,mapMo,ares1,snilP,bldParts,bslParts,putAt,AV.cells,AV.one,astore,aload,loadCs,callArgs,abin,abinInt,aapp,elems,appMore,appNone,preLen,aFa,aFld,apart,aExt,aPick,aNot,aLens,aEqa,cellsK,fitsA,LK.fitsA,leavesA,leafA,nilD,aNilc,aCint,aCid,alive,alen,alenOk,Rle,lePs,len_flat, c78]
 intro ha
 refine run_countK l.length 8 [(7, i64 l.length), (0, strs l), (1, .str s)] [] (fun i => ∀ j : Nat, j < i → ¬ gi l j = s) (Wk.sub (by simp [Tm.get])) (fun j hj => by omega) ?_
 intro i hi hj KK kx kr kn
 by_cases h : i < l.length
 ·by_cases he : s = gi l i
  ·simp (maxSteps := 3000000) [-List.length_flatten,-List.map_drop,-List.map_take,Function.comp_def,argsT,Opd.ev,Tm.get,put,ares,mapMo,ares1,snilP,bldParts,bslParts,putAt,AV.cells,AV.one,astore,aload,loadCs,callArgs,abin,abinInt,aapp,elems,appMore,appNone,preLen,aFa,aFld,apart,aExt,aPick,aNot,aLens,aEqa,cellsK,fitsA,LK.fitsA,leavesA,leafA,nilD,aNilc,aCint,aCid,alive,alen,alenOk,Rle,lePs,len_flat, h, he, kr]
   exact (fstAt_some h (by simp [he]) (fun j hl => by have := hj j hl; rw [he] at this; simpa using this)).symm
  ·simp (maxSteps := 3000000) [-List.length_flatten,-List.map_drop,-List.map_take,Function.comp_def,argsT,Opd.ev,Tm.get,put,ares,mapMo,ares1,snilP,bldParts,bslParts,putAt,AV.cells,AV.one,astore,aload,loadCs,callArgs,abin,abinInt,aapp,elems,appMore,appNone,preLen,aFa,aFld,apart,aExt,aPick,aNot,aLens,aEqa,cellsK,fitsA,LK.fitsA,leavesA,leafA,nilD,aNilc,aCint,aCid,alive,alen,alenOk,Rle,lePs,len_flat, h, he]
   refine kn _ _ (Kn_next 0 (by omega) (by omega) (fun j hl => ?_) (by simp [Tm.get, nxt h ha]) (by simp) rfl (by simp))
   rcases Nat.lt_or_ge j i with h3 | h3
   ·exact hj j h3
   ·have : j = i := by omega
    subst this
    exact fun e => he e.symm
 ·simp (maxSteps := 3000000) [-List.length_flatten,-List.map_drop,-List.map_take,Function.comp_def,argsT,Opd.ev,Tm.get,put,ares,mapMo,ares1,snilP,bldParts,bslParts,putAt,AV.cells,AV.one,astore,aload,loadCs,callArgs,abin,abinInt,aapp,elems,appMore,appNone,preLen,aFa,aFld,apart,aExt,aPick,aNot,aLens,aEqa,cellsK,fitsA,LK.fitsA,leavesA,leafA,nilD,aNilc,aCint,aCid,alive,alen,alenOk,Rle,lePs,len_flat, h, kx]
  exact (fstAt_none (fun j hl => by simpa using hj j (by omega))).symm
theorem flat_at {α : Type} [Inhabited α] {f : α → List AV} {sz : Nat} (h : ∀ x, (f x).length = sz) {l : List α} {i : Int} (h0 : 0 ≤ i) (hi : i < l.length) : ((l.map f).flatten.drop (i.toNat * sz)).take sz = f (gi l i) := by
 have hk : i.toNat < l.length := by omega
 rw [drop_flat h, List.drop_eq_getElem_cons hk]
 simp only [List.map_cons, List.flatten_cons]
 rw [List.take_left' (h _)]
 simp [gi, List.getD, hk]
def holdF (cs : List Cl) (to : Int) (c : Cl) : List Cl := cs.set to.toNat ⟨(gi cs to).loc, c.kind, c.v⟩
theorem set_flat (c : Cl) : ∀ (cs : List Cl) (k : Nat), k < cs.length → (((cs.map Cl.cs).flatten.set (k * 3 + 1) (i64 c.kind)).set (k * 3 + 2) (i64 c.v)) = ((cs.set k ⟨(cs.getD k default).loc, c.kind, c.v⟩).map Cl.cs).flatten
 | x :: cs, 0, h => by simp
 | x :: cs, k + 1, h => by
  have ih := set_flat c cs k (by simpa using h)
  rw [show (k + 1) * 3 + 1 = (k * 3 + 1) + 3 by omega, show (k + 1) * 3 + 2 = (k * 3 + 2) + 3 by omega]
  simp only [List.map_cons, List.flatten_cons, List.set_cons_succ, List.cons_append, List.nil_append, ih, List.getD_cons_succ]
 | [], k, h => by simp at h
section
variable {b0 b1 b2 : ABlk} {gc gs : Nat} {cs : List Cl} {st : List Ps} {ns : Nat} {eV : AV} {h : Int} {p : Pg} {at' : Int} {s : Stm}
theorem cell_FT {H : AHeap} {nc : Nat} (name : ByteArray) (hH : H[5]? = some (.cells 0 (wk gc gs nc ns eV h p at' s))) : FT Tryz.prog 52 [.ptr 5 0 0, .str name] H fun rv H' => rv = i64 (ix p name) ∧ H' = H := by
 refine FTk hm Tryz.func52 c52_ok (Nat.le_of_ble_eq_true rfl) ?_
 simp (maxSteps := 3000000) [-List.length_flatten,-List.map_drop,-List.map_take,Function.comp_def,argsT,Opd.ev,Tm.get,put,ares,mapMo,ares1,snilP,bldParts,bslParts,putAt,AV.cells,AV.one,astore,aload,loadCs,callArgs,abin,abinInt,aapp,elems,appMore,appNone,preLen,aFa,aFld,apart,aExt,aPick,aNot,aLens,aEqa,cellsK,fitsA,LK.fitsA,leavesA,leafA,nilD,aNilc,aCint,aCid,alive,alen,alenOk,Rle,lePs,len_flat, c52, hH]
 refine PF.call (index73_PF (varsOf p) name) 9 (by simp [lePs, -List.length_flatten, -List.map_drop, -List.map_take, Function.comp_def, len_flat]) ?_
 simp (maxSteps := 3000000) [-List.length_flatten,-List.map_drop,-List.map_take,Function.comp_def,argsT,Opd.ev,Tm.get,put,ares,mapMo,ares1,snilP,bldParts,bslParts,putAt,AV.cells,AV.one,astore,aload,loadCs,callArgs,abin,abinInt,aapp,elems,appMore,appNone,preLen,aFa,aFld,apart,aExt,aPick,aNot,aLens,aEqa,cellsK,fitsA,LK.fitsA,leavesA,leafA,nilD,aNilc,aCint,aCid,alive,alen,alenOk,Rle,lePs,len_flat, Kc]
 rfl
theorem wk_RL {gc gs nc ns n : Nat} {eV : AV} {h : Int} {p : Pg} {at' : Int} {s : Stm} (hn : 5 ≤ n) (he : RL n eV) : ∀ y ∈ wk gc gs nc ns eV h p at' s, RL n y := by
 simp
 exact ⟨by omega, by omega, he⟩
theorem wh_RLB (n : Nat) (hn : 6 ≤ n) (h0 : RLB n b0) (h1 : RLB n b1) (h2 : RLB n b2) (he : RL n eV) : ∀ b ∈ wh b0 b1 b2 gc gs cs st ns eV h p at' s, RLB n b := by
 intro b hb
 simp only [List.mem_cons, List.not_mem_nil, or_false] at hb
 rcases hb with rfl | rfl | rfl | rfl | rfl | rfl
 ·exact h0
 ·exact h1
 ·exact h2
 ·exact flat_RL (by simp) _
 ·exact flat_RL (by simp) _
 ·exact wk_RL (by omega) he
theorem get_FT (name : ByteArray) (h0 : RLB 6 b0) (h1 : RLB 6 b1) (h2 : RLB 6 b2) (he : RL 6 eV) (hi : 0 ≤ ix p name) (hl : ix p name < cs.length) :
  FT Tryz.prog 53 [.ptr 5 0 0, .str name] (wh b0 b1 b2 gc gs cs st ns eV h p at' s) fun rv H' => rv = .agg (gi cs (ix p name)).cs ∧ H' = wh b0 b1 b2 gc gs cs st ns eV h p at' s := by
 refine FTt hm Tryz.func53 c53_ok (Nat.le_of_ble_eq_true rfl) ?_
 simp (maxSteps := 3000000) [-List.length_flatten,-List.map_drop,-List.map_take,Function.comp_def,argsT,Opd.ev,Tm.get,put,ares,mapMo,ares1,snilP,bldParts,bslParts,putAt,AV.cells,AV.one,astore,aload,loadCs,callArgs,abin,abinInt,aapp,elems,appMore,appNone,preLen,aFa,aFld,apart,aExt,aPick,aNot,aLens,aEqa,cellsK,fitsA,LK.fitsA,leavesA,leafA,nilD,aNilc,aCint,aCid,alive,alen,alenOk,Rle,lePs,len_flat, c53]
 refine ⟨_, cell_FT name rfl, ?_⟩
 have hk : (ix p name).toNat < cs.length := by omega
 have e1 : 3 ≤ cs.length * 3 - (ix p name).toNat * 3 := by omega
 have e2 := flat_at (f := Cl.cs) (sz := 3) (by simp) hi hl
 simp (maxSteps := 3000000) [-List.length_flatten,-List.map_drop,-List.map_take,Function.comp_def,argsT,Opd.ev,Tm.get,put,ares,mapMo,ares1,snilP,bldParts,bslParts,putAt,AV.cells,AV.one,astore,aload,loadCs,callArgs,abin,abinInt,aapp,elems,appMore,appNone,preLen,aFa,aFld,apart,aExt,aPick,aNot,aLens,aEqa,cellsK,fitsA,LK.fitsA,leavesA,leafA,nilD,aNilc,aCint,aCid,alive,alen,alenOk,Rle,lePs,len_flat, Kc, hi, hl, e1, e2]
 have := wh_RLB (gc := gc) (gs := gs) (cs := cs) (st := st) (ns := ns) (h := h) (p := p) (at' := at') (s := s) 6 (by omega) h0 h1 h2 he
 simpa using this
theorem hold_FT (to : Int) (c : Cl) (h0 : RLB 6 b0) (h1 : RLB 6 b1) (h2 : RLB 6 b2) (he : RL 6 eV) (hi : 0 ≤ to) (hl : to < cs.length) :
  FT Tryz.prog 51 [.ptr 5 0 0, i64 to, .agg c.cs] (wh b0 b1 b2 gc gs cs st ns eV h p at' s) fun rv H' => rv = .tuple [] ∧ H' = wh b0 b1 b2 gc gs (holdF cs to c) st ns eV h p at' s := by
 refine FTt hm Tryz.func51 c51_ok (Nat.le_of_ble_eq_true rfl) ?_
 have hk : to.toNat < cs.length := by omega
 simp (maxSteps := 3000000) [-List.length_flatten,-List.map_drop,-List.map_take,Function.comp_def,argsT,Opd.ev,Tm.get,put,ares,mapMo,ares1,snilP,bldParts,bslParts,putAt,AV.cells,AV.one,astore,aload,loadCs,callArgs,abin,abinInt,aapp,elems,appMore,appNone,preLen,aFa,aFld,apart,aExt,aPick,aNot,aLens,aEqa,cellsK,fitsA,LK.fitsA,leavesA,leafA,nilD,aNilc,aCint,aCid,alive,alen,alenOk,Rle,lePs,len_flat, c51, hi, hl, indB, apartB, aliveRd]
 have e := set_flat c cs to.toNat hk
 rw [show (⟨(cs.getD to.toNat default).loc, c.kind, c.v⟩ : Cl) = ⟨(gi cs to).loc, c.kind, c.v⟩ from rfl] at e
 rw [e]
 have hR := wh_RLB (gc := gc) (gs := gs) (cs := holdF cs to c) (st := st) (ns := ns) (h := h) (p := p) (at' := at') (s := s) 6 (by omega) h0 h1 h2 he
 have hlen : (holdF cs to c).length = cs.length := by simp [holdF]
 refine ⟨by omega, by omega, by simpa [holdF] using hR, rfl, hlen.symm⟩
theorem set_FT (name : ByteArray) (k v : Int) (h0 : RLB 6 b0) (h1 : RLB 6 b1) (h2 : RLB 6 b2) (he : RL 6 eV) (hi : 0 ≤ ix p name) (hl : ix p name < cs.length) :
  FT Tryz.prog 79 [.ptr 5 0 0, .str name, i64 k, i64 v] (wh b0 b1 b2 gc gs cs st ns eV h p at' s) fun rv H' => rv = .tuple [] ∧ H' = wh b0 b1 b2 gc gs (holdF cs (ix p name) ⟨0, k, v⟩) st ns eV h p at' s := by
 refine FTk hm Tryz.func79 c79_ok (Nat.le_of_ble_eq_true rfl) ?_
 simp (maxSteps := 3000000) [-List.length_flatten,-List.map_drop,-List.map_take,Function.comp_def,argsT,Opd.ev,Tm.get,put,ares,mapMo,ares1,snilP,bldParts,bslParts,putAt,AV.cells,AV.one,astore,aload,loadCs,callArgs,abin,abinInt,aapp,elems,appMore,appNone,preLen,aFa,aFld,apart,aExt,aPick,aNot,aLens,aEqa,cellsK,fitsA,LK.fitsA,leavesA,leafA,nilD,aNilc,aCint,aCid,alive,alen,alenOk,Rle,lePs,len_flat, c79]
 refine (cell_FT name rfl).mono ?_
 rintro _ _ ⟨rfl, rfl⟩
 simp (maxSteps := 3000000) [-List.length_flatten,-List.map_drop,-List.map_take,Function.comp_def,argsT,Opd.ev,Tm.get,put,ares,mapMo,ares1,snilP,bldParts,bslParts,putAt,AV.cells,AV.one,astore,aload,loadCs,callArgs,abin,abinInt,aapp,elems,appMore,appNone,preLen,aFa,aFld,apart,aExt,aPick,aNot,aLens,aEqa,cellsK,fitsA,LK.fitsA,leavesA,leafA,nilD,aNilc,aCint,aCid,alive,alen,alenOk,Rle,lePs,len_flat, Kc]
 refine (hold_FT (ix p name) ⟨0, k, v⟩ h0 h1 h2 he hi hl).mono ?_
 rintro _ _ ⟨rfl, rfl⟩
 simp (maxSteps := 3000000) [-List.length_flatten,-List.map_drop,-List.map_take,Function.comp_def,argsT,Opd.ev,Tm.get,put,ares,mapMo,ares1,snilP,bldParts,bslParts,putAt,AV.cells,AV.one,astore,aload,loadCs,callArgs,abin,abinInt,aapp,elems,appMore,appNone,preLen,aFa,aFld,apart,aExt,aPick,aNot,aLens,aEqa,cellsK,fitsA,LK.fitsA,leavesA,leafA,nilD,aNilc,aCint,aCid,alive,alen,alenOk,Rle,lePs,len_flat, Kc]
variable {x : ABlk}
abbrev wh7 (x b0 b1 b2 : ABlk) (gc gs : Nat) (cs : List Cl) (st : List Ps) (ns : Nat) (eV : AV) (h : Int) (p : Pg) (at' : Int) (s : Stm) : AHeap :=
 [b0, b1, b2, .cells gc (cs.map Cl.cs).flatten, .cells gs (st.map Ps.cs).flatten, .cells 0 (wk gc gs cs.length ns eV h p at' s), x]
theorem wh7_RLB (n : Nat) (hn : 6 ≤ n) (h0 : RLB n b0) (h1 : RLB n b1) (h2 : RLB n b2) (h6 : RLB n x) (he : RL n eV) : ∀ b ∈ wh7 x b0 b1 b2 gc gs cs st ns eV h p at' s, RLB n b := by
 intro b hb
 simp only [List.mem_cons, List.not_mem_nil, or_false] at hb
 rcases hb with rfl | rfl | rfl | rfl | rfl | rfl | rfl
 ·exact h0
 ·exact h1
 ·exact h2
 ·exact flat_RL (by simp) _
 ·exact flat_RL (by simp) _
 ·exact wk_RL (by omega) he
 ·exact h6
theorem hold7_FT (to : Int) (c : Cl) (h0 : RLB 7 b0) (h1 : RLB 7 b1) (h2 : RLB 7 b2) (h6 : RLB 7 x) (he : RL 7 eV) (hi : 0 ≤ to) (hl : to < cs.length) :
  FT Tryz.prog 51 [.ptr 5 0 0, i64 to, .agg c.cs] (wh7 x b0 b1 b2 gc gs cs st ns eV h p at' s) fun rv H' => rv = .tuple [] ∧ H' = wh7 x b0 b1 b2 gc gs (holdF cs to c) st ns eV h p at' s := by
 refine FTt hm Tryz.func51 c51_ok (Nat.le_of_ble_eq_true rfl) ?_
 have hk : to.toNat < cs.length := by omega
 simp (maxSteps := 3000000) [-List.length_flatten,-List.map_drop,-List.map_take,Function.comp_def,argsT,Opd.ev,Tm.get,put,ares,mapMo,ares1,snilP,bldParts,bslParts,putAt,AV.cells,AV.one,astore,aload,loadCs,callArgs,abin,abinInt,aapp,elems,appMore,appNone,preLen,aFa,aFld,apart,aExt,aPick,aNot,aLens,aEqa,cellsK,fitsA,LK.fitsA,leavesA,leafA,nilD,aNilc,aCint,aCid,alive,alen,alenOk,Rle,lePs,len_flat, c51, hi, hl, indB, apartB, aliveRd]
 have e := set_flat c cs to.toNat hk
 rw [show (⟨(cs.getD to.toNat default).loc, c.kind, c.v⟩ : Cl) = ⟨(gi cs to).loc, c.kind, c.v⟩ from rfl] at e
 rw [e]
 have hR := wh7_RLB (gc := gc) (gs := gs) (cs := holdF cs to c) (st := st) (ns := ns) (h := h) (p := p) (at' := at') (s := s) 7 (by omega) h0 h1 h2 h6 he
 have hlen : (holdF cs to c).length = cs.length := by simp [holdF]
 refine ⟨by omega, by omega, by simpa [holdF] using hR, rfl, hlen.symm⟩
theorem set7_FT (name : ByteArray) (k v : Int) (h0 : RLB 7 b0) (h1 : RLB 7 b1) (h2 : RLB 7 b2) (h6 : RLB 7 x) (he : RL 7 eV) (hi : 0 ≤ ix p name) (hl : ix p name < cs.length) :
  FT Tryz.prog 79 [.ptr 5 0 0, .str name, i64 k, i64 v] (wh7 x b0 b1 b2 gc gs cs st ns eV h p at' s) fun rv H' => rv = .tuple [] ∧ H' = wh7 x b0 b1 b2 gc gs (holdF cs (ix p name) ⟨0, k, v⟩) st ns eV h p at' s := by
 refine FTk hm Tryz.func79 c79_ok (Nat.le_of_ble_eq_true rfl) ?_
 simp (maxSteps := 3000000) [-List.length_flatten,-List.map_drop,-List.map_take,Function.comp_def,argsT,Opd.ev,Tm.get,put,ares,mapMo,ares1,snilP,bldParts,bslParts,putAt,AV.cells,AV.one,astore,aload,loadCs,callArgs,abin,abinInt,aapp,elems,appMore,appNone,preLen,aFa,aFld,apart,aExt,aPick,aNot,aLens,aEqa,cellsK,fitsA,LK.fitsA,leavesA,leafA,nilD,aNilc,aCint,aCid,alive,alen,alenOk,Rle,lePs,len_flat, c79]
 refine (cell_FT name rfl).mono ?_
 rintro _ _ ⟨rfl, rfl⟩
 simp (maxSteps := 3000000) [-List.length_flatten,-List.map_drop,-List.map_take,Function.comp_def,argsT,Opd.ev,Tm.get,put,ares,mapMo,ares1,snilP,bldParts,bslParts,putAt,AV.cells,AV.one,astore,aload,loadCs,callArgs,abin,abinInt,aapp,elems,appMore,appNone,preLen,aFa,aFld,apart,aExt,aPick,aNot,aLens,aEqa,cellsK,fitsA,LK.fitsA,leavesA,leafA,nilD,aNilc,aCint,aCid,alive,alen,alenOk,Rle,lePs,len_flat, Kc]
 refine (hold7_FT (ix p name) ⟨0, k, v⟩ h0 h1 h2 h6 he hi hl).mono ?_
 rintro _ _ ⟨rfl, rfl⟩
 simp (maxSteps := 3000000) [-List.length_flatten,-List.map_drop,-List.map_take,Function.comp_def,argsT,Opd.ev,Tm.get,put,ares,mapMo,ares1,snilP,bldParts,bslParts,putAt,AV.cells,AV.one,astore,aload,loadCs,callArgs,abin,abinInt,aapp,elems,appMore,appNone,preLen,aFa,aFld,apart,aExt,aPick,aNot,aLens,aEqa,cellsK,fitsA,LK.fitsA,leavesA,leafA,nilD,aNilc,aCint,aCid,alive,alen,alenOk,Rle,lePs,len_flat, Kc]
/-- What goes through: the value, and whether there is one; the machine halts if not. -/
theorem through_FT (name : ByteArray) (h0 : RLB 6 b0) (h1 : RLB 6 b1) (h2 : RLB 6 b2) (he : RL 6 eV) (hi : 0 ≤ ix p name) (hl : ix p name < cs.length) :
  FT Tryz.prog 80 [.ptr 5 0 0, .str name] (wh b0 b1 b2 gc gs cs st ns eV h p at' s) fun rv H' =>
   if (gi cs (ix p name)).kind = 1 then rv = .tuple [i64 (gi cs (ix p name)).v, .bool true] ∧ H' = wh b0 b1 b2 gc gs cs st ns eV h p at' s
   else rv = .tuple [i64 0, .bool false] ∧ H' = wh b0 b1 b2 gc gs cs st ns eV 2 p at' s := by
 refine FTt hm Tryz.func80 c80_ok (Nat.le_of_ble_eq_true rfl) ?_
 simp (maxSteps := 3000000) [-List.length_flatten,-List.map_drop,-List.map_take,Function.comp_def,argsT,Opd.ev,Tm.get,put,ares,mapMo,ares1,snilP,bldParts,bslParts,putAt,AV.cells,AV.one,astore,aload,loadCs,callArgs,abin,abinInt,aapp,elems,appMore,appNone,preLen,aFa,aFld,apart,aExt,aPick,aNot,aLens,aEqa,cellsK,fitsA,LK.fitsA,leavesA,leafA,nilD,aNilc,aCint,aCid,alive,alen,alenOk,Rle,lePs,len_flat, c80]
 refine (get_FT name h0 h1 h2 he hi hl).mono ?_
 rintro _ _ ⟨rfl, rfl⟩
 have hR := wh_RLB (gc := gc) (gs := gs) (cs := cs) (st := st) (ns := ns) (h := h) (p := p) (at' := at') (s := s) 6 (by omega) h0 h1 h2 he
 have hR2 := wh_RLB (gc := gc) (gs := gs) (cs := cs) (st := st) (ns := ns) (h := 2) (p := p) (at' := at') (s := s) 6 (by omega) h0 h1 h2 he
 by_cases hk : (gi cs (ix p name)).kind = 1
 ·simp (maxSteps := 3000000) [-List.length_flatten,-List.map_drop,-List.map_take,Function.comp_def,argsT,Opd.ev,Tm.get,put,ares,mapMo,ares1,snilP,bldParts,bslParts,putAt,AV.cells,AV.one,astore,aload,loadCs,callArgs,abin,abinInt,aapp,elems,appMore,appNone,preLen,aFa,aFld,apart,aExt,aPick,aNot,aLens,aEqa,cellsK,fitsA,LK.fitsA,leavesA,leafA,nilD,aNilc,aCint,aCid,alive,alen,alenOk,Rle,lePs,len_flat, Kc, hk]
  simpa using hR
 ·simp (maxSteps := 3000000) [-List.length_flatten,-List.map_drop,-List.map_take,Function.comp_def,argsT,Opd.ev,Tm.get,put,ares,mapMo,ares1,snilP,bldParts,bslParts,putAt,AV.cells,AV.one,astore,aload,loadCs,callArgs,abin,abinInt,aapp,elems,appMore,appNone,preLen,aFa,aFld,apart,aExt,aPick,aNot,aLens,aEqa,cellsK,fitsA,LK.fitsA,leavesA,leafA,nilD,aNilc,aCint,aCid,alive,alen,alenOk,Rle,lePs,len_flat, Kc, hk]
  simpa using hR2
end
end Go.AM

namespace Go.AM
open Go.Proofs
set_option maxRecDepth 100000
set_option linter.unusedVariables false
set_option linter.unusedSimpArgs false
section
variable {b0 b1 b2 : ABlk} {gc gs : Nat} {cs : List Cl} {st : List Ps} {ns : Nat} {eV : AV} {h : Int} {p : Pg} {at' : Int} {s : Stm}
theorem addr_FT (h0 : RLB 6 b0) (h1 : RLB 6 b1) (h2 : RLB 6 b2) (he : RL 6 eV) (hx : 0 ≤ ix p s.x) (hxl : ix p s.x < cs.length) :
  FT Tryz.prog 54 [.ptr 5 0 0] (wh b0 b1 b2 gc gs cs st ns eV h p at' s) fun rv H' => rv = .tuple [] ∧ H' = wh b0 b1 b2 gc gs (holdF cs (ix p s.x) ⟨0, 1, ix p s.y⟩) st ns eV h p at' s := by
 refine FTk hm Tryz.func54 c54_ok (Nat.le_of_ble_eq_true rfl) ?_
 simp (maxSteps := 3000000) [-List.length_flatten,-List.map_drop,-List.map_take,Function.comp_def,argsT,Opd.ev,Tm.get,put,ares,mapMo,ares1,snilP,bldParts,bslParts,putAt,AV.cells,AV.one,astore,aload,loadCs,callArgs,abin,abinInt,aapp,elems,appMore,appNone,preLen,aFa,aFld,apart,aExt,aPick,aNot,aLens,aEqa,cellsK,fitsA,LK.fitsA,leavesA,leafA,nilD,aNilc,aCint,aCid,alive,alen,alenOk,Rle,lePs,len_flat, c54]
 refine ⟨_, cell_FT s.y rfl, ?_⟩
 simp (maxSteps := 3000000) [-List.length_flatten,-List.map_drop,-List.map_take,Function.comp_def,argsT,Opd.ev,Tm.get,put,ares,mapMo,ares1,snilP,bldParts,bslParts,putAt,AV.cells,AV.one,astore,aload,loadCs,callArgs,abin,abinInt,aapp,elems,appMore,appNone,preLen,aFa,aFld,apart,aExt,aPick,aNot,aLens,aEqa,cellsK,fitsA,LK.fitsA,leavesA,leafA,nilD,aNilc,aCint,aCid,alive,alen,alenOk,Rle,lePs,len_flat, Kc]
 refine (set_FT s.x 1 (ix p s.y) h0 h1 h2 he hx hxl).mono ?_
 rintro _ _ ⟨rfl, rfl⟩
 simp (maxSteps := 3000000) [-List.length_flatten,-List.map_drop,-List.map_take,Function.comp_def,argsT,Opd.ev,Tm.get,put,ares,mapMo,ares1,snilP,bldParts,bslParts,putAt,AV.cells,AV.one,astore,aload,loadCs,callArgs,abin,abinInt,aapp,elems,appMore,appNone,preLen,aFa,aFld,apart,aExt,aPick,aNot,aLens,aEqa,cellsK,fitsA,LK.fitsA,leavesA,leafA,nilD,aNilc,aCint,aCid,alive,alen,alenOk,Rle,lePs,len_flat, Kc]
theorem copy_FT (h0 : RLB 6 b0) (h1 : RLB 6 b1) (h2 : RLB 6 b2) (he : RL 6 eV) (hx : 0 ≤ ix p s.x) (hxl : ix p s.x < cs.length) (hy : 0 ≤ ix p s.y) (hyl : ix p s.y < cs.length) :
  FT Tryz.prog 56 [.ptr 5 0 0] (wh b0 b1 b2 gc gs cs st ns eV h p at' s) fun rv H' => rv = .tuple [] ∧ H' = wh b0 b1 b2 gc gs (holdF cs (ix p s.x) (gi cs (ix p s.y))) st ns eV h p at' s := by
 refine FTk hm Tryz.func56 c56_ok (Nat.le_of_ble_eq_true rfl) ?_
 simp (maxSteps := 3000000) [-List.length_flatten,-List.map_drop,-List.map_take,Function.comp_def,argsT,Opd.ev,Tm.get,put,ares,mapMo,ares1,snilP,bldParts,bslParts,putAt,AV.cells,AV.one,astore,aload,loadCs,callArgs,abin,abinInt,aapp,elems,appMore,appNone,preLen,aFa,aFld,apart,aExt,aPick,aNot,aLens,aEqa,cellsK,fitsA,LK.fitsA,leavesA,leafA,nilD,aNilc,aCint,aCid,alive,alen,alenOk,Rle,lePs,len_flat, c56]
 refine ⟨_, cell_FT s.x rfl, _, get_FT s.y h0 h1 h2 he hy hyl, ?_⟩
 simp (maxSteps := 3000000) [-List.length_flatten,-List.map_drop,-List.map_take,Function.comp_def,argsT,Opd.ev,Tm.get,put,ares,mapMo,ares1,snilP,bldParts,bslParts,putAt,AV.cells,AV.one,astore,aload,loadCs,callArgs,abin,abinInt,aapp,elems,appMore,appNone,preLen,aFa,aFld,apart,aExt,aPick,aNot,aLens,aEqa,cellsK,fitsA,LK.fitsA,leavesA,leafA,nilD,aNilc,aCint,aCid,alive,alen,alenOk,Rle,lePs,len_flat, Kc]
 refine (hold_FT (ix p s.x) (gi cs (ix p s.y)) h0 h1 h2 he hx hxl).mono ?_
 rintro _ _ ⟨rfl, rfl⟩
 simp (maxSteps := 3000000) [-List.length_flatten,-List.map_drop,-List.map_take,Function.comp_def,argsT,Opd.ev,Tm.get,put,ares,mapMo,ares1,snilP,bldParts,bslParts,putAt,AV.cells,AV.one,astore,aload,loadCs,callArgs,abin,abinInt,aapp,elems,appMore,appNone,preLen,aFa,aFld,apart,aExt,aPick,aNot,aLens,aEqa,cellsK,fitsA,LK.fitsA,leavesA,leafA,nilD,aNilc,aCint,aCid,alive,alen,alenOk,Rle,lePs,len_flat, Kc]
theorem load_FT (h0 : RLB 6 b0) (h1 : RLB 6 b1) (h2 : RLB 6 b2) (he : RL 6 eV) (hx : 0 ≤ ix p s.x) (hxl : ix p s.x < cs.length) (hy : 0 ≤ ix p s.y) (hyl : ix p s.y < cs.length)
  (hv : (gi cs (ix p s.y)).kind = 1 → 0 ≤ (gi cs (ix p s.y)).v ∧ (gi cs (ix p s.y)).v < cs.length) :
  FT Tryz.prog 57 [.ptr 5 0 0] (wh b0 b1 b2 gc gs cs st ns eV h p at' s) fun rv H' => rv = .tuple [] ∧ H' = if (gi cs (ix p s.y)).kind = 1 then wh b0 b1 b2 gc gs (holdF cs (ix p s.x) (gi cs (gi cs (ix p s.y)).v)) st ns eV h p at' s else wh b0 b1 b2 gc gs cs st ns eV 2 p at' s := by
 refine FTk hm Tryz.func57 c57_ok (Nat.le_of_ble_eq_true rfl) ?_
 simp (maxSteps := 3000000) [-List.length_flatten,-List.map_drop,-List.map_take,Function.comp_def,argsT,Opd.ev,Tm.get,put,ares,mapMo,ares1,snilP,bldParts,bslParts,putAt,AV.cells,AV.one,astore,aload,loadCs,callArgs,abin,abinInt,aapp,elems,appMore,appNone,preLen,aFa,aFld,apart,aExt,aPick,aNot,aLens,aEqa,cellsK,fitsA,LK.fitsA,leavesA,leafA,nilD,aNilc,aCint,aCid,alive,alen,alenOk,Rle,lePs,len_flat, c57]
 refine (through_FT s.y h0 h1 h2 he hy hyl).mono ?_
 intro rv H' hr
 by_cases hk : (gi cs (ix p s.y)).kind = 1
 ·rw [if_pos hk] at hr
  obtain ⟨rfl, rfl⟩ := hr
  obtain ⟨v0, v1⟩ := hv hk
  have e1 : 3 ≤ cs.length * 3 - (gi cs (ix p s.y)).v.toNat * 3 := by omega
  have e2 := flat_at (f := Cl.cs) (sz := 3) (by simp) v0 v1
  simp (maxSteps := 3000000) [-List.length_flatten,-List.map_drop,-List.map_take,Function.comp_def,argsT,Opd.ev,Tm.get,put,ares,mapMo,ares1,snilP,bldParts,bslParts,putAt,AV.cells,AV.one,astore,aload,loadCs,callArgs,abin,abinInt,aapp,elems,appMore,appNone,preLen,aFa,aFld,apart,aExt,aPick,aNot,aLens,aEqa,cellsK,fitsA,LK.fitsA,leavesA,leafA,nilD,aNilc,aCint,aCid,alive,alen,alenOk,Rle,lePs,len_flat, Kc, v0, v1, e1, e2]
  refine ⟨_, cell_FT s.x rfl, ?_⟩
  refine (hold_FT (ix p s.x) (gi cs (gi cs (ix p s.y)).v) h0 h1 h2 he hx hxl).mono ?_
  rintro _ _ ⟨rfl, rfl⟩
  simp (maxSteps := 3000000) [-List.length_flatten,-List.map_drop,-List.map_take,Function.comp_def,argsT,Opd.ev,Tm.get,put,ares,mapMo,ares1,snilP,bldParts,bslParts,putAt,AV.cells,AV.one,astore,aload,loadCs,callArgs,abin,abinInt,aapp,elems,appMore,appNone,preLen,aFa,aFld,apart,aExt,aPick,aNot,aLens,aEqa,cellsK,fitsA,LK.fitsA,leavesA,leafA,nilD,aNilc,aCint,aCid,alive,alen,alenOk,Rle,lePs,len_flat, Kc, hk]
 ·rw [if_neg hk] at hr
  obtain ⟨rfl, rfl⟩ := hr
  simp (maxSteps := 3000000) [-List.length_flatten,-List.map_drop,-List.map_take,Function.comp_def,argsT,Opd.ev,Tm.get,put,ares,mapMo,ares1,snilP,bldParts,bslParts,putAt,AV.cells,AV.one,astore,aload,loadCs,callArgs,abin,abinInt,aapp,elems,appMore,appNone,preLen,aFa,aFld,apart,aExt,aPick,aNot,aLens,aEqa,cellsK,fitsA,LK.fitsA,leavesA,leafA,nilD,aNilc,aCint,aCid,alive,alen,alenOk,Rle,lePs,len_flat, Kc, hk]
theorem store_FT (h0 : RLB 6 b0) (h1 : RLB 6 b1) (h2 : RLB 6 b2) (he : RL 6 eV) (hx : 0 ≤ ix p s.x) (hxl : ix p s.x < cs.length) (hy : 0 ≤ ix p s.y) (hyl : ix p s.y < cs.length)
  (hv : (gi cs (ix p s.x)).kind = 1 → 0 ≤ (gi cs (ix p s.x)).v ∧ (gi cs (ix p s.x)).v < cs.length) :
  FT Tryz.prog 58 [.ptr 5 0 0] (wh b0 b1 b2 gc gs cs st ns eV h p at' s) fun rv H' => rv = .tuple [] ∧ H' = if (gi cs (ix p s.x)).kind = 1 then wh b0 b1 b2 gc gs (holdF cs (gi cs (ix p s.x)).v (gi cs (ix p s.y))) st ns eV h p at' s else wh b0 b1 b2 gc gs cs st ns eV 2 p at' s := by
 refine FTk hm Tryz.func58 c58_ok (Nat.le_of_ble_eq_true rfl) ?_
 simp (maxSteps := 3000000) [-List.length_flatten,-List.map_drop,-List.map_take,Function.comp_def,argsT,Opd.ev,Tm.get,put,ares,mapMo,ares1,snilP,bldParts,bslParts,putAt,AV.cells,AV.one,astore,aload,loadCs,callArgs,abin,abinInt,aapp,elems,appMore,appNone,preLen,aFa,aFld,apart,aExt,aPick,aNot,aLens,aEqa,cellsK,fitsA,LK.fitsA,leavesA,leafA,nilD,aNilc,aCint,aCid,alive,alen,alenOk,Rle,lePs,len_flat, c58]
 refine (through_FT s.x h0 h1 h2 he hx hxl).mono ?_
 intro rv H' hr
 by_cases hk : (gi cs (ix p s.x)).kind = 1
 ·rw [if_pos hk] at hr
  obtain ⟨rfl, rfl⟩ := hr
  obtain ⟨v0, v1⟩ := hv hk
  simp (maxSteps := 3000000) [-List.length_flatten,-List.map_drop,-List.map_take,Function.comp_def,argsT,Opd.ev,Tm.get,put,ares,mapMo,ares1,snilP,bldParts,bslParts,putAt,AV.cells,AV.one,astore,aload,loadCs,callArgs,abin,abinInt,aapp,elems,appMore,appNone,preLen,aFa,aFld,apart,aExt,aPick,aNot,aLens,aEqa,cellsK,fitsA,LK.fitsA,leavesA,leafA,nilD,aNilc,aCint,aCid,alive,alen,alenOk,Rle,lePs,len_flat, Kc]
  refine (get_FT s.y h0 h1 h2 he hy hyl).mono ?_
  rintro _ _ ⟨rfl, rfl⟩
  simp (maxSteps := 3000000) [-List.length_flatten,-List.map_drop,-List.map_take,Function.comp_def,argsT,Opd.ev,Tm.get,put,ares,mapMo,ares1,snilP,bldParts,bslParts,putAt,AV.cells,AV.one,astore,aload,loadCs,callArgs,abin,abinInt,aapp,elems,appMore,appNone,preLen,aFa,aFld,apart,aExt,aPick,aNot,aLens,aEqa,cellsK,fitsA,LK.fitsA,leavesA,leafA,nilD,aNilc,aCint,aCid,alive,alen,alenOk,Rle,lePs,len_flat, Kc]
  refine (hold_FT _ (gi cs (ix p s.y)) h0 h1 h2 he v0 v1).mono ?_
  rintro _ _ ⟨rfl, rfl⟩
  simp (maxSteps := 3000000) [-List.length_flatten,-List.map_drop,-List.map_take,Function.comp_def,argsT,Opd.ev,Tm.get,put,ares,mapMo,ares1,snilP,bldParts,bslParts,putAt,AV.cells,AV.one,astore,aload,loadCs,callArgs,abin,abinInt,aapp,elems,appMore,appNone,preLen,aFa,aFld,apart,aExt,aPick,aNot,aLens,aEqa,cellsK,fitsA,LK.fitsA,leavesA,leafA,nilD,aNilc,aCint,aCid,alive,alen,alenOk,Rle,lePs,len_flat, Kc, hk]
 ·rw [if_neg hk] at hr
  obtain ⟨rfl, rfl⟩ := hr
  simp (maxSteps := 3000000) [-List.length_flatten,-List.map_drop,-List.map_take,Function.comp_def,argsT,Opd.ev,Tm.get,put,ares,mapMo,ares1,snilP,bldParts,bslParts,putAt,AV.cells,AV.one,astore,aload,loadCs,callArgs,abin,abinInt,aapp,elems,appMore,appNone,preLen,aFa,aFld,apart,aExt,aPick,aNot,aLens,aEqa,cellsK,fitsA,LK.fitsA,leavesA,leafA,nilD,aNilc,aCint,aCid,alive,alen,alenOk,Rle,lePs,len_flat, Kc, hk]
theorem made_FT (h0 : RLB 6 b0) (h1 : RLB 6 b1) (h2 : RLB 6 b2) (he : RL 6 eV) (hx : 0 ≤ ix p s.x) (hxl : ix p s.x < cs.length) (hc : cs.length ≤ 200) (hn : 0 ≤ s.n ∧ s.n ≤ 1000) (hV : (varsOf p).length ≤ 1000) :
  FT Tryz.prog 55 [.ptr 5 0 0] (wh b0 b1 b2 gc gs cs st ns eV h p at' s) fun rv H' => rv = .tuple [] ∧ H' = if cs.length = 200 then wh b0 b1 b2 gc gs cs st ns eV 5 p at' s else wh b0 b1 b2 (gc + 1) gs (holdF (cs ++ [⟨(varsOf p).length + s.n, 0, 0⟩]) (ix p s.x) ⟨0, 1, cs.length⟩) st ns eV h p at' s := by
 refine FTk hm Tryz.func55 c55_ok (Nat.le_of_ble_eq_true rfl) ?_
 have hA : cs.length ≤ maxA := by unfold maxA; omega
 by_cases h200 : cs.length = 200
 ·have e : 200 ≤ (cs.length : Int) := by omega
  simp (maxSteps := 3000000) [-List.length_flatten,-List.map_drop,-List.map_take,Function.comp_def,argsT,Opd.ev,Tm.get,put,ares,mapMo,ares1,snilP,bldParts,bslParts,putAt,AV.cells,AV.one,astore,aload,loadCs,callArgs,abin,abinInt,aapp,elems,appMore,appNone,preLen,aFa,aFld,apart,aExt,aPick,aNot,aLens,aEqa,cellsK,fitsA,LK.fitsA,leavesA,leafA,nilD,aNilc,aCint,aCid,alive,alen,alenOk,Rle,lePs,len_flat, c55, hA, e, h200]
 ·have e : ¬ 200 ≤ (cs.length : Int) := by omega
  have hA2 : cs.length + 1 ≤ maxA := by unfold maxA; omega
  have hA3 : (varsOf p).length ≤ maxA := by unfold maxA; omega
  have w1 : IntKind.i64.wrap (((varsOf p).length : Int) + s.n) = (varsOf p).length + s.n := by rw [w64 (by omega) (by omega)]
  have w2 : IntKind.i64.wrap ((cs.length : Int) + 1 - 1) = cs.length := by rw [show (cs.length : Int) + 1 - 1 = cs.length by omega, w64 (by omega) (by omega)]
  have w2' : IntKind.i64.wrap (cs.length : Int) = cs.length := by rw [w64 (by omega) (by omega)]
  simp (maxSteps := 3000000) [-List.length_flatten,-List.map_drop,-List.map_take,Function.comp_def,argsT,Opd.ev,Tm.get,put,ares,mapMo,ares1,snilP,bldParts,bslParts,putAt,AV.cells,AV.one,astore,aload,loadCs,callArgs,abin,abinInt,aapp,elems,appMore,appNone,preLen,aFa,aFld,apart,aExt,aPick,aNot,aLens,aEqa,cellsK,fitsA,LK.fitsA,leavesA,leafA,nilD,aNilc,aCint,aCid,alive,alen,alenOk,Rle,lePs,len_flat, c55, hA, hA2, hA3, e, w1, w2, w2']
  intro _
  have tk := app_one (f := Cl.cs) (l := cs) (sz := 3) (by simp) ⟨(varsOf p).length + s.n, 0, 0⟩ rfl
  rw [tk]
  have hq := set_FT (b0 := b0) (b1 := b1) (b2 := b2) (gc := gc + 1) (gs := gs) (cs := cs ++ [⟨(varsOf p).length + s.n, 0, 0⟩]) (st := st) (ns := ns) (eV := eV) (h := h) (p := p) (at' := at') (s := s) s.x 1 cs.length h0 h1 h2 he hx (by simp; omega)
  have hl : (cs ++ [(⟨(varsOf p).length + s.n, 0, 0⟩ : Cl)]).length = cs.length + 1 := by simp
  unfold wh wk at hq
  rw [hl] at hq
  refine FT.mono hq ?_
  rintro _ _ ⟨rfl, rfl⟩
  simp (maxSteps := 3000000) [-List.length_flatten,-List.map_drop,-List.map_take,Function.comp_def,argsT,Opd.ev,Tm.get,put,ares,mapMo,ares1,snilP,bldParts,bslParts,putAt,AV.cells,AV.one,astore,aload,loadCs,callArgs,abin,abinInt,aapp,elems,appMore,appNone,preLen,aFa,aFld,apart,aExt,aPick,aNot,aLens,aEqa,cellsK,fitsA,LK.fitsA,leavesA,leafA,nilD,aNilc,aCint,aCid,alive,alen,alenOk,Rle,lePs,len_flat, Kc, h200]
theorem isName_FT {H : AHeap} {nc : Nat} (f : Fn0) (h5 : H[5]? = some (.cells 0 (wk gc gs nc ns eV h p at' s))) (h6 : H[6]? = some (.cells 0 [.ptr 5 0 0])) (hb : ∀ b ∈ H, RLB H.length b) :
  FT Tryz.prog 82 [.agg f.cs, .ptr 6 0 0] H fun rv H' => rv = .bool (decide (f.name = s.y)) ∧ H' = H := by
 refine FTt hm Tryz.func82 c82_ok (Nat.le_of_ble_eq_true rfl) ?_
 have g5 := get_app (b := .cells 0 f.cs) h5
 have g6 := get_app (b := .cells 0 f.cs) h6
 simp (maxSteps := 3000000) [-List.length_flatten,-List.map_drop,-List.map_take,Function.comp_def,argsT,Opd.ev,Tm.get,put,ares,mapMo,ares1,snilP,bldParts,bslParts,putAt,AV.cells,AV.one,astore,aload,loadCs,callArgs,abin,abinInt,aapp,elems,appMore,appNone,preLen,aFa,aFld,apart,aExt,aPick,aNot,aLens,aEqa,cellsK,fitsA,LK.fitsA,leavesA,leafA,nilD,aNilc,aCint,aCid,alive,alen,alenOk,Rle,lePs,len_flat, c82, g5, g6]
 exact hb
theorem findName_FT {H : AHeap} {nc : Nat} (l : List Fn0) (h5 : H[5]? = some (.cells 0 (wk gc gs nc ns eV h p at' s))) (h6 : H[6]? = some (.cells 0 [.ptr 5 0 0])) (hb : ∀ b ∈ H, RLB H.length b) :
  FT Tryz.prog 81 [fns l, .fn (.func 82) [] [.ptr 6 0 0]] H fun rv H' => rv = i64 (fstAt (fun f => decide (f.name = s.y)) l) ∧ H' = H := by
 refine FTk hm Tryz.func81 c81_ok (Nat.le_of_ble_eq_true rfl) ?_
 simp (maxSteps := 3000000) [-List.length_flatten,-List.map_drop,-List.map_take,Function.comp_def,argsT,Opd.ev,Tm.get,put,ares,mapMo,ares1,snilP,bldParts,bslParts,putAt,AV.cells,AV.one,astore,aload,loadCs,callArgs,abin,abinInt,aapp,elems,appMore,appNone,preLen,aFa,aFld,apart,aExt,aPick,aNot,aLens,aEqa,cellsK,fitsA,LK.fitsA,leavesA,leafA,nilD,aNilc,aCint,aCid,alive,alen,alenOk,Rle,lePs,len_flat, c81]
 intro ha
 refine run_loopK (fun m T H' => ∃ i : Nat, m = l.length - i ∧ i ≤ l.length ∧ (∀ j : Nat, j < i → ¬ (gi l j).name = s.y) ∧ T = [(8, i64 i), (7, i64 l.length), (0, fns l), (1, .fn (.func 82) [] [.ptr 6 0 0])] ∧ H' = H) l.length
  [(8, i64 (0 : Nat)), (7, i64 l.length), (0, fns l), (1, .fn (.func 82) [] [.ptr 6 0 0])] H (Wk.sub (by simp [Tm.get])) ⟨0, rfl, by omega, fun j hj => by omega, rfl, rfl⟩ ?_
 rintro m T _ ⟨i, rfl, hi, hj, rfl, rfl⟩ KK kx kr kn
 by_cases hl : i < l.length
 ·simp (maxSteps := 3000000) [-List.length_flatten,-List.map_drop,-List.map_take,Function.comp_def,argsT,Opd.ev,Tm.get,put,ares,mapMo,ares1,snilP,bldParts,bslParts,putAt,AV.cells,AV.one,astore,aload,loadCs,callArgs,abin,abinInt,aapp,elems,appMore,appNone,preLen,aFa,aFld,apart,aExt,aPick,aNot,aLens,aEqa,cellsK,fitsA,LK.fitsA,leavesA,leafA,nilD,aNilc,aCint,aCid,alive,alen,alenOk,Rle,lePs,len_flat, hl]
  refine (isName_FT (gi l i) h5 h6 hb).mono ?_
  rintro _ _ ⟨rfl, rfl⟩
  by_cases hn : (gi l i).name = s.y
  ·simp (maxSteps := 3000000) [-List.length_flatten,-List.map_drop,-List.map_take,Function.comp_def,argsT,Opd.ev,Tm.get,put,ares,mapMo,ares1,snilP,bldParts,bslParts,putAt,AV.cells,AV.one,astore,aload,loadCs,callArgs,abin,abinInt,aapp,elems,appMore,appNone,preLen,aFa,aFld,apart,aExt,aPick,aNot,aLens,aEqa,cellsK,fitsA,LK.fitsA,leavesA,leafA,nilD,aNilc,aCint,aCid,alive,alen,alenOk,Rle,lePs,len_flat, Kc, hn, kr]
   exact (fstAt_some hl (by simp [hn]) (fun j hl => by simpa using hj j hl)).symm
  ·simp (maxSteps := 3000000) [-List.length_flatten,-List.map_drop,-List.map_take,Function.comp_def,argsT,Opd.ev,Tm.get,put,ares,mapMo,ares1,snilP,bldParts,bslParts,putAt,AV.cells,AV.one,astore,aload,loadCs,callArgs,abin,abinInt,aapp,elems,appMore,appNone,preLen,aFa,aFld,apart,aExt,aPick,aNot,aLens,aEqa,cellsK,fitsA,LK.fitsA,leavesA,leafA,nilD,aNilc,aCint,aCid,alive,alen,alenOk,Rle,lePs,len_flat, Kc, hn]
   refine kn _ _ (Kl_sub (l.length - (i + 1)) (T' := [(8, i64 (i + 1 : Nat)), (7, i64 l.length), (0, fns l), (1, .fn (.func 82) [] [.ptr 6 0 0])]) ⟨i + 1, rfl, by omega, fun j hl => ?_, rfl, rfl⟩ (by simp [Tm.get, nxt hl ha]) (by omega))
   rcases Nat.lt_or_ge j i with h3 | h3
   ·exact hj j h3
   ·have : j = i := by omega
    subst this
    exact hn
 ·simp (maxSteps := 3000000) [-List.length_flatten,-List.map_drop,-List.map_take,Function.comp_def,argsT,Opd.ev,Tm.get,put,ares,mapMo,ares1,snilP,bldParts,bslParts,putAt,AV.cells,AV.one,astore,aload,loadCs,callArgs,abin,abinInt,aapp,elems,appMore,appNone,preLen,aFa,aFld,apart,aExt,aPick,aNot,aLens,aEqa,cellsK,fitsA,LK.fitsA,leavesA,leafA,nilD,aNilc,aCint,aCid,alive,alen,alenOk,Rle,lePs,len_flat, hl, kx]
  exact (fstAt_none (fun j hl => by simpa using hj j (by omega))).symm
def fx (p : Pg) (name : ByteArray) : Int := fstAt (fun f : Fn0 => decide (f.name = name)) p.funs
theorem fun_FT (h0 : RLB 6 b0) (h1 : RLB 6 b1) (h2 : RLB 6 b2) (he : RL 6 eV) (hx : 0 ≤ ix p s.x) (hxl : ix p s.x < cs.length) :
  FT Tryz.prog 59 [.ptr 5 0 0] (wh b0 b1 b2 gc gs cs st ns eV h p at' s) fun rv H' => rv = .tuple [] ∧ H' = wh b0 b1 b2 gc gs (holdF cs (ix p s.x) ⟨0, 2, fx p s.y⟩) st ns eV h p at' s := by
 refine FTt hm Tryz.func59 c59_ok (Nat.le_of_ble_eq_true rfl) ?_
 simp (maxSteps := 3000000) [-List.length_flatten,-List.map_drop,-List.map_take,Function.comp_def,argsT,Opd.ev,Tm.get,put,ares,mapMo,ares1,snilP,bldParts,bslParts,putAt,AV.cells,AV.one,astore,aload,loadCs,callArgs,abin,abinInt,aapp,elems,appMore,appNone,preLen,aFa,aFld,apart,aExt,aPick,aNot,aLens,aEqa,cellsK,fitsA,LK.fitsA,leavesA,leafA,nilD,aNilc,aCint,aCid,alive,alen,alenOk,Rle,lePs,len_flat, c59]
 have hm6 : ∀ {b : ABlk}, RLB 6 b → RLB 7 b := fun h => RLB_mono (by omega) h
 have h6 : RLB 7 (.cells 0 [.ptr 5 0 0]) := by simp [RLB]
 have hb := wh7_RLB (x := .cells 0 [.ptr 5 0 0]) (gc := gc) (gs := gs) (cs := cs) (st := st) (ns := ns) (h := h) (p := p) (at' := at') (s := s) 7 (by omega) (hm6 h0) (hm6 h1) (hm6 h2) h6 (RL.mono (by omega) he)
 refine ⟨_, findName_FT p.funs rfl rfl hb, ?_⟩
 refine (set7_FT s.x 2 (fx p s.y) (hm6 h0) (hm6 h1) (hm6 h2) h6 (RL.mono (by omega) he) hx hxl).mono ?_
 rintro _ _ ⟨rfl, rfl⟩
 have hR := wh_RLB (gc := gc) (gs := gs) (cs := holdF cs (ix p s.x) ⟨0, 2, fx p s.y⟩) (st := st) (ns := ns) (h := h) (p := p) (at' := at') (s := s) 6 (by omega) h0 h1 h2 he
 simp (maxSteps := 3000000) [-List.length_flatten,-List.map_drop,-List.map_take,Function.comp_def,argsT,Opd.ev,Tm.get,put,ares,mapMo,ares1,snilP,bldParts,bslParts,putAt,AV.cells,AV.one,astore,aload,loadCs,callArgs,abin,abinInt,aapp,elems,appMore,appNone,preLen,aFa,aFld,apart,aExt,aPick,aNot,aLens,aEqa,cellsK,fitsA,LK.fitsA,leavesA,leafA,nilD,aNilc,aCint,aCid,alive,alen,alenOk,Rle,lePs,len_flat, Kc]
 simpa using hR
end
end Go.AM

namespace Go.AM
open Go.Proofs
set_option maxRecDepth 100000
set_option linter.unusedVariables false
set_option linter.unusedSimpArgs false
section
variable {b0 b1 b2 : ABlk} {gc gs : Nat} {cs : List Cl} {st : List Ps} {ns : Nat} {eV : AV} {h : Int} {p : Pg} {at' : Int} {s : Stm} {H2 : AHeap}
abbrev whT (b0 b1 b2 : ABlk) (gc gs : Nat) (cs : List Cl) (st : List Ps) (ns : Nat) (eV : AV) (h : Int) (p : Pg) (at' : Int) (s : Stm) (H2 : AHeap) : AHeap :=
 b0 :: b1 :: b2 :: .cells gc (cs.map Cl.cs).flatten :: .cells gs (st.map Ps.cs).flatten :: .cells 0 (wk gc gs cs.length ns eV h p at' s) :: H2
theorem whT_RLB (n : Nat) (hn : 6 ≤ n) (h0 : RLB n b0) (h1 : RLB n b1) (h2 : RLB n b2) (hH : ∀ b ∈ H2, RLB n b) (he : RL n eV) : ∀ b ∈ whT b0 b1 b2 gc gs cs st ns eV h p at' s H2, RLB n b := by
 intro b hb
 simp only [List.mem_cons] at hb
 rcases hb with rfl | rfl | rfl | rfl | rfl | rfl | hb
 ·exact h0
 ·exact h1
 ·exact h2
 ·exact flat_RL (by simp) _
 ·exact flat_RL (by simp) _
 ·exact wk_RL (by omega) he
 ·exact hH b hb
theorem getT_FT (name : ByteArray) (h0 : RLB (H2.length + 6) b0) (h1 : RLB (H2.length + 6) b1) (h2 : RLB (H2.length + 6) b2) (hH : ∀ b ∈ H2, RLB (H2.length + 6) b) (he : RL (H2.length + 6) eV) (hi : 0 ≤ ix p name) (hl : ix p name < cs.length) :
  FT Tryz.prog 53 [.ptr 5 0 0, .str name] (whT b0 b1 b2 gc gs cs st ns eV h p at' s H2) fun rv H' => rv = .agg (gi cs (ix p name)).cs ∧ H' = whT b0 b1 b2 gc gs cs st ns eV h p at' s H2 := by
 refine FTt hm Tryz.func53 c53_ok (Nat.le_of_ble_eq_true rfl) ?_
 simp (maxSteps := 3000000) [-List.length_flatten,-List.map_drop,-List.map_take,Function.comp_def,argsT,Opd.ev,Tm.get,put,ares,mapMo,ares1,snilP,bldParts,bslParts,putAt,AV.cells,AV.one,astore,aload,loadCs,callArgs,abin,abinInt,aapp,elems,appMore,appNone,preLen,aFa,aFld,apart,aExt,aPick,aNot,aLens,aEqa,cellsK,fitsA,LK.fitsA,leavesA,leafA,nilD,aNilc,aCint,aCid,alive,alen,alenOk,Rle,lePs,len_flat, c53]
 refine ⟨_, cell_FT name rfl, ?_⟩
 have hk : (ix p name).toNat < cs.length := by omega
 have e1 : 3 ≤ cs.length * 3 - (ix p name).toNat * 3 := by omega
 have e2 := flat_at (f := Cl.cs) (sz := 3) (by simp) hi hl
 simp (maxSteps := 3000000) [-List.length_flatten,-List.map_drop,-List.map_take,Function.comp_def,argsT,Opd.ev,Tm.get,put,ares,mapMo,ares1,snilP,bldParts,bslParts,putAt,AV.cells,AV.one,astore,aload,loadCs,callArgs,abin,abinInt,aapp,elems,appMore,appNone,preLen,aFa,aFld,apart,aExt,aPick,aNot,aLens,aEqa,cellsK,fitsA,LK.fitsA,leavesA,leafA,nilD,aNilc,aCint,aCid,alive,alen,alenOk,Rle,lePs,len_flat, Kc, hi, hl, e1, e2]
 have := whT_RLB (gc := gc) (gs := gs) (cs := cs) (st := st) (ns := ns) (h := h) (p := p) (at' := at') (s := s) (H2.length + 6) (by omega) h0 h1 h2 hH he
 simpa using this
theorem holdT_FT (to : Int) (c : Cl) (h0 : RLB (H2.length + 6) b0) (h1 : RLB (H2.length + 6) b1) (h2 : RLB (H2.length + 6) b2) (hH : ∀ b ∈ H2, RLB (H2.length + 6) b) (he : RL (H2.length + 6) eV) (hi : 0 ≤ to) (hl : to < cs.length) :
  FT Tryz.prog 51 [.ptr 5 0 0, i64 to, .agg c.cs] (whT b0 b1 b2 gc gs cs st ns eV h p at' s H2) fun rv H' => rv = .tuple [] ∧ H' = whT b0 b1 b2 gc gs (holdF cs to c) st ns eV h p at' s H2 := by
 refine FTt hm Tryz.func51 c51_ok (Nat.le_of_ble_eq_true rfl) ?_
 have hk : to.toNat < cs.length := by omega
 simp (maxSteps := 3000000) [-List.length_flatten,-List.map_drop,-List.map_take,Function.comp_def,argsT,Opd.ev,Tm.get,put,ares,mapMo,ares1,snilP,bldParts,bslParts,putAt,AV.cells,AV.one,astore,aload,loadCs,callArgs,abin,abinInt,aapp,elems,appMore,appNone,preLen,aFa,aFld,apart,aExt,aPick,aNot,aLens,aEqa,cellsK,fitsA,LK.fitsA,leavesA,leafA,nilD,aNilc,aCint,aCid,alive,alen,alenOk,Rle,lePs,len_flat, c51, hi, hl, indB, apartB, aliveRd]
 have e := set_flat c cs to.toNat hk
 rw [show (⟨(cs.getD to.toNat default).loc, c.kind, c.v⟩ : Cl) = ⟨(gi cs to).loc, c.kind, c.v⟩ from rfl] at e
 rw [e]
 have hR := whT_RLB (gc := gc) (gs := gs) (cs := holdF cs to c) (st := st) (ns := ns) (h := h) (p := p) (at' := at') (s := s) (H2.length + 6) (by omega) h0 h1 h2 hH he
 have hlen : (holdF cs to c).length = cs.length := by simp [holdF]
 refine ⟨by omega, by omega, by simpa [holdF] using hR, rfl, hlen.symm⟩
theorem top_FT {H : AHeap} {nc : Nat} {cl : List AV} (h5 : H[5]? = some (.cells 0 (wk gc gs nc ns eV h p at' s))) (h4 : H[4]? = some (.cells gs cl)) (hn : 0 < ns) (hA : ns ≤ 1000) :
  FT Tryz.prog 23 [.ptr 5 0 0] H fun rv H' => rv = .ptr 4 gs ((ns - 1) * 3) ∧ H' = H := by
 refine FTk hm Tryz.func23 c23_ok (Nat.le_of_ble_eq_true rfl) ?_
 have hA' : ns ≤ maxA := by unfold maxA; omega
 have w1 : IntKind.i64.wrap ((ns : Int) - 1) = ((ns - 1 : Nat) : Int) := by rw [w64 (by omega) (by omega)]; omega
 have hl : ns - 1 < ns := by omega
 simp (maxSteps := 3000000) [-List.length_flatten,-List.map_drop,-List.map_take,Function.comp_def,argsT,Opd.ev,Tm.get,put,ares,mapMo,ares1,snilP,bldParts,bslParts,putAt,AV.cells,AV.one,astore,aload,loadCs,callArgs,abin,abinInt,aapp,elems,appMore,appNone,preLen,aFa,aFld,apart,aExt,aPick,aNot,aLens,aEqa,cellsK,fitsA,LK.fitsA,leavesA,leafA,nilD,aNilc,aCint,aCid,alive,alen,alenOk,Rle,lePs,len_flat, c23, h5, h4, hA', w1, hl]
theorem drop_at (st : List Ps) (k : Nat) (h : k < st.length) : (st.map Ps.cs).flatten.drop (k * 3 + 1) = i64 (gi st k).at' :: i64 (gi st k).call :: ((st.drop (k + 1)).map Ps.cs).flatten := by
 rw [← List.drop_drop, drop_flat (sz := 3) (by simp), List.drop_eq_getElem_cons h]
 have : gi st (k : Int) = st[k] := by simp [gi, List.getD, h]
 rw [this]
 simp only [List.map_cons, List.flatten_cons, List.cons_append, List.nil_append, List.drop_succ_cons, List.drop_zero]
theorem set_at (v : Int) : ∀ (st : List Ps) (k : Nat), k < st.length → ((st.map Ps.cs).flatten.set (k * 3 + 1) (i64 v)) = ((st.set k { st.getD k default with at' := v }).map Ps.cs).flatten
 | x :: st, 0, h => by simp
 | x :: st, k + 1, h => by
  have ih := set_at v st k (by simpa using h)
  rw [show (k + 1) * 3 + 1 = (k * 3 + 1) + 3 by omega]
  simp only [List.map_cons, List.flatten_cons, List.set_cons_succ, List.cons_append, List.nil_append, ih, List.getD_cons_succ]
 | [], k, h => by simp at h
/-- The stack's place k goes on elsewhere. -/
def moveF (st : List Ps) (k : Nat) (v : Int) : List Ps := st.set k { st.getD k default with at' := v }
theorem ends_FT (h0 : RLB 6 b0) (h1 : RLB 6 b1) (h2 : RLB 6 b2) (he : RL 6 eV) (hn : 0 < st.length) (hA : st.length ≤ 1000) (hneg : (gi st (st.length - 1 : Nat)).body < 0) :
  FT Tryz.prog 25 [.ptr 5 0 0] (wh b0 b1 b2 gc gs cs st st.length eV h p at' s) fun rv H' => rv = .tuple [] ∧ H' = wh b0 b1 b2 gc gs cs st st.length eV 1 p at' s := by
 refine FTt hm Tryz.func25 c25_ok (Nat.le_of_ble_eq_true rfl) ?_
 simp (maxSteps := 3000000) [-List.length_flatten,-List.map_drop,-List.map_take,Function.comp_def,argsT,Opd.ev,Tm.get,put,ares,mapMo,ares1,snilP,bldParts,bslParts,putAt,AV.cells,AV.one,astore,aload,loadCs,callArgs,abin,abinInt,aapp,elems,appMore,appNone,preLen,aFa,aFld,apart,aExt,aPick,aNot,aLens,aEqa,cellsK,fitsA,LK.fitsA,leavesA,leafA,nilD,aNilc,aCint,aCid,alive,alen,alenOk,Rle,lePs,len_flat, c25]
 refine (top_FT rfl rfl hn hA).mono ?_
 rintro _ _ ⟨rfl, rfl⟩
 have e2 := flat_at (f := Ps.cs) (sz := 3) (by simp) (l := st) (i := (st.length - 1 : Nat)) (by omega) (by omega)
 simp only [Int.toNat_natCast] at e2
 have e1 : 3 ≤ st.length * 3 - (st.length - 1) * 3 := by omega
 have hR := wh_RLB (gc := gc) (gs := gs) (cs := cs) (st := st) (ns := st.length) (h := 1) (p := p) (at' := at') (s := s) 6 (by omega) h0 h1 h2 he
 simp (maxSteps := 3000000) [-List.length_flatten,-List.map_drop,-List.map_take,Function.comp_def,argsT,Opd.ev,Tm.get,put,ares,mapMo,ares1,snilP,bldParts,bslParts,putAt,AV.cells,AV.one,astore,aload,loadCs,callArgs,abin,abinInt,aapp,elems,appMore,appNone,preLen,aFa,aFld,apart,aExt,aPick,aNot,aLens,aEqa,cellsK,fitsA,LK.fitsA,leavesA,leafA,nilD,aNilc,aCint,aCid,alive,alen,alenOk,Rle,lePs,len_flat, Kc, e1, e2, hneg]
 simpa using hR
theorem pops_FT (h0 : RLB 6 b0) (h1 : RLB 6 b1) (h2 : RLB 6 b2) (he : RL 6 eV) (hn : 1 < st.length) (hA : st.length ≤ 1000) (t : Ps) (ht : gi st (st.length - 1 : Nat) = t) (hb : 0 ≤ t.body) (hbl : t.body < p.funs.length)
  (hc : 0 ≤ t.call) (hcl : t.call < p.l.length) (hx : 0 ≤ ix p (gi p.l t.call).x) (hxl : ix p (gi p.l t.call).x < cs.length) (hr : 0 ≤ ix p (gi p.funs t.body).ret) (hrl : ix p (gi p.funs t.body).ret < cs.length)
  (hat : 0 ≤ (gi st (st.length - 2 : Nat)).at' ∧ (gi st (st.length - 2 : Nat)).at' ≤ 1000) :
  FT Tryz.prog 25 [.ptr 5 0 0] (wh b0 b1 b2 gc gs cs st st.length eV h p at' s) fun rv H' => rv = .tuple [] ∧
   H' = wh b0 b1 b2 gc gs (holdF cs (ix p (gi p.l t.call).x) (gi cs (ix p (gi p.funs t.body).ret))) (moveF st (st.length - 2) ((gi st (st.length - 2 : Nat)).at' + 1)) (st.length - 1) eV h p at' s := by
 refine FTt hm Tryz.func25 c25_ok (Nat.le_of_ble_eq_true rfl) ?_
 simp (maxSteps := 3000000) [-List.length_flatten,-List.map_drop,-List.map_take,Function.comp_def,argsT,Opd.ev,Tm.get,put,ares,mapMo,ares1,snilP,bldParts,bslParts,putAt,AV.cells,AV.one,astore,aload,loadCs,callArgs,abin,abinInt,aapp,elems,appMore,appNone,preLen,aFa,aFld,apart,aExt,aPick,aNot,aLens,aEqa,cellsK,fitsA,LK.fitsA,leavesA,leafA,nilD,aNilc,aCint,aCid,alive,alen,alenOk,Rle,lePs,len_flat, c25]
 refine (top_FT rfl rfl (by omega) hA).mono ?_
 rintro _ _ ⟨rfl, rfl⟩
 have e2 := flat_at (f := Ps.cs) (sz := 3) (by simp) (l := st) (i := (st.length - 1 : Nat)) (by omega) (by omega)
 simp only [Int.toNat_natCast] at e2
 rw [ht] at e2
 have e1 : 3 ≤ st.length * 3 - (st.length - 1) * 3 := by omega
 have hb' : ¬ t.body < 0 := by omega
 simp (maxSteps := 3000000) [-List.length_flatten,-List.map_drop,-List.map_take,Function.comp_def,argsT,Opd.ev,Tm.get,put,ares,mapMo,ares1,snilP,bldParts,bslParts,putAt,AV.cells,AV.one,astore,aload,loadCs,callArgs,abin,abinInt,aapp,elems,appMore,appNone,preLen,aFa,aFld,apart,aExt,aPick,aNot,aLens,aEqa,cellsK,fitsA,LK.fitsA,leavesA,leafA,nilD,aNilc,aCint,aCid,alive,alen,alenOk,Rle,lePs,len_flat, Kc, e1, e2, hb', hb, hbl, hc, hcl]
 have m6 : ∀ {b : ABlk}, RLB 6 b → RLB 7 b := fun h => RLB_mono (by omega) h
 have hX : ∀ b ∈ ([.cells 0 [i64 t.body, i64 t.at', i64 t.call]] : AHeap), RLB 7 b := by simp [RLB]
 refine ⟨_, cell_FT (gi p.l t.call).x rfl, _, getT_FT (H2 := [.cells 0 [i64 t.body, i64 t.at', i64 t.call]]) (gi p.funs t.body).ret (m6 h0) (m6 h1) (m6 h2) hX (he.mono (by simp)) hr hrl, ?_⟩
 refine (holdT_FT (H2 := [.cells 0 [i64 t.body, i64 t.at', i64 t.call]]) (ix p (gi p.l t.call).x) (gi cs (ix p (gi p.funs t.body).ret)) (m6 h0) (m6 h1) (m6 h2) hX (he.mono (by simp)) hx hxl).mono ?_
 rintro _ _ ⟨rfl, rfl⟩
 have w1 : IntKind.i64.wrap ((st.length : Int) - 1) = ((st.length - 1 : Nat) : Int) := by rw [w64 (by omega) (by omega)]; omega
 have hA' : st.length ≤ maxA := by unfold maxA; omega
 have l1 : st.length - 1 ≤ st.length := by omega
 simp (maxSteps := 3000000) [-List.length_flatten,-List.map_drop,-List.map_take,Function.comp_def,argsT,Opd.ev,Tm.get,put,ares,mapMo,ares1,snilP,bldParts,bslParts,putAt,AV.cells,AV.one,astore,aload,loadCs,callArgs,abin,abinInt,aapp,elems,appMore,appNone,preLen,aFa,aFld,apart,aExt,aPick,aNot,aLens,aEqa,cellsK,fitsA,LK.fitsA,leavesA,leafA,nilD,aNilc,aCint,aCid,alive,alen,alenOk,Rle,lePs,len_flat, Kc, hA', w1, aSlc, aint, l1]
 refine (top_FT (h := h) (at' := at') (s := s) rfl rfl (by omega) (by omega)).mono ?_
 rintro _ _ ⟨rfl, rfl⟩
 have hk : st.length - 2 < st.length := by omega
 have k2 : st.length - 1 - 1 = st.length - 2 := by omega
 have d := drop_at st (st.length - 2) hk
 have e := set_at ((gi st (st.length - 2 : Nat)).at' + 1) st (st.length - 2) hk
 have l2 : (st.length - 2) * 3 + 1 + 1 ≤ st.length * 3 := by omega
 have l3 : 1 ≤ st.length * 3 - ((st.length - 2) * 3 + 1) := by omega
 have w3 : IntKind.i64.wrap ((gi st (st.length - 2 : Nat)).at' + 1) = (gi st (st.length - 2 : Nat)).at' + 1 := by rw [w64 (by omega) (by omega)]
 simp (maxSteps := 3000000) [-List.length_flatten,-List.map_drop,-List.map_take,Function.comp_def,argsT,Opd.ev,Tm.get,put,ares,mapMo,ares1,snilP,bldParts,bslParts,putAt,AV.cells,AV.one,astore,aload,loadCs,callArgs,abin,abinInt,aapp,elems,appMore,appNone,preLen,aFa,aFld,apart,aExt,aPick,aNot,aLens,aEqa,cellsK,fitsA,LK.fitsA,leavesA,leafA,nilD,aNilc,aCint,aCid,alive,alen,alenOk,Rle,lePs,len_flat, Kc, k2, d, l2, l3, w3]
 have e' : (List.map Ps.cs st).flatten.set ((st.length - 2) * 3 + 1) (AV.int IntKind.i64 ((gi st (st.length - 2 : Nat)).at' + 1)) = ((moveF st (st.length - 2) ((gi st (st.length - 2 : Nat)).at' + 1)).map Ps.cs).flatten := e
 rw [e']
 have hR := wh_RLB (gc := gc) (gs := gs) (cs := holdF cs (ix p (gi p.l t.call).x) (gi cs (ix p (gi p.funs t.body).ret))) (st := moveF st (st.length - 2) ((gi st (st.length - 2 : Nat)).at' + 1)) (ns := st.length - 1) (h := h) (p := p) (at' := at') (s := s) 6 (by omega) h0 h1 h2 he
 exact ⟨by simpa using hR, rfl⟩
end
end Go.AM

namespace Go.AM
open Go.Proofs
set_option maxRecDepth 100000
set_option linter.unusedVariables false
set_option linter.unusedSimpArgs false
structure Ed where
 a : Int
 b : Int
 deriving Inhabited, DecidableEq
abbrev Ed.cs (e : Ed) : List AV := [i64 e.a, i64 e.b]
abbrev pairs (l : List Ed) : AV := .rows false 2 (l.map Ed.cs)
theorem pairs_RL (n : Nat) (l : List Ed) : RL n (pairs l) := by simp
theorem Ed.ext' {x y : Ed} (h1 : x.a = y.a) (h2 : x.b = y.b) : x = y := by
 cases x; cases y
 simp_all
theorem index105_PF (l : List Ed) (e : Ed) : PF Tryz.prog 104 [pairs l, .agg e.cs] (i64 (fstAt (fun x => decide (x = e)) l)) := by
 refine PFk 9 hm Tryz.func104 c104_ok (Nat.le_of_ble_eq_true rfl) (by simp) (by simp) ?_
 simp (maxSteps := 3000000) [-List.length_flatten,-List.map_drop,-List.map_take,Function.comp_def,argsT,Opd.ev,Tm.get,put,ares,mapMo,ares1,snilP,bldParts,bslParts,putAt,AV.cells,AV.one,astore,aload,loadCs,callArgs,abin,abinInt,aapp,elems,appMore,appNone,preLen,aFa,aFld,apart,aExt,aPick,aNot,aLens,aEqa,cellsK,fitsA,LK.fitsA,leavesA,leafA,nilD,aNilc,aCint,aCid,alive,alen,alenOk,Rle,lePs,len_flat, c104]
 intro ha
 refine run_countK l.length 8 [(7, i64 l.length), (0, pairs l), (3, .ptr 0 0 0)] [.cells 0 e.cs] (fun i => ∀ j : Nat, j < i → ¬ gi l j = e) (Wk.sub (by simp [Tm.get])) (fun j hj => by omega) ?_
 intro i hi hj KK kx kr kn
 by_cases h : i < l.length
 ·by_cases h1 : e = gi l i
  ·simp (maxSteps := 3000000) [-List.length_flatten,-List.map_drop,-List.map_take,Function.comp_def,argsT,Opd.ev,Tm.get,put,ares,mapMo,ares1,snilP,bldParts,bslParts,putAt,AV.cells,AV.one,astore,aload,loadCs,callArgs,abin,abinInt,aapp,elems,appMore,appNone,preLen,aFa,aFld,apart,aExt,aPick,aNot,aLens,aEqa,cellsK,fitsA,LK.fitsA,leavesA,leafA,nilD,aNilc,aCint,aCid,alive,alen,alenOk,Rle,lePs,len_flat, h, kr, h1]
   exact (fstAt_some h (by simp) (fun j hl => by have := hj j hl; rw [h1] at this; simpa using this)).symm
  ·have h2 : ¬ (e.a = (gi l i).a ∧ e.b = (gi l i).b) := fun hh => h1 (Ed.ext' hh.1 hh.2)
   simp (maxSteps := 3000000) [-List.length_flatten,-List.map_drop,-List.map_take,Function.comp_def,argsT,Opd.ev,Tm.get,put,ares,mapMo,ares1,snilP,bldParts,bslParts,putAt,AV.cells,AV.one,astore,aload,loadCs,callArgs,abin,abinInt,aapp,elems,appMore,appNone,preLen,aFa,aFld,apart,aExt,aPick,aNot,aLens,aEqa,cellsK,fitsA,LK.fitsA,leavesA,leafA,nilD,aNilc,aCint,aCid,alive,alen,alenOk,Rle,lePs,len_flat, h]
   refine ⟨fun a b => absurd ⟨a, b⟩ h2, fun _ => ?_⟩
   refine kn _ _ (Kn_next 1 (by omega) (by omega) (fun j hl => ?_) (by simp [Tm.get, nxt h ha]) (by simp) rfl (by simp [RLB]))
   rcases Nat.lt_or_ge j i with h3 | h3
   ·exact hj j h3
   ·have : j = i := by omega
    subst this
    exact fun e => h1 e.symm
 ·simp (maxSteps := 3000000) [-List.length_flatten,-List.map_drop,-List.map_take,Function.comp_def,argsT,Opd.ev,Tm.get,put,ares,mapMo,ares1,snilP,bldParts,bslParts,putAt,AV.cells,AV.one,astore,aload,loadCs,callArgs,abin,abinInt,aapp,elems,appMore,appNone,preLen,aFa,aFld,apart,aExt,aPick,aNot,aLens,aEqa,cellsK,fitsA,LK.fitsA,leavesA,leafA,nilD,aNilc,aCint,aCid,alive,alen,alenOk,Rle,lePs,len_flat, h, kx]
  exact (fstAt_none (fun j hl => by simpa using hj j (by omega))).symm
theorem contains_PF (l : List Ed) (e : Ed) : PF Tryz.prog 83 [pairs l, .agg e.cs] (.bool (decide (0 ≤ fstAt (fun x => decide (x = e)) l))) := by
 refine PFk 9 hm Tryz.func83 c83_ok (Nat.le_of_ble_eq_true rfl) (by simp) (by simp) ?_
 simp (maxSteps := 3000000) [-List.length_flatten,-List.map_drop,-List.map_take,Function.comp_def,argsT,Opd.ev,Tm.get,put,ares,mapMo,ares1,snilP,bldParts,bslParts,putAt,AV.cells,AV.one,astore,aload,loadCs,callArgs,abin,abinInt,aapp,elems,appMore,appNone,preLen,aFa,aFld,apart,aExt,aPick,aNot,aLens,aEqa,cellsK,fitsA,LK.fitsA,leavesA,leafA,nilD,aNilc,aCint,aCid,alive,alen,alenOk,Rle,lePs,len_flat, c83]
 refine PF.call (index105_PF l e) 9 (by simp [lePs, -List.length_flatten, -List.map_drop, -List.map_take, Function.comp_def, len_flat]) ?_
 simp (maxSteps := 3000000) [-List.length_flatten,-List.map_drop,-List.map_take,Function.comp_def,argsT,Opd.ev,Tm.get,put,ares,mapMo,ares1,snilP,bldParts,bslParts,putAt,AV.cells,AV.one,astore,aload,loadCs,callArgs,abin,abinInt,aapp,elems,appMore,appNone,preLen,aFa,aFld,apart,aExt,aPick,aNot,aLens,aEqa,cellsK,fitsA,LK.fitsA,leavesA,leafA,nilD,aNilc,aCint,aCid,alive,alen,alenOk,Rle,lePs,len_flat, Kc]
theorem clip_PF (l : List Ed) (h : l.length ≤ 1000000) : PF Tryz.prog 84 [pairs l] (.rows true 2 (l.map Ed.cs)) := by
 refine PFk 9 hm Tryz.func84 c84_ok (Nat.le_of_ble_eq_true rfl) (by simp) (by simp) ?_
 have hA : l.length ≤ maxA := by unfold maxA; omega
 simp (maxSteps := 3000000) [-List.length_flatten,-List.map_drop,-List.map_take,Function.comp_def,argsT,Opd.ev,Tm.get,put,ares,mapMo,ares1,snilP,bldParts,bslParts,putAt,AV.cells,AV.one,astore,aload,loadCs,callArgs,abin,abinInt,aapp,elems,appMore,appNone,preLen,aFa,aFld,apart,aExt,aPick,aNot,aLens,aEqa,cellsK,fitsA,LK.fitsA,leavesA,leafA,nilD,aNilc,aCint,aCid,alive,alen,alenOk,Rle,lePs,len_flat, c84, hA, aSlc, aint]
 rw [List.take_of_length_le (by simp)]
 simp
section
variable {b0 b1 b2 : ABlk} {gc gs : Nat} {cs : List Cl} {st : List Ps} {es : List Ed} {h : Int} {p : Pg} {at' : Int} {s : Stm}
theorem callBad_FT (h0 : RLB 6 b0) (h1 : RLB 6 b1) (h2 : RLB 6 b2) (hy : 0 ≤ ix p s.y) (hyl : ix p s.y < cs.length) (hv : (gi cs (ix p s.y)).kind = 2 → 0 ≤ (gi cs (ix p s.y)).v ∧ (gi cs (ix p s.y)).v < p.funs.length)
  (hp : ∀ f ∈ p.funs, f.params.length ≤ 4) (ha : s.args.length ≤ 4) (hbad : (gi cs (ix p s.y)).kind = 2 → (gi p.funs (gi cs (ix p s.y)).v).params.length ≠ s.args.length) :
  FT Tryz.prog 60 [.ptr 5 0 0] (wh b0 b1 b2 gc gs cs st st.length (pairs es) h p at' s) fun rv H' => rv = .tuple [] ∧ H' = wh b0 b1 b2 gc gs cs st st.length (pairs es) 3 p at' s := by
 refine FTt hm Tryz.func60 c60_ok (Nat.le_of_ble_eq_true rfl) ?_
 simp (maxSteps := 3000000) [-List.length_flatten,-List.map_drop,-List.map_take,Function.comp_def,argsT,Opd.ev,Tm.get,put,ares,mapMo,ares1,snilP,bldParts,bslParts,putAt,AV.cells,AV.one,astore,aload,loadCs,callArgs,abin,abinInt,aapp,elems,appMore,appNone,preLen,aFa,aFld,apart,aExt,aPick,aNot,aLens,aEqa,cellsK,fitsA,LK.fitsA,leavesA,leafA,nilD,aNilc,aCint,aCid,alive,alen,alenOk,Rle,lePs,len_flat, c60]
 refine (get_FT s.y h0 h1 h2 (by simp) hy hyl).mono ?_
 rintro _ _ ⟨rfl, rfl⟩
 have hR := wh_RLB (gc := gc) (gs := gs) (cs := cs) (st := st) (ns := st.length) (eV := pairs es) (h := 3) (p := p) (at' := at') (s := s) 6 (by omega) h0 h1 h2 (by simp)
 by_cases hk : (gi cs (ix p s.y)).kind = 2
 ·obtain ⟨v0, v1⟩ := hv hk
  have hb := hbad hk
  have hb' : ¬ ((gi p.funs (gi cs (ix p s.y)).v).params.length : Int) = s.args.length := by omega
  have hpl : (gi p.funs (gi cs (ix p s.y)).v).params.length ≤ maxA := by
   have := hp (gi p.funs (gi cs (ix p s.y)).v) (by
    have := gi_mem (l := p.funs) (i := (gi cs (ix p s.y)).v.toNat) (by omega)
    rwa [Int.toNat_of_nonneg v0] at this)
   unfold maxA; omega
  have hal : s.args.length ≤ maxA := by unfold maxA; omega
  simp (maxSteps := 3000000) [-List.length_flatten,-List.map_drop,-List.map_take,Function.comp_def,argsT,Opd.ev,Tm.get,put,ares,mapMo,ares1,snilP,bldParts,bslParts,putAt,AV.cells,AV.one,astore,aload,loadCs,callArgs,abin,abinInt,aapp,elems,appMore,appNone,preLen,aFa,aFld,apart,aExt,aPick,aNot,aLens,aEqa,cellsK,fitsA,LK.fitsA,leavesA,leafA,nilD,aNilc,aCint,aCid,alive,alen,alenOk,Rle,lePs,len_flat, Kc, hk, v0, v1, hpl, hal, hb']
  simpa using hR
 ·simp (maxSteps := 3000000) [-List.length_flatten,-List.map_drop,-List.map_take,Function.comp_def,argsT,Opd.ev,Tm.get,put,ares,mapMo,ares1,snilP,bldParts,bslParts,putAt,AV.cells,AV.one,astore,aload,loadCs,callArgs,abin,abinInt,aapp,elems,appMore,appNone,preLen,aFa,aFld,apart,aExt,aPick,aNot,aLens,aEqa,cellsK,fitsA,LK.fitsA,leavesA,leafA,nilD,aNilc,aCint,aCid,alive,alen,alenOk,Rle,lePs,len_flat, Kc, hk]
  simpa using hR
theorem callDeep_FT (h0 : RLB 6 b0) (h1 : RLB 6 b1) (h2 : RLB 6 b2) (hy : 0 ≤ ix p s.y) (hyl : ix p s.y < cs.length) (hk : (gi cs (ix p s.y)).kind = 2) (v0 : 0 ≤ (gi cs (ix p s.y)).v) (v1 : (gi cs (ix p s.y)).v < p.funs.length)
  (ha : s.args.length ≤ 4) (hb : (gi p.funs (gi cs (ix p s.y)).v).params.length = s.args.length) (hd : 20 ≤ st.length) (hd' : st.length ≤ 1000) :
  FT Tryz.prog 60 [.ptr 5 0 0] (wh b0 b1 b2 gc gs cs st st.length (pairs es) h p at' s) fun rv H' => rv = .tuple [] ∧ H' = wh b0 b1 b2 gc gs cs st st.length (pairs es) 4 p at' s := by
 refine FTt hm Tryz.func60 c60_ok (Nat.le_of_ble_eq_true rfl) ?_
 simp (maxSteps := 3000000) [-List.length_flatten,-List.map_drop,-List.map_take,Function.comp_def,argsT,Opd.ev,Tm.get,put,ares,mapMo,ares1,snilP,bldParts,bslParts,putAt,AV.cells,AV.one,astore,aload,loadCs,callArgs,abin,abinInt,aapp,elems,appMore,appNone,preLen,aFa,aFld,apart,aExt,aPick,aNot,aLens,aEqa,cellsK,fitsA,LK.fitsA,leavesA,leafA,nilD,aNilc,aCint,aCid,alive,alen,alenOk,Rle,lePs,len_flat, c60]
 refine (get_FT s.y h0 h1 h2 (by simp) hy hyl).mono ?_
 rintro _ _ ⟨rfl, rfl⟩
 have hR := wh_RLB (gc := gc) (gs := gs) (cs := cs) (st := st) (ns := st.length) (eV := pairs es) (h := 4) (p := p) (at' := at') (s := s) 6 (by omega) h0 h1 h2 (by simp)
 have hpl : (gi p.funs (gi cs (ix p s.y)).v).params.length ≤ maxA := by unfold maxA; omega
 have hal : s.args.length ≤ maxA := by unfold maxA; omega
 have hsl : st.length ≤ maxA := by unfold maxA; omega
 have hd2 : 20 ≤ (st.length : Int) := by omega
 simp (maxSteps := 3000000) [-List.length_flatten,-List.map_drop,-List.map_take,Function.comp_def,argsT,Opd.ev,Tm.get,put,ares,mapMo,ares1,snilP,bldParts,bslParts,putAt,AV.cells,AV.one,astore,aload,loadCs,callArgs,abin,abinInt,aapp,elems,appMore,appNone,preLen,aFa,aFld,apart,aExt,aPick,aNot,aLens,aEqa,cellsK,fitsA,LK.fitsA,leavesA,leafA,nilD,aNilc,aCint,aCid,alive,alen,alenOk,Rle,lePs,len_flat, Kc, hk, v0, v1, hpl, hal, hb, hd2, hsl]
 simpa using hR
def passN (p : Pg) (cs : List Cl) (ps qs : List ByteArray) : Nat → List Cl
 | 0 => cs
 | i + 1 => holdF (passN p cs ps qs i) (ix p (gi ps i)) (gi cs (ix p (gi qs i)))
theorem passN_len (p : Pg) (cs : List Cl) (ps qs : List ByteArray) : ∀ i, (passN p cs ps qs i).length = cs.length
 | 0 => rfl
 | i + 1 => by simp [passN, holdF, passN_len p cs ps qs i]
theorem callOk_FT (h0 : RLB 6 b0) (h1 : RLB 6 b1) (h2 : RLB 6 b2) (hy : 0 ≤ ix p s.y) (hyl : ix p s.y < cs.length) (hk : (gi cs (ix p s.y)).kind = 2) (v0 : 0 ≤ (gi cs (ix p s.y)).v) (v1 : (gi cs (ix p s.y)).v < p.funs.length)
  (ha : s.args.length ≤ 4) (hb : (gi p.funs (gi cs (ix p s.y)).v).params.length = s.args.length) (hd : st.length < 20) (hes : es.length ≤ 100000)
  (hpar : ∀ a ∈ (gi p.funs (gi cs (ix p s.y)).v).params, 0 ≤ ix p a ∧ ix p a < cs.length) (harg : ∀ a ∈ s.args, 0 ≤ ix p a ∧ ix p a < cs.length) :
  FT Tryz.prog 60 [.ptr 5 0 0] (wh b0 b1 b2 gc gs cs st st.length (pairs es) h p at' s) fun rv H' => rv = .tuple [] ∧ ∃ gs',
   H' = wh b0 b1 b2 gc gs' (passN p cs (gi p.funs (gi cs (ix p s.y)).v).params s.args s.args.length) (st ++ [(⟨(gi cs (ix p s.y)).v, 0, at'⟩ : Ps)]) (st.length + 1) (pairs (if 0 ≤ fstAt (fun x => decide (x = ⟨at', (gi cs (ix p s.y)).v⟩)) es then es else es ++ [⟨at', (gi cs (ix p s.y)).v⟩])) h p at' s := by
 generalize hE : (⟨at', (gi cs (ix p s.y)).v⟩ : Ed) = E
 generalize hC : passN p cs (gi p.funs (gi cs (ix p s.y)).v).params s.args s.args.length = cs'
 refine FT.wk (R' := fun rv H' => rv = .tuple [] ∧ ∃ (x6 x7 x8 : ABlk) (gs' : Nat), (¬ 0 ≤ fstAt (fun x => decide (x = E)) es ∧ H' = [b0, b1, b2, .cells gc (cs'.map Cl.cs).flatten, .cells gs' ((st ++ [(⟨(gi cs (ix p s.y)).v, 0, at'⟩ : Ps)]).map Ps.cs).flatten,
   .cells 0 (wk gc gs' cs'.length (st.length + 1) (.loc 9 0 0 (es.length + 1) 2 false) h p at' s), x6, x7, x8, .cells 0 ((es ++ [E]).map Ed.cs).flatten]) ∨
   (0 ≤ fstAt (fun x => decide (x = E)) es ∧ H' = [b0, b1, b2, .cells gc (cs'.map Cl.cs).flatten, .cells gs' ((st ++ [(⟨(gi cs (ix p s.y)).v, 0, at'⟩ : Ps)]).map Ps.cs).flatten,
   .cells 0 (wk gc gs' cs'.length (st.length + 1) (pairs es) h p at' s), x6, x7, x8])) (FTk hm Tryz.func60 c60_ok (Nat.le_of_ble_eq_true rfl) ?_) ?_
 rotate_left
 ·rintro rv H' ⟨rfl, x6, x7, x8, gs', ⟨hn, rfl⟩ | ⟨hn, rfl⟩⟩
  ·have hF : ∀ n, fz 9 0 ((es ++ [E]).map Ed.cs).flatten (n + 1) (.loc 9 0 0 (es.length + 1) 2 false) = pairs (es ++ [E]) := fun n => by
    have hc := chunk_flat (sz := 2) (f := Ed.cs) (l := es ++ [E]) (by simp)
    have hlen := len_flat (sz := 2) (f := Ed.cs) (l := es ++ [E]) (by simp)
    simp only [fz]
    rw [if_pos ⟨trivial, trivial, by rw [hlen]; simp⟩, List.drop_zero, show es.length + 1 = (es ++ [E]).length by simp, hc]
   have e0 := fzB_id (i := 9) (g := 0) (k := 9) (cs := ((es ++ [E]).map Ed.cs).flatten) (by omega) h0
   have e1 := fzB_id (i := 9) (g := 0) (k := 9) (cs := ((es ++ [E]).map Ed.cs).flatten) (by omega) h1
   have e2 := fzB_id (i := 9) (g := 0) (k := 9) (cs := ((es ++ [E]).map Ed.cs).flatten) (by omega) h2
   have e3 := fzB_id (n := 6) (i := 9) (g := 0) (k := 9) (cs := ((es ++ [E]).map Ed.cs).flatten) (by omega) (b := .cells gc (cs'.map Cl.cs).flatten) (flat_RL (by simp) _)
   have e4 := fzB_id (n := 6) (i := 9) (g := 0) (k := 9) (cs := ((es ++ [E]).map Ed.cs).flatten) (by omega) (b := .cells gs' ((st ++ [(⟨(gi cs (ix p s.y)).v, 0, at'⟩ : Ps)]).map Ps.cs).flatten) (flat_RL (by simp) _)
   have hR := wh_RLB (b0 := b0) (b1 := b1) (b2 := b2) (gc := gc) (gs := gs') (cs := cs') (st := st ++ [(⟨(gi cs (ix p s.y)).v, 0, at'⟩ : Ps)]) (ns := st.length + 1) (eV := pairs (es ++ [E])) (h := h) (p := p) (at' := at') (s := s) 6 (by omega) h0 h1 h2 (pairs_RL _ _)
   have k1 := Wk.fz (lo := 6) (T := [(0, .tuple [])]) (H := [b0, b1, b2, .cells gc (cs'.map Cl.cs).flatten, .cells gs' ((st ++ [(⟨(gi cs (ix p s.y)).v, 0, at'⟩ : Ps)]).map Ps.cs).flatten,
   .cells 0 (wk gc gs' cs'.length (st.length + 1) (.loc 9 0 0 (es.length + 1) 2 false) h p at' s), x6, x7, x8, .cells 0 ((es ++ [E]).map Ed.cs).flatten]) 9 9 (g := 0) rfl
   have e5 : fzB 9 0 ((es ++ [E]).map Ed.cs).flatten 9 (.cells 0 (wk gc gs' cs'.length (st.length + 1) (.loc 9 0 0 (es.length + 1) 2 false) h p at' s)) = .cells 0 (wk gc gs' cs'.length (st.length + 1) (pairs (es ++ [E])) h p at' s) := by
    simp only [fzB, wk, List.map_cons, List.map_nil, hF 8]
    rfl
   simp only [List.map_cons, List.map_nil, e0, e1, e2, e3, e4, e5] at k1
   refine ⟨.tuple [], _, k1.trans (Wk.trunc 6 (by simp) (by simp [fzT, fz]) (fun b hb => hR b hb)), rfl, gs', ?_⟩
   rw [if_neg hn]
   rfl
  ·have hR := wh_RLB (b0 := b0) (b1 := b1) (b2 := b2) (gc := gc) (gs := gs') (cs := cs') (st := st ++ [(⟨(gi cs (ix p s.y)).v, 0, at'⟩ : Ps)]) (ns := st.length + 1) (eV := pairs es) (h := h) (p := p) (at' := at') (s := s) 6 (by omega) h0 h1 h2 (by simp)
   refine ⟨.tuple [], _, Wk.trunc 6 (by simp) (by simp) (fun b hb => hR b hb), rfl, gs', ?_⟩
   rw [if_pos hn]
   rfl
 simp (maxSteps := 3000000) [-List.length_flatten,-List.map_drop,-List.map_take,Function.comp_def,argsT,Opd.ev,Tm.get,put,ares,mapMo,ares1,snilP,bldParts,bslParts,putAt,AV.cells,AV.one,astore,aload,loadCs,callArgs,abin,abinInt,aapp,elems,appMore,appNone,preLen,aFa,aFld,apart,aExt,aPick,aNot,aLens,aEqa,cellsK,fitsA,LK.fitsA,leavesA,leafA,nilD,aNilc,aCint,aCid,alive,alen,alenOk,Rle,lePs,len_flat, c60]
 refine (get_FT s.y h0 h1 h2 (by simp) hy hyl).mono ?_
 rintro _ _ ⟨rfl, rfl⟩
 have hpl : (gi p.funs (gi cs (ix p s.y)).v).params.length ≤ maxA := by unfold maxA; omega
 have hal : s.args.length ≤ maxA := by unfold maxA; omega
 have hsl : st.length ≤ maxA := by unfold maxA; omega
 have hd2 : ¬ 20 ≤ (st.length : Int) := by omega
 simp (maxSteps := 3000000) [-List.length_flatten,-List.map_drop,-List.map_take,Function.comp_def,argsT,Opd.ev,Tm.get,put,ares,mapMo,ares1,snilP,bldParts,bslParts,putAt,AV.cells,AV.one,astore,aload,loadCs,callArgs,abin,abinInt,aapp,elems,appMore,appNone,preLen,aFa,aFld,apart,aExt,aPick,aNot,aLens,aEqa,cellsK,fitsA,LK.fitsA,leavesA,leafA,nilD,aNilc,aCint,aCid,alive,alen,alenOk,Rle,lePs,len_flat, Kc, hk, v0, v1, hpl, hal, hb, hd2, hsl]
 have m8 : ∀ {b : ABlk}, RLB 6 b → RLB 8 b := fun h => RLB_mono (by omega) h
 refine run_loopK (fun m T H => ∃ (i g : Nat), m = s.args.length - i ∧ i ≤ s.args.length ∧ T = [(62, i64 i), (61, i64 s.args.length), (60, strs s.args), (3, .loc 7 g 0 i 3 false), (0, .ptr 5 0 0), (2, .ptr 6 0 0)] ∧
  H = whT b0 b1 b2 gc gs cs st st.length (pairs es) h p at' s [.cells 0 (gi cs (ix p s.y)).cs, .cells g ((s.args.take i).map fun x => (gi cs (ix p x)).cs).flatten]) s.args.length
  [(62, i64 (0 : Nat)), (61, i64 s.args.length), (60, strs s.args), (3, .loc 7 0 0 0 3 false), (0, .ptr 5 0 0), (2, .ptr 6 0 0)] _ ((Wk.nil 3 3 (by simp [Tm.get])).trans (Wk.sub (by simp [Tm.get]))) ⟨0, 0, rfl, by omega, rfl, by simp; exact hk.symm⟩ ?_
 rintro m T H ⟨i, g, rfl, hi, rfl, rfl⟩ KK kx kr kn
 have hlen : ((s.args.take i).map fun x => (gi cs (ix p x)).cs).flatten.length = i * 3 := by
  rw [len_flat (sz := 3) (by simp)]
  simp
  omega
 have hX : ∀ b ∈ ([.cells 0 (gi cs (ix p s.y)).cs, .cells g ((s.args.take i).map fun x => (gi cs (ix p x)).cs).flatten] : AHeap), RLB 8 b := by
  intro b hb
  simp only [List.mem_cons, List.not_mem_nil, or_false] at hb
  rcases hb with rfl | rfl
  ·simp [RLB]
  ·exact flat_RL (by simp) _
 by_cases hl : i < s.args.length
 ·obtain ⟨g0, g1⟩ := harg _ (gi_mem hl)
  have i1 : i + 1 ≤ maxA := by omega
  have tk : List.take (i * 3) ((s.args.take i).map fun x => (gi cs (ix p x)).cs).flatten ++ [i64 (gi cs (ix p (gi s.args i))).loc, i64 (gi cs (ix p (gi s.args i))).kind, i64 (gi cs (ix p (gi s.args i))).v] = ((s.args.take (i + 1)).map fun x => (gi cs (ix p x)).cs).flatten := by
   have := app_one (f := fun x => (gi cs (ix p x)).cs) (l := s.args.take i) (sz := 3) (by simp) (gi s.args i) rfl
   rw [← take_next hl] at this
   rw [← this]
   congr 2
   simp
   omega
  simp (maxSteps := 3000000) [-List.length_flatten,-List.map_drop,-List.map_take,Function.comp_def,argsT,Opd.ev,Tm.get,put,ares,mapMo,ares1,snilP,bldParts,bslParts,putAt,AV.cells,AV.one,astore,aload,loadCs,callArgs,abin,abinInt,aapp,elems,appMore,appNone,preLen,aFa,aFld,apart,aExt,aPick,aNot,aLens,aEqa,cellsK,fitsA,LK.fitsA,leavesA,leafA,nilD,aNilc,aCint,aCid,alive,alen,alenOk,Rle,lePs,len_flat, hl]
  refine (getT_FT (H2 := [.cells 0 (gi cs (ix p s.y)).cs, .cells g ((s.args.take i).map fun x => (gi cs (ix p x)).cs).flatten]) (gi s.args i) (m8 h0) (m8 h1) (m8 h2) hX (pairs_RL _ _) g0 g1).mono ?_
  rintro _ _ ⟨rfl, rfl⟩
  simp (maxSteps := 3000000) [-List.length_flatten,-List.map_drop,-List.map_take,Function.comp_def,argsT,Opd.ev,Tm.get,put,ares,mapMo,ares1,snilP,bldParts,bslParts,putAt,AV.cells,AV.one,astore,aload,loadCs,callArgs,abin,abinInt,aapp,elems,appMore,appNone,preLen,aFa,aFld,apart,aExt,aPick,aNot,aLens,aEqa,cellsK,fitsA,LK.fitsA,leavesA,leafA,nilD,aNilc,aCint,aCid,alive,alen,alenOk,Rle,lePs,len_flat, Kc, hlen, i1, tk]
  intro _ _
  exact kn _ _ (Kl_sub (s.args.length - (i + 1)) (T' := [(62, i64 (i + 1 : Nat)), (61, i64 s.args.length), (60, strs s.args), (3, .loc 7 (g + 1) 0 (i + 1) 3 false), (0, .ptr 5 0 0), (2, .ptr 6 0 0)]) ⟨i + 1, g + 1, rfl, by omega, rfl, rfl⟩ (by simp [Tm.get, nxt hl hal]) (by omega))
 ·have hii : i = s.args.length := by omega
  subst hii
  rw [List.take_length] at hlen hX ⊢
  simp (maxSteps := 3000000) [-List.length_flatten,-List.map_drop,-List.map_take,Function.comp_def,argsT,Opd.ev,Tm.get,put,ares,mapMo,ares1,snilP,bldParts,bslParts,putAt,AV.cells,AV.one,astore,aload,loadCs,callArgs,abin,abinInt,aapp,elems,appMore,appNone,preLen,aFa,aFld,apart,aExt,aPick,aNot,aLens,aEqa,cellsK,fitsA,LK.fitsA,leavesA,leafA,nilD,aNilc,aCint,aCid,alive,alen,alenOk,Rle,lePs,len_flat, hl, kx, v0, v1, hpl]
  generalize hPS : (gi p.funs (gi cs (ix p s.y)).v).params = PS at *
  refine run_loopK (fun m T H => ∃ i : Nat, m = s.args.length - i ∧ i ≤ s.args.length ∧ T = [(84, i64 i), (83, i64 s.args.length), (82, strs PS), (3, .loc 7 g 0 s.args.length 3 false), (0, .ptr 5 0 0), (2, .ptr 6 0 0)] ∧
   H = whT b0 b1 b2 gc gs (passN p cs PS s.args i) st st.length (pairs es) h p at' s [.cells 0 (gi cs (ix p s.y)).cs, .cells g (s.args.map fun x => (gi cs (ix p x)).cs).flatten]) s.args.length
   [(84, i64 (0 : Nat)), (83, i64 s.args.length), (82, strs PS), (3, .loc 7 g 0 s.args.length 3 false), (0, .ptr 5 0 0), (2, .ptr 6 0 0)] _ (Wk.sub (by simp [Tm.get, hb])) ⟨0, rfl, by omega, rfl, rfl⟩ ?_
  clear kx kr kn
  rintro m T H ⟨i, rfl, hi, rfl, rfl⟩ KK kx kr kn
  have hpn := passN_len p cs PS s.args i
  by_cases hl : i < s.args.length
  ·have hl' : i < PS.length := by omega
   obtain ⟨g0, g1⟩ := hpar _ (gi_mem hl')
   have e2 := flat_at (f := fun x => (gi cs (ix p x)).cs) (sz := 3) (by simp) (l := s.args) (i := (i : Int)) (by omega) (by omega)
   simp only [Int.toNat_natCast] at e2
   have e1 : 3 ≤ s.args.length * 3 - i * 3 := by omega
   simp (maxSteps := 3000000) [-List.length_flatten,-List.map_drop,-List.map_take,Function.comp_def,argsT,Opd.ev,Tm.get,put,ares,mapMo,ares1,snilP,bldParts,bslParts,putAt,AV.cells,AV.one,astore,aload,loadCs,callArgs,abin,abinInt,aapp,elems,appMore,appNone,preLen,aFa,aFld,apart,aExt,aPick,aNot,aLens,aEqa,cellsK,fitsA,LK.fitsA,leavesA,leafA,nilD,aNilc,aCint,aCid,alive,alen,alenOk,Rle,lePs,len_flat, hl, hl', hlen, e1, e2]
   refine ⟨_, cell_FT (gi PS i) rfl, ?_⟩
   refine (holdT_FT (cs := passN p cs PS s.args i) (H2 := [.cells 0 (gi cs (ix p s.y)).cs, .cells g (s.args.map fun x => (gi cs (ix p x)).cs).flatten]) (ix p (gi PS i)) (gi cs (ix p (gi s.args i))) (m8 h0) (m8 h1) (m8 h2) hX (pairs_RL _ _) g0 (by rw [hpn]; exact g1)).mono ?_
   rintro _ _ ⟨rfl, rfl⟩
   simp (maxSteps := 3000000) [-List.length_flatten,-List.map_drop,-List.map_take,Function.comp_def,argsT,Opd.ev,Tm.get,put,ares,mapMo,ares1,snilP,bldParts,bslParts,putAt,AV.cells,AV.one,astore,aload,loadCs,callArgs,abin,abinInt,aapp,elems,appMore,appNone,preLen,aFa,aFld,apart,aExt,aPick,aNot,aLens,aEqa,cellsK,fitsA,LK.fitsA,leavesA,leafA,nilD,aNilc,aCint,aCid,alive,alen,alenOk,Rle,lePs,len_flat, Kc]
   exact kn _ _ (Kl_sub (s.args.length - (i + 1)) (T' := [(84, i64 (i + 1 : Nat)), (83, i64 s.args.length), (82, strs PS), (3, .loc 7 g 0 s.args.length 3 false), (0, .ptr 5 0 0), (2, .ptr 6 0 0)]) ⟨i + 1, rfl, by omega, rfl, rfl⟩ (by simp [Tm.get, nxt hl hal]) (by omega))
  ·have hii : i = s.args.length := by omega
   subst hii
   rw [hC]
   simp (maxSteps := 3000000) [-List.length_flatten,-List.map_drop,-List.map_take,Function.comp_def,argsT,Opd.ev,Tm.get,put,ares,mapMo,ares1,snilP,bldParts,bslParts,putAt,AV.cells,AV.one,astore,aload,loadCs,callArgs,abin,abinInt,aapp,elems,appMore,appNone,preLen,aFa,aFld,apart,aExt,aPick,aNot,aLens,aEqa,cellsK,fitsA,LK.fitsA,leavesA,leafA,nilD,aNilc,aCint,aCid,alive,alen,alenOk,Rle,lePs,len_flat, hl, kx]
   refine ⟨_, (contains_PF es ⟨at', (gi cs (ix p s.y)).v⟩).frame _, ?_⟩
   have hst : st.length + 1 ≤ maxA := by unfold maxA; omega
   have hel : es.length + 1 ≤ maxA := by unfold maxA; omega
   have tk0 := take_flat (f := Ps.cs) (sz := 3) (by simp) st
   rw [hE]
   by_cases hin : 0 ≤ fstAt (fun x => decide (x = E)) es
   ·simp (maxSteps := 3000000) [-List.length_flatten,-List.map_drop,-List.map_take,Function.comp_def,argsT,Opd.ev,Tm.get,put,ares,mapMo,ares1,snilP,bldParts,bslParts,putAt,AV.cells,AV.one,astore,aload,loadCs,callArgs,abin,abinInt,aapp,elems,appMore,appNone,preLen,aFa,aFld,apart,aExt,aPick,aNot,aLens,aEqa,cellsK,fitsA,LK.fitsA,leavesA,leafA,nilD,aNilc,aCint,aCid,alive,alen,alenOk,Rle,lePs,len_flat, Kc, hin, hst, hsl]
    exact fun _ => ⟨_, _, _, _, ⟨rfl, tk0⟩, rfl, rfl, rfl, rfl⟩
   ·simp (maxSteps := 3000000) [-List.length_flatten,-List.map_drop,-List.map_take,Function.comp_def,argsT,Opd.ev,Tm.get,put,ares,mapMo,ares1,snilP,bldParts,bslParts,putAt,AV.cells,AV.one,astore,aload,loadCs,callArgs,abin,abinInt,aapp,elems,appMore,appNone,preLen,aFa,aFld,apart,aExt,aPick,aNot,aLens,aEqa,cellsK,fitsA,LK.fitsA,leavesA,leafA,nilD,aNilc,aCint,aCid,alive,alen,alenOk,Rle,lePs,len_flat, Kc, hin, hst, hsl]
    refine ⟨_, clip_PF es (by omega), ?_⟩
    simp (maxSteps := 3000000) [-List.length_flatten,-List.map_drop,-List.map_take,Function.comp_def,argsT,Opd.ev,Tm.get,put,ares,mapMo,ares1,snilP,bldParts,bslParts,putAt,AV.cells,AV.one,astore,aload,loadCs,callArgs,abin,abinInt,aapp,elems,appMore,appNone,preLen,aFa,aFld,apart,aExt,aPick,aNot,aLens,aEqa,cellsK,fitsA,LK.fitsA,leavesA,leafA,nilD,aNilc,aCint,aCid,alive,alen,alenOk,Rle,lePs,len_flat, Kc, hin, hst, hsl, hel]
    exact fun _ _ => ⟨by omega, _, _, _, _, ⟨rfl, tk0⟩, rfl, rfl, rfl, rfl, by rw [← hE], by rw [← hE]⟩
end
end Go.AM

namespace Go.AM
open Go.Proofs
set_option maxRecDepth 100000
set_option linter.unusedVariables false
set_option linter.unusedSimpArgs false
/-- What a statement does that is no call. -/
def doneF (p : Pg) (cs : List Cl) (s : Stm) : List Cl × Int :=
 if s.kind = 1 then (holdF cs (ix p s.x) ⟨0, 1, ix p s.y⟩, 0)
 else if s.kind = 2 then (if cs.length = 200 then (cs, 5) else (holdF (cs ++ [⟨(varsOf p).length + s.n, 0, 0⟩]) (ix p s.x) ⟨0, 1, cs.length⟩, 0))
 else if s.kind = 3 then (holdF cs (ix p s.x) (gi cs (ix p s.y)), 0)
 else if s.kind = 4 then (if (gi cs (ix p s.y)).kind = 1 then (holdF cs (ix p s.x) (gi cs (gi cs (ix p s.y)).v), 0) else (cs, 2))
 else if s.kind = 5 then (if (gi cs (ix p s.x)).kind = 1 then (holdF cs (gi cs (ix p s.x)).v (gi cs (ix p s.y)), 0) else (cs, 2))
 else (holdF cs (ix p s.x) ⟨0, 2, fx p s.y⟩, 0)
/-- What a machine's cells are. -/
structure CsOk (p : Pg) (cs : List Cl) : Prop where
 few : cs.length ≤ 200
 vars : (varsOf p).length ≤ cs.length
 vals : ∀ c ∈ cs, 0 ≤ c.kind ∧ c.kind ≤ 2 ∧ (c.kind = 0 → c.v = 0) ∧ (c.kind = 1 → 0 ≤ c.v ∧ c.v < cs.length) ∧ (c.kind = 2 → 0 ≤ c.v ∧ c.v < p.funs.length)
 locs : ∀ i : Nat, i < cs.length → (i < (varsOf p).length → (gi cs i).loc = i) ∧ ((varsOf p).length ≤ i → ((varsOf p).length : Int) ≤ (gi cs i).loc ∧ (gi cs i).loc < (varsOf p).length + sitesN p.l)
/-- What a statement asks of its program. -/
structure StOk (p : Pg) (s : Stm) : Prop where
 kind : 1 ≤ s.kind ∧ s.kind ≤ 7
 x : 0 ≤ ix p s.x ∧ ix p s.x < (varsOf p).length
 y : s.kind ≠ 2 → s.kind ≠ 6 → 0 ≤ ix p s.y ∧ ix p s.y < (varsOf p).length
 n : s.kind = 2 → 0 ≤ s.n ∧ s.n < sitesN p.l
 f : s.kind = 6 → 0 ≤ fx p s.y ∧ fx p s.y < p.funs.length
 args : ∀ a ∈ s.args, 0 ≤ ix p a ∧ ix p a < (varsOf p).length
 few : s.args.length ≤ 4
section
variable {b0 b1 b2 : ABlk} {gc gs : Nat} {cs : List Cl} {st : List Ps} {es : List Ed} {h : Int} {p : Pg} {at' : Int} {s : Stm}
theorem giz_mem {α : Type} [Inhabited α] {l : List α} {i : Int} (h0 : 0 ≤ i) (h : i < l.length) : gi l i ∈ l := by
 have := gi_mem (l := l) (i := i.toNat) (by omega)
 rwa [Int.toNat_of_nonneg h0] at this
def fnOf (k : Int) : Nat := if k = 1 then 54 else if k = 2 then 55 else if k = 3 then 56 else if k = 4 then 57 else if k = 5 then 58 else 59
theorem done_FT (h0 : RLB 6 b0) (h1 : RLB 6 b1) (h2 : RLB 6 b2) (hc : CsOk p cs) (hs : StOk p s) (hn : Neat p) (hk : s.kind ≠ 7) :
  FT Tryz.prog (fnOf s.kind) [.ptr 5 0 0] (wh b0 b1 b2 gc gs cs st st.length (pairs es) 0 p at' s) fun rv H' => rv = .tuple [] ∧ ∃ gc', H' = wh b0 b1 b2 gc' gs (doneF p cs s).1 st st.length (pairs es) (doneF p cs s).2 p at' s := by
 obtain ⟨x0, x1⟩ := hs.x
 have hv := hc.vars
 have hl := hn.locs
 have hx1 : ix p s.x < cs.length := by omega
 have hkk := hs.kind
 have hkc : s.kind = 1 ∨ s.kind = 2 ∨ s.kind = 3 ∨ s.kind = 4 ∨ s.kind = 5 ∨ s.kind = 6 := by omega
 rcases hkc with hk | hk | hk | hk | hk | hk
 ·rw [show fnOf s.kind = 54 by simp [fnOf, hk], show doneF p cs s = (holdF cs (ix p s.x) ⟨0, 1, ix p s.y⟩, 0) by simp [doneF, hk]]
  exact (addr_FT h0 h1 h2 (pairs_RL _ _) x0 hx1).mono fun rv H' ⟨a, b⟩ => ⟨a, gc, b⟩
 ·have hn' := hs.n hk
  rw [show fnOf s.kind = 55 by simp [fnOf, hk], show doneF p cs s = (if cs.length = 200 then (cs, 5) else (holdF (cs ++ [⟨(varsOf p).length + s.n, 0, 0⟩]) (ix p s.x) ⟨0, 1, cs.length⟩, 0)) by simp [doneF, hk]]
  refine (made_FT h0 h1 h2 (pairs_RL _ _) x0 hx1 hc.few ⟨hn'.1, by omega⟩ (by omega)).mono fun rv H' ⟨a, b⟩ => ?_
  by_cases h200 : cs.length = 200
  ·rw [if_pos h200] at b ⊢
   exact ⟨a, gc, b⟩
  ·rw [if_neg h200] at b ⊢
   exact ⟨a, gc + 1, b⟩
 ·obtain ⟨y0, y1⟩ := hs.y (by omega) (by omega)
  rw [show fnOf s.kind = 56 by simp [fnOf, hk], show doneF p cs s = (holdF cs (ix p s.x) (gi cs (ix p s.y)), 0) by simp [doneF, hk]]
  exact (copy_FT h0 h1 h2 (pairs_RL _ _) x0 hx1 y0 (by omega)).mono fun rv H' ⟨a, b⟩ => ⟨a, gc, b⟩
 ·obtain ⟨y0, y1⟩ := hs.y (by omega) (by omega)
  rw [show fnOf s.kind = 57 by simp [fnOf, hk], show doneF p cs s = (if (gi cs (ix p s.y)).kind = 1 then (holdF cs (ix p s.x) (gi cs (gi cs (ix p s.y)).v), 0) else (cs, 2)) by simp [doneF, hk]]
  refine (load_FT h0 h1 h2 (pairs_RL _ _) x0 hx1 y0 (by omega) (fun hk1 => (hc.vals _ (giz_mem y0 (by omega))).2.2.2.1 hk1)).mono fun rv H' ⟨a, b⟩ => ?_
  by_cases hk1 : (gi cs (ix p s.y)).kind = 1
  ·rw [if_pos hk1] at b ⊢
   exact ⟨a, gc, b⟩
  ·rw [if_neg hk1] at b ⊢
   exact ⟨a, gc, b⟩
 ·obtain ⟨y0, y1⟩ := hs.y (by omega) (by omega)
  rw [show fnOf s.kind = 58 by simp [fnOf, hk], show doneF p cs s = (if (gi cs (ix p s.x)).kind = 1 then (holdF cs (gi cs (ix p s.x)).v (gi cs (ix p s.y)), 0) else (cs, 2)) by simp [doneF, hk]]
  refine (store_FT h0 h1 h2 (pairs_RL _ _) x0 hx1 y0 (by omega) (fun hk1 => (hc.vals _ (giz_mem x0 (by omega))).2.2.2.1 hk1)).mono fun rv H' ⟨a, b⟩ => ?_
  by_cases hk1 : (gi cs (ix p s.x)).kind = 1
  ·rw [if_pos hk1] at b ⊢
   exact ⟨a, gc, b⟩
  ·rw [if_neg hk1] at b ⊢
   exact ⟨a, gc, b⟩
 ·rw [show fnOf s.kind = 59 by simp [fnOf, hk], show doneF p cs s = (holdF cs (ix p s.x) ⟨0, 2, fx p s.y⟩, 0) by simp [doneF, hk]]
  exact (fun_FT h0 h1 h2 (pairs_RL _ _) x0 hx1).mono fun rv H' ⟨a, b⟩ => ⟨a, gc, b⟩
theorem step1_FT (i : Int) (s0 : Stm) (h0 : RLB 6 b0) (h1 : RLB 6 b1) (h2 : RLB 6 b2) (hc : CsOk p cs) (hn : Neat p) (hi : 0 ≤ i) (hil : i < p.l.length) (hs : StOk p (gi p.l i)) (hk : (gi p.l i).kind ≠ 7)
  (hst : 0 < st.length) (hst' : st.length ≤ 1000) (hat : 0 ≤ (gi st (st.length - 1 : Nat)).at' ∧ (gi st (st.length - 1 : Nat)).at' ≤ 1000) :
  FT Tryz.prog 26 [.ptr 5 0 0, i64 i] (wh b0 b1 b2 gc gs cs st st.length (pairs es) 0 p at' s0) fun rv H' => rv = .tuple [] ∧ ∃ gc', H' = wh b0 b1 b2 gc' gs (doneF p cs (gi p.l i)).1 (if (doneF p cs (gi p.l i)).2 = 0 then moveF st (st.length - 1) ((gi st (st.length - 1 : Nat)).at' + 1) else st) st.length (pairs es) (doneF p cs (gi p.l i)).2 p i (gi p.l i) := by
 have hm6 : ∀ {b : ABlk}, RLB 6 b → RLB 7 b := fun h => RLB_mono (by omega) h
 refine FTt hm Tryz.func26 c26_ok (Nat.le_of_ble_eq_true rfl) ?_
 have hd := done_FT (gc := gc) (gs := gs) (st := st) (es := es) (at' := i) h0 h1 h2 hc hs hn hk
 have hb := wh_RLB (gc := gc) (gs := gs) (cs := cs) (st := st) (ns := st.length) (eV := pairs es) (h := 0) (p := p) (at' := i) (s := gi p.l i) 6 (by omega) h0 h1 h2 (pairs_RL _ _)
 have hkc : (gi p.l i).kind = 1 ∨ (gi p.l i).kind = 2 ∨ (gi p.l i).kind = 3 ∨ (gi p.l i).kind = 4 ∨ (gi p.l i).kind = 5 ∨ (gi p.l i).kind = 6 := by have := hs.kind; omega
 have hkk : st.length - 1 < st.length := by omega
 have d := drop_at st (st.length - 1) hkk
 have e := set_at ((gi st (st.length - 1 : Nat)).at' + 1) st (st.length - 1) hkk
 have l2 : (st.length - 1) * 3 + 1 + 1 ≤ st.length * 3 := by omega
 have l3 : 1 ≤ st.length * 3 - ((st.length - 1) * 3 + 1) := by omega
 have w3 : IntKind.i64.wrap ((gi st (st.length - 1 : Nat)).at' + 1) = (gi st (st.length - 1 : Nat)).at' + 1 := by rw [w64 (by omega) (by omega)]
 have e' : (List.map Ps.cs st).flatten.set ((st.length - 1) * 3 + 1) (AV.int IntKind.i64 ((gi st (st.length - 1 : Nat)).at' + 1)) = ((moveF st (st.length - 1) ((gi st (st.length - 1 : Nat)).at' + 1)).map Ps.cs).flatten := e
 rcases hkc with hk | hk | hk | hk | hk | hk
 ·rw [show fnOf (gi p.l i).kind = 54 by simp [fnOf, hk]] at hd
  have hdt := hd.tail (H2 := [.map 0 [(.int .i64 1, .fn (.func 54) [.ptr 5 0 0] []), (.int .i64 2, .fn (.func 55) [.ptr 5 0 0] []), (.int .i64 3, .fn (.func 56) [.ptr 5 0 0] []), (.int .i64 4, .fn (.func 57) [.ptr 5 0 0] []), (.int .i64 5, .fn (.func 58) [.ptr 5 0 0] []), (.int .i64 6, .fn (.func 59) [.ptr 5 0 0] []), (.int .i64 7, .fn (.func 60) [.ptr 5 0 0] [])]]) (fun rv H' hr => by obtain ⟨_, gc', rfl⟩ := hr; rfl) (by simp) hb
  have t1 : ∀ m : Int, m ≠ 1 → ((gi p.l i).kind = m) = False := fun m h => eq_false (fun e => h (e.symm.trans hk))
  have t2 : ∀ m : Int, m ≠ 1 → (m = (gi p.l i).kind) = False := fun m h => eq_false (fun e => h (e.trans hk))
  have t3 : ((gi p.l i).kind = 1) = True := eq_true hk
  have t4 : (1 = (gi p.l i).kind) = True := eq_true hk.symm
  simp (maxSteps := 3000000) [-List.length_flatten,-List.map_drop,-List.map_take,Function.comp_def,argsT,Opd.ev,Tm.get,put,ares,mapMo,ares1,snilP,bldParts,bslParts,putAt,AV.cells,AV.one,astore,aload,loadCs,callArgs,abin,abinInt,aapp,elems,appMore,appNone,preLen,aFa,aFld,apart,aExt,aPick,aNot,aLens,aEqa,cellsK,fitsA,LK.fitsA,leavesA,leafA,nilD,aNilc,aCint,aCid,alive,alen,alenOk,Rle,lePs,len_flat, c26, hi, hil, t1 2 (by decide), t2 2 (by decide), t1 3 (by decide), t2 3 (by decide), t1 4 (by decide), t2 4 (by decide), t1 5 (by decide), t2 5 (by decide), t1 6 (by decide), t2 6 (by decide), t1 7 (by decide), t2 7 (by decide), t3, t4, aupd, updA, alkp, lookA, amap, leavesA, leafA]
  refine hdt.mono ?_
  rintro _ _ ⟨_, ⟨rfl, gc', rfl⟩, rfl⟩
  simp (maxSteps := 3000000) [-List.length_flatten,-List.map_drop,-List.map_take,Function.comp_def,argsT,Opd.ev,Tm.get,put,ares,mapMo,ares1,snilP,bldParts,bslParts,putAt,AV.cells,AV.one,astore,aload,loadCs,callArgs,abin,abinInt,aapp,elems,appMore,appNone,preLen,aFa,aFld,apart,aExt,aPick,aNot,aLens,aEqa,cellsK,fitsA,LK.fitsA,leavesA,leafA,nilD,aNilc,aCint,aCid,alive,alen,alenOk,Rle,lePs,len_flat, Kc, t1 2 (by decide), t2 2 (by decide), t1 3 (by decide), t2 3 (by decide), t1 4 (by decide), t2 4 (by decide), t1 5 (by decide), t2 5 (by decide), t1 6 (by decide), t2 6 (by decide), t1 7 (by decide), t2 7 (by decide), t3]
  have hR : ∀ stk hh, ∀ b ∈ wh b0 b1 b2 gc' gs (doneF p cs (gi p.l i)).1 stk st.length (pairs es) hh p i (gi p.l i), RLB 6 b := fun stk hh => wh_RLB 6 (by omega) h0 h1 h2 (pairs_RL _ _)
  by_cases hz : (doneF p cs (gi p.l i)).2 = 0
  ·simp (maxSteps := 3000000) [-List.length_flatten,-List.map_drop,-List.map_take,Function.comp_def,argsT,Opd.ev,Tm.get,put,ares,mapMo,ares1,snilP,bldParts,bslParts,putAt,AV.cells,AV.one,astore,aload,loadCs,callArgs,abin,abinInt,aapp,elems,appMore,appNone,preLen,aFa,aFld,apart,aExt,aPick,aNot,aLens,aEqa,cellsK,fitsA,LK.fitsA,leavesA,leafA,nilD,aNilc,aCint,aCid,alive,alen,alenOk,Rle,lePs,len_flat, hz]
   refine (top_FT (h := 0) (at' := i) (s := gi p.l i) rfl rfl hst hst').mono ?_
   rintro _ _ ⟨rfl, rfl⟩
   simp (maxSteps := 3000000) [-List.length_flatten,-List.map_drop,-List.map_take,Function.comp_def,argsT,Opd.ev,Tm.get,put,ares,mapMo,ares1,snilP,bldParts,bslParts,putAt,AV.cells,AV.one,astore,aload,loadCs,callArgs,abin,abinInt,aapp,elems,appMore,appNone,preLen,aFa,aFld,apart,aExt,aPick,aNot,aLens,aEqa,cellsK,fitsA,LK.fitsA,leavesA,leafA,nilD,aNilc,aCint,aCid,alive,alen,alenOk,Rle,lePs,len_flat, Kc, d, l2, l3, w3]
   have := hR (moveF st (st.length - 1) ((gi st (st.length - 1 : Nat)).at' + 1)) 0
   rw [e']
   exact ⟨by simpa using this, rfl⟩
  ·simp (maxSteps := 3000000) [-List.length_flatten,-List.map_drop,-List.map_take,Function.comp_def,argsT,Opd.ev,Tm.get,put,ares,mapMo,ares1,snilP,bldParts,bslParts,putAt,AV.cells,AV.one,astore,aload,loadCs,callArgs,abin,abinInt,aapp,elems,appMore,appNone,preLen,aFa,aFld,apart,aExt,aPick,aNot,aLens,aEqa,cellsK,fitsA,LK.fitsA,leavesA,leafA,nilD,aNilc,aCint,aCid,alive,alen,alenOk,Rle,lePs,len_flat, hz]
   have := hR st (doneF p cs (gi p.l i)).2
   simpa using this
 ·rw [show fnOf (gi p.l i).kind = 55 by simp [fnOf, hk]] at hd
  have hdt := hd.tail (H2 := [.map 0 [(.int .i64 1, .fn (.func 54) [.ptr 5 0 0] []), (.int .i64 2, .fn (.func 55) [.ptr 5 0 0] []), (.int .i64 3, .fn (.func 56) [.ptr 5 0 0] []), (.int .i64 4, .fn (.func 57) [.ptr 5 0 0] []), (.int .i64 5, .fn (.func 58) [.ptr 5 0 0] []), (.int .i64 6, .fn (.func 59) [.ptr 5 0 0] []), (.int .i64 7, .fn (.func 60) [.ptr 5 0 0] [])]]) (fun rv H' hr => by obtain ⟨_, gc', rfl⟩ := hr; rfl) (by simp) hb
  have t1 : ∀ m : Int, m ≠ 2 → ((gi p.l i).kind = m) = False := fun m h => eq_false (fun e => h (e.symm.trans hk))
  have t2 : ∀ m : Int, m ≠ 2 → (m = (gi p.l i).kind) = False := fun m h => eq_false (fun e => h (e.trans hk))
  have t3 : ((gi p.l i).kind = 2) = True := eq_true hk
  have t4 : (2 = (gi p.l i).kind) = True := eq_true hk.symm
  simp (maxSteps := 3000000) [-List.length_flatten,-List.map_drop,-List.map_take,Function.comp_def,argsT,Opd.ev,Tm.get,put,ares,mapMo,ares1,snilP,bldParts,bslParts,putAt,AV.cells,AV.one,astore,aload,loadCs,callArgs,abin,abinInt,aapp,elems,appMore,appNone,preLen,aFa,aFld,apart,aExt,aPick,aNot,aLens,aEqa,cellsK,fitsA,LK.fitsA,leavesA,leafA,nilD,aNilc,aCint,aCid,alive,alen,alenOk,Rle,lePs,len_flat, c26, hi, hil, t1 1 (by decide), t2 1 (by decide), t1 3 (by decide), t2 3 (by decide), t1 4 (by decide), t2 4 (by decide), t1 5 (by decide), t2 5 (by decide), t1 6 (by decide), t2 6 (by decide), t1 7 (by decide), t2 7 (by decide), t3, t4, aupd, updA, alkp, lookA, amap, leavesA, leafA]
  refine hdt.mono ?_
  rintro _ _ ⟨_, ⟨rfl, gc', rfl⟩, rfl⟩
  simp (maxSteps := 3000000) [-List.length_flatten,-List.map_drop,-List.map_take,Function.comp_def,argsT,Opd.ev,Tm.get,put,ares,mapMo,ares1,snilP,bldParts,bslParts,putAt,AV.cells,AV.one,astore,aload,loadCs,callArgs,abin,abinInt,aapp,elems,appMore,appNone,preLen,aFa,aFld,apart,aExt,aPick,aNot,aLens,aEqa,cellsK,fitsA,LK.fitsA,leavesA,leafA,nilD,aNilc,aCint,aCid,alive,alen,alenOk,Rle,lePs,len_flat, Kc, t1 1 (by decide), t2 1 (by decide), t1 3 (by decide), t2 3 (by decide), t1 4 (by decide), t2 4 (by decide), t1 5 (by decide), t2 5 (by decide), t1 6 (by decide), t2 6 (by decide), t1 7 (by decide), t2 7 (by decide), t3]
  have hR : ∀ stk hh, ∀ b ∈ wh b0 b1 b2 gc' gs (doneF p cs (gi p.l i)).1 stk st.length (pairs es) hh p i (gi p.l i), RLB 6 b := fun stk hh => wh_RLB 6 (by omega) h0 h1 h2 (pairs_RL _ _)
  by_cases hz : (doneF p cs (gi p.l i)).2 = 0
  ·simp (maxSteps := 3000000) [-List.length_flatten,-List.map_drop,-List.map_take,Function.comp_def,argsT,Opd.ev,Tm.get,put,ares,mapMo,ares1,snilP,bldParts,bslParts,putAt,AV.cells,AV.one,astore,aload,loadCs,callArgs,abin,abinInt,aapp,elems,appMore,appNone,preLen,aFa,aFld,apart,aExt,aPick,aNot,aLens,aEqa,cellsK,fitsA,LK.fitsA,leavesA,leafA,nilD,aNilc,aCint,aCid,alive,alen,alenOk,Rle,lePs,len_flat, hz]
   refine (top_FT (h := 0) (at' := i) (s := gi p.l i) rfl rfl hst hst').mono ?_
   rintro _ _ ⟨rfl, rfl⟩
   simp (maxSteps := 3000000) [-List.length_flatten,-List.map_drop,-List.map_take,Function.comp_def,argsT,Opd.ev,Tm.get,put,ares,mapMo,ares1,snilP,bldParts,bslParts,putAt,AV.cells,AV.one,astore,aload,loadCs,callArgs,abin,abinInt,aapp,elems,appMore,appNone,preLen,aFa,aFld,apart,aExt,aPick,aNot,aLens,aEqa,cellsK,fitsA,LK.fitsA,leavesA,leafA,nilD,aNilc,aCint,aCid,alive,alen,alenOk,Rle,lePs,len_flat, Kc, d, l2, l3, w3]
   have := hR (moveF st (st.length - 1) ((gi st (st.length - 1 : Nat)).at' + 1)) 0
   rw [e']
   exact ⟨by simpa using this, rfl⟩
  ·simp (maxSteps := 3000000) [-List.length_flatten,-List.map_drop,-List.map_take,Function.comp_def,argsT,Opd.ev,Tm.get,put,ares,mapMo,ares1,snilP,bldParts,bslParts,putAt,AV.cells,AV.one,astore,aload,loadCs,callArgs,abin,abinInt,aapp,elems,appMore,appNone,preLen,aFa,aFld,apart,aExt,aPick,aNot,aLens,aEqa,cellsK,fitsA,LK.fitsA,leavesA,leafA,nilD,aNilc,aCint,aCid,alive,alen,alenOk,Rle,lePs,len_flat, hz]
   have := hR st (doneF p cs (gi p.l i)).2
   simpa using this
 ·rw [show fnOf (gi p.l i).kind = 56 by simp [fnOf, hk]] at hd
  have hdt := hd.tail (H2 := [.map 0 [(.int .i64 1, .fn (.func 54) [.ptr 5 0 0] []), (.int .i64 2, .fn (.func 55) [.ptr 5 0 0] []), (.int .i64 3, .fn (.func 56) [.ptr 5 0 0] []), (.int .i64 4, .fn (.func 57) [.ptr 5 0 0] []), (.int .i64 5, .fn (.func 58) [.ptr 5 0 0] []), (.int .i64 6, .fn (.func 59) [.ptr 5 0 0] []), (.int .i64 7, .fn (.func 60) [.ptr 5 0 0] [])]]) (fun rv H' hr => by obtain ⟨_, gc', rfl⟩ := hr; rfl) (by simp) hb
  have t1 : ∀ m : Int, m ≠ 3 → ((gi p.l i).kind = m) = False := fun m h => eq_false (fun e => h (e.symm.trans hk))
  have t2 : ∀ m : Int, m ≠ 3 → (m = (gi p.l i).kind) = False := fun m h => eq_false (fun e => h (e.trans hk))
  have t3 : ((gi p.l i).kind = 3) = True := eq_true hk
  have t4 : (3 = (gi p.l i).kind) = True := eq_true hk.symm
  simp (maxSteps := 3000000) [-List.length_flatten,-List.map_drop,-List.map_take,Function.comp_def,argsT,Opd.ev,Tm.get,put,ares,mapMo,ares1,snilP,bldParts,bslParts,putAt,AV.cells,AV.one,astore,aload,loadCs,callArgs,abin,abinInt,aapp,elems,appMore,appNone,preLen,aFa,aFld,apart,aExt,aPick,aNot,aLens,aEqa,cellsK,fitsA,LK.fitsA,leavesA,leafA,nilD,aNilc,aCint,aCid,alive,alen,alenOk,Rle,lePs,len_flat, c26, hi, hil, t1 1 (by decide), t2 1 (by decide), t1 2 (by decide), t2 2 (by decide), t1 4 (by decide), t2 4 (by decide), t1 5 (by decide), t2 5 (by decide), t1 6 (by decide), t2 6 (by decide), t1 7 (by decide), t2 7 (by decide), t3, t4, aupd, updA, alkp, lookA, amap, leavesA, leafA]
  refine hdt.mono ?_
  rintro _ _ ⟨_, ⟨rfl, gc', rfl⟩, rfl⟩
  simp (maxSteps := 3000000) [-List.length_flatten,-List.map_drop,-List.map_take,Function.comp_def,argsT,Opd.ev,Tm.get,put,ares,mapMo,ares1,snilP,bldParts,bslParts,putAt,AV.cells,AV.one,astore,aload,loadCs,callArgs,abin,abinInt,aapp,elems,appMore,appNone,preLen,aFa,aFld,apart,aExt,aPick,aNot,aLens,aEqa,cellsK,fitsA,LK.fitsA,leavesA,leafA,nilD,aNilc,aCint,aCid,alive,alen,alenOk,Rle,lePs,len_flat, Kc, t1 1 (by decide), t2 1 (by decide), t1 2 (by decide), t2 2 (by decide), t1 4 (by decide), t2 4 (by decide), t1 5 (by decide), t2 5 (by decide), t1 6 (by decide), t2 6 (by decide), t1 7 (by decide), t2 7 (by decide), t3]
  have hR : ∀ stk hh, ∀ b ∈ wh b0 b1 b2 gc' gs (doneF p cs (gi p.l i)).1 stk st.length (pairs es) hh p i (gi p.l i), RLB 6 b := fun stk hh => wh_RLB 6 (by omega) h0 h1 h2 (pairs_RL _ _)
  by_cases hz : (doneF p cs (gi p.l i)).2 = 0
  ·simp (maxSteps := 3000000) [-List.length_flatten,-List.map_drop,-List.map_take,Function.comp_def,argsT,Opd.ev,Tm.get,put,ares,mapMo,ares1,snilP,bldParts,bslParts,putAt,AV.cells,AV.one,astore,aload,loadCs,callArgs,abin,abinInt,aapp,elems,appMore,appNone,preLen,aFa,aFld,apart,aExt,aPick,aNot,aLens,aEqa,cellsK,fitsA,LK.fitsA,leavesA,leafA,nilD,aNilc,aCint,aCid,alive,alen,alenOk,Rle,lePs,len_flat, hz]
   refine (top_FT (h := 0) (at' := i) (s := gi p.l i) rfl rfl hst hst').mono ?_
   rintro _ _ ⟨rfl, rfl⟩
   simp (maxSteps := 3000000) [-List.length_flatten,-List.map_drop,-List.map_take,Function.comp_def,argsT,Opd.ev,Tm.get,put,ares,mapMo,ares1,snilP,bldParts,bslParts,putAt,AV.cells,AV.one,astore,aload,loadCs,callArgs,abin,abinInt,aapp,elems,appMore,appNone,preLen,aFa,aFld,apart,aExt,aPick,aNot,aLens,aEqa,cellsK,fitsA,LK.fitsA,leavesA,leafA,nilD,aNilc,aCint,aCid,alive,alen,alenOk,Rle,lePs,len_flat, Kc, d, l2, l3, w3]
   have := hR (moveF st (st.length - 1) ((gi st (st.length - 1 : Nat)).at' + 1)) 0
   rw [e']
   exact ⟨by simpa using this, rfl⟩
  ·simp (maxSteps := 3000000) [-List.length_flatten,-List.map_drop,-List.map_take,Function.comp_def,argsT,Opd.ev,Tm.get,put,ares,mapMo,ares1,snilP,bldParts,bslParts,putAt,AV.cells,AV.one,astore,aload,loadCs,callArgs,abin,abinInt,aapp,elems,appMore,appNone,preLen,aFa,aFld,apart,aExt,aPick,aNot,aLens,aEqa,cellsK,fitsA,LK.fitsA,leavesA,leafA,nilD,aNilc,aCint,aCid,alive,alen,alenOk,Rle,lePs,len_flat, hz]
   have := hR st (doneF p cs (gi p.l i)).2
   simpa using this
 ·rw [show fnOf (gi p.l i).kind = 57 by simp [fnOf, hk]] at hd
  have hdt := hd.tail (H2 := [.map 0 [(.int .i64 1, .fn (.func 54) [.ptr 5 0 0] []), (.int .i64 2, .fn (.func 55) [.ptr 5 0 0] []), (.int .i64 3, .fn (.func 56) [.ptr 5 0 0] []), (.int .i64 4, .fn (.func 57) [.ptr 5 0 0] []), (.int .i64 5, .fn (.func 58) [.ptr 5 0 0] []), (.int .i64 6, .fn (.func 59) [.ptr 5 0 0] []), (.int .i64 7, .fn (.func 60) [.ptr 5 0 0] [])]]) (fun rv H' hr => by obtain ⟨_, gc', rfl⟩ := hr; rfl) (by simp) hb
  have t1 : ∀ m : Int, m ≠ 4 → ((gi p.l i).kind = m) = False := fun m h => eq_false (fun e => h (e.symm.trans hk))
  have t2 : ∀ m : Int, m ≠ 4 → (m = (gi p.l i).kind) = False := fun m h => eq_false (fun e => h (e.trans hk))
  have t3 : ((gi p.l i).kind = 4) = True := eq_true hk
  have t4 : (4 = (gi p.l i).kind) = True := eq_true hk.symm
  simp (maxSteps := 3000000) [-List.length_flatten,-List.map_drop,-List.map_take,Function.comp_def,argsT,Opd.ev,Tm.get,put,ares,mapMo,ares1,snilP,bldParts,bslParts,putAt,AV.cells,AV.one,astore,aload,loadCs,callArgs,abin,abinInt,aapp,elems,appMore,appNone,preLen,aFa,aFld,apart,aExt,aPick,aNot,aLens,aEqa,cellsK,fitsA,LK.fitsA,leavesA,leafA,nilD,aNilc,aCint,aCid,alive,alen,alenOk,Rle,lePs,len_flat, c26, hi, hil, t1 1 (by decide), t2 1 (by decide), t1 2 (by decide), t2 2 (by decide), t1 3 (by decide), t2 3 (by decide), t1 5 (by decide), t2 5 (by decide), t1 6 (by decide), t2 6 (by decide), t1 7 (by decide), t2 7 (by decide), t3, t4, aupd, updA, alkp, lookA, amap, leavesA, leafA]
  refine hdt.mono ?_
  rintro _ _ ⟨_, ⟨rfl, gc', rfl⟩, rfl⟩
  simp (maxSteps := 3000000) [-List.length_flatten,-List.map_drop,-List.map_take,Function.comp_def,argsT,Opd.ev,Tm.get,put,ares,mapMo,ares1,snilP,bldParts,bslParts,putAt,AV.cells,AV.one,astore,aload,loadCs,callArgs,abin,abinInt,aapp,elems,appMore,appNone,preLen,aFa,aFld,apart,aExt,aPick,aNot,aLens,aEqa,cellsK,fitsA,LK.fitsA,leavesA,leafA,nilD,aNilc,aCint,aCid,alive,alen,alenOk,Rle,lePs,len_flat, Kc, t1 1 (by decide), t2 1 (by decide), t1 2 (by decide), t2 2 (by decide), t1 3 (by decide), t2 3 (by decide), t1 5 (by decide), t2 5 (by decide), t1 6 (by decide), t2 6 (by decide), t1 7 (by decide), t2 7 (by decide), t3]
  have hR : ∀ stk hh, ∀ b ∈ wh b0 b1 b2 gc' gs (doneF p cs (gi p.l i)).1 stk st.length (pairs es) hh p i (gi p.l i), RLB 6 b := fun stk hh => wh_RLB 6 (by omega) h0 h1 h2 (pairs_RL _ _)
  by_cases hz : (doneF p cs (gi p.l i)).2 = 0
  ·simp (maxSteps := 3000000) [-List.length_flatten,-List.map_drop,-List.map_take,Function.comp_def,argsT,Opd.ev,Tm.get,put,ares,mapMo,ares1,snilP,bldParts,bslParts,putAt,AV.cells,AV.one,astore,aload,loadCs,callArgs,abin,abinInt,aapp,elems,appMore,appNone,preLen,aFa,aFld,apart,aExt,aPick,aNot,aLens,aEqa,cellsK,fitsA,LK.fitsA,leavesA,leafA,nilD,aNilc,aCint,aCid,alive,alen,alenOk,Rle,lePs,len_flat, hz]
   refine (top_FT (h := 0) (at' := i) (s := gi p.l i) rfl rfl hst hst').mono ?_
   rintro _ _ ⟨rfl, rfl⟩
   simp (maxSteps := 3000000) [-List.length_flatten,-List.map_drop,-List.map_take,Function.comp_def,argsT,Opd.ev,Tm.get,put,ares,mapMo,ares1,snilP,bldParts,bslParts,putAt,AV.cells,AV.one,astore,aload,loadCs,callArgs,abin,abinInt,aapp,elems,appMore,appNone,preLen,aFa,aFld,apart,aExt,aPick,aNot,aLens,aEqa,cellsK,fitsA,LK.fitsA,leavesA,leafA,nilD,aNilc,aCint,aCid,alive,alen,alenOk,Rle,lePs,len_flat, Kc, d, l2, l3, w3]
   have := hR (moveF st (st.length - 1) ((gi st (st.length - 1 : Nat)).at' + 1)) 0
   rw [e']
   exact ⟨by simpa using this, rfl⟩
  ·simp (maxSteps := 3000000) [-List.length_flatten,-List.map_drop,-List.map_take,Function.comp_def,argsT,Opd.ev,Tm.get,put,ares,mapMo,ares1,snilP,bldParts,bslParts,putAt,AV.cells,AV.one,astore,aload,loadCs,callArgs,abin,abinInt,aapp,elems,appMore,appNone,preLen,aFa,aFld,apart,aExt,aPick,aNot,aLens,aEqa,cellsK,fitsA,LK.fitsA,leavesA,leafA,nilD,aNilc,aCint,aCid,alive,alen,alenOk,Rle,lePs,len_flat, hz]
   have := hR st (doneF p cs (gi p.l i)).2
   simpa using this
 ·rw [show fnOf (gi p.l i).kind = 58 by simp [fnOf, hk]] at hd
  have hdt := hd.tail (H2 := [.map 0 [(.int .i64 1, .fn (.func 54) [.ptr 5 0 0] []), (.int .i64 2, .fn (.func 55) [.ptr 5 0 0] []), (.int .i64 3, .fn (.func 56) [.ptr 5 0 0] []), (.int .i64 4, .fn (.func 57) [.ptr 5 0 0] []), (.int .i64 5, .fn (.func 58) [.ptr 5 0 0] []), (.int .i64 6, .fn (.func 59) [.ptr 5 0 0] []), (.int .i64 7, .fn (.func 60) [.ptr 5 0 0] [])]]) (fun rv H' hr => by obtain ⟨_, gc', rfl⟩ := hr; rfl) (by simp) hb
  have t1 : ∀ m : Int, m ≠ 5 → ((gi p.l i).kind = m) = False := fun m h => eq_false (fun e => h (e.symm.trans hk))
  have t2 : ∀ m : Int, m ≠ 5 → (m = (gi p.l i).kind) = False := fun m h => eq_false (fun e => h (e.trans hk))
  have t3 : ((gi p.l i).kind = 5) = True := eq_true hk
  have t4 : (5 = (gi p.l i).kind) = True := eq_true hk.symm
  simp (maxSteps := 3000000) [-List.length_flatten,-List.map_drop,-List.map_take,Function.comp_def,argsT,Opd.ev,Tm.get,put,ares,mapMo,ares1,snilP,bldParts,bslParts,putAt,AV.cells,AV.one,astore,aload,loadCs,callArgs,abin,abinInt,aapp,elems,appMore,appNone,preLen,aFa,aFld,apart,aExt,aPick,aNot,aLens,aEqa,cellsK,fitsA,LK.fitsA,leavesA,leafA,nilD,aNilc,aCint,aCid,alive,alen,alenOk,Rle,lePs,len_flat, c26, hi, hil, t1 1 (by decide), t2 1 (by decide), t1 2 (by decide), t2 2 (by decide), t1 3 (by decide), t2 3 (by decide), t1 4 (by decide), t2 4 (by decide), t1 6 (by decide), t2 6 (by decide), t1 7 (by decide), t2 7 (by decide), t3, t4, aupd, updA, alkp, lookA, amap, leavesA, leafA]
  refine hdt.mono ?_
  rintro _ _ ⟨_, ⟨rfl, gc', rfl⟩, rfl⟩
  simp (maxSteps := 3000000) [-List.length_flatten,-List.map_drop,-List.map_take,Function.comp_def,argsT,Opd.ev,Tm.get,put,ares,mapMo,ares1,snilP,bldParts,bslParts,putAt,AV.cells,AV.one,astore,aload,loadCs,callArgs,abin,abinInt,aapp,elems,appMore,appNone,preLen,aFa,aFld,apart,aExt,aPick,aNot,aLens,aEqa,cellsK,fitsA,LK.fitsA,leavesA,leafA,nilD,aNilc,aCint,aCid,alive,alen,alenOk,Rle,lePs,len_flat, Kc, t1 1 (by decide), t2 1 (by decide), t1 2 (by decide), t2 2 (by decide), t1 3 (by decide), t2 3 (by decide), t1 4 (by decide), t2 4 (by decide), t1 6 (by decide), t2 6 (by decide), t1 7 (by decide), t2 7 (by decide), t3]
  have hR : ∀ stk hh, ∀ b ∈ wh b0 b1 b2 gc' gs (doneF p cs (gi p.l i)).1 stk st.length (pairs es) hh p i (gi p.l i), RLB 6 b := fun stk hh => wh_RLB 6 (by omega) h0 h1 h2 (pairs_RL _ _)
  by_cases hz : (doneF p cs (gi p.l i)).2 = 0
  ·simp (maxSteps := 3000000) [-List.length_flatten,-List.map_drop,-List.map_take,Function.comp_def,argsT,Opd.ev,Tm.get,put,ares,mapMo,ares1,snilP,bldParts,bslParts,putAt,AV.cells,AV.one,astore,aload,loadCs,callArgs,abin,abinInt,aapp,elems,appMore,appNone,preLen,aFa,aFld,apart,aExt,aPick,aNot,aLens,aEqa,cellsK,fitsA,LK.fitsA,leavesA,leafA,nilD,aNilc,aCint,aCid,alive,alen,alenOk,Rle,lePs,len_flat, hz]
   refine (top_FT (h := 0) (at' := i) (s := gi p.l i) rfl rfl hst hst').mono ?_
   rintro _ _ ⟨rfl, rfl⟩
   simp (maxSteps := 3000000) [-List.length_flatten,-List.map_drop,-List.map_take,Function.comp_def,argsT,Opd.ev,Tm.get,put,ares,mapMo,ares1,snilP,bldParts,bslParts,putAt,AV.cells,AV.one,astore,aload,loadCs,callArgs,abin,abinInt,aapp,elems,appMore,appNone,preLen,aFa,aFld,apart,aExt,aPick,aNot,aLens,aEqa,cellsK,fitsA,LK.fitsA,leavesA,leafA,nilD,aNilc,aCint,aCid,alive,alen,alenOk,Rle,lePs,len_flat, Kc, d, l2, l3, w3]
   have := hR (moveF st (st.length - 1) ((gi st (st.length - 1 : Nat)).at' + 1)) 0
   rw [e']
   exact ⟨by simpa using this, rfl⟩
  ·simp (maxSteps := 3000000) [-List.length_flatten,-List.map_drop,-List.map_take,Function.comp_def,argsT,Opd.ev,Tm.get,put,ares,mapMo,ares1,snilP,bldParts,bslParts,putAt,AV.cells,AV.one,astore,aload,loadCs,callArgs,abin,abinInt,aapp,elems,appMore,appNone,preLen,aFa,aFld,apart,aExt,aPick,aNot,aLens,aEqa,cellsK,fitsA,LK.fitsA,leavesA,leafA,nilD,aNilc,aCint,aCid,alive,alen,alenOk,Rle,lePs,len_flat, hz]
   have := hR st (doneF p cs (gi p.l i)).2
   simpa using this
 ·rw [show fnOf (gi p.l i).kind = 59 by simp [fnOf, hk]] at hd
  have hdt := hd.tail (H2 := [.map 0 [(.int .i64 1, .fn (.func 54) [.ptr 5 0 0] []), (.int .i64 2, .fn (.func 55) [.ptr 5 0 0] []), (.int .i64 3, .fn (.func 56) [.ptr 5 0 0] []), (.int .i64 4, .fn (.func 57) [.ptr 5 0 0] []), (.int .i64 5, .fn (.func 58) [.ptr 5 0 0] []), (.int .i64 6, .fn (.func 59) [.ptr 5 0 0] []), (.int .i64 7, .fn (.func 60) [.ptr 5 0 0] [])]]) (fun rv H' hr => by obtain ⟨_, gc', rfl⟩ := hr; rfl) (by simp) hb
  have t1 : ∀ m : Int, m ≠ 6 → ((gi p.l i).kind = m) = False := fun m h => eq_false (fun e => h (e.symm.trans hk))
  have t2 : ∀ m : Int, m ≠ 6 → (m = (gi p.l i).kind) = False := fun m h => eq_false (fun e => h (e.trans hk))
  have t3 : ((gi p.l i).kind = 6) = True := eq_true hk
  have t4 : (6 = (gi p.l i).kind) = True := eq_true hk.symm
  simp (maxSteps := 3000000) [-List.length_flatten,-List.map_drop,-List.map_take,Function.comp_def,argsT,Opd.ev,Tm.get,put,ares,mapMo,ares1,snilP,bldParts,bslParts,putAt,AV.cells,AV.one,astore,aload,loadCs,callArgs,abin,abinInt,aapp,elems,appMore,appNone,preLen,aFa,aFld,apart,aExt,aPick,aNot,aLens,aEqa,cellsK,fitsA,LK.fitsA,leavesA,leafA,nilD,aNilc,aCint,aCid,alive,alen,alenOk,Rle,lePs,len_flat, c26, hi, hil, t1 1 (by decide), t2 1 (by decide), t1 2 (by decide), t2 2 (by decide), t1 3 (by decide), t2 3 (by decide), t1 4 (by decide), t2 4 (by decide), t1 5 (by decide), t2 5 (by decide), t1 7 (by decide), t2 7 (by decide), t3, t4, aupd, updA, alkp, lookA, amap, leavesA, leafA]
  refine hdt.mono ?_
  rintro _ _ ⟨_, ⟨rfl, gc', rfl⟩, rfl⟩
  simp (maxSteps := 3000000) [-List.length_flatten,-List.map_drop,-List.map_take,Function.comp_def,argsT,Opd.ev,Tm.get,put,ares,mapMo,ares1,snilP,bldParts,bslParts,putAt,AV.cells,AV.one,astore,aload,loadCs,callArgs,abin,abinInt,aapp,elems,appMore,appNone,preLen,aFa,aFld,apart,aExt,aPick,aNot,aLens,aEqa,cellsK,fitsA,LK.fitsA,leavesA,leafA,nilD,aNilc,aCint,aCid,alive,alen,alenOk,Rle,lePs,len_flat, Kc, t1 1 (by decide), t2 1 (by decide), t1 2 (by decide), t2 2 (by decide), t1 3 (by decide), t2 3 (by decide), t1 4 (by decide), t2 4 (by decide), t1 5 (by decide), t2 5 (by decide), t1 7 (by decide), t2 7 (by decide), t3]
  have hR : ∀ stk hh, ∀ b ∈ wh b0 b1 b2 gc' gs (doneF p cs (gi p.l i)).1 stk st.length (pairs es) hh p i (gi p.l i), RLB 6 b := fun stk hh => wh_RLB 6 (by omega) h0 h1 h2 (pairs_RL _ _)
  by_cases hz : (doneF p cs (gi p.l i)).2 = 0
  ·simp (maxSteps := 3000000) [-List.length_flatten,-List.map_drop,-List.map_take,Function.comp_def,argsT,Opd.ev,Tm.get,put,ares,mapMo,ares1,snilP,bldParts,bslParts,putAt,AV.cells,AV.one,astore,aload,loadCs,callArgs,abin,abinInt,aapp,elems,appMore,appNone,preLen,aFa,aFld,apart,aExt,aPick,aNot,aLens,aEqa,cellsK,fitsA,LK.fitsA,leavesA,leafA,nilD,aNilc,aCint,aCid,alive,alen,alenOk,Rle,lePs,len_flat, hz]
   refine (top_FT (h := 0) (at' := i) (s := gi p.l i) rfl rfl hst hst').mono ?_
   rintro _ _ ⟨rfl, rfl⟩
   simp (maxSteps := 3000000) [-List.length_flatten,-List.map_drop,-List.map_take,Function.comp_def,argsT,Opd.ev,Tm.get,put,ares,mapMo,ares1,snilP,bldParts,bslParts,putAt,AV.cells,AV.one,astore,aload,loadCs,callArgs,abin,abinInt,aapp,elems,appMore,appNone,preLen,aFa,aFld,apart,aExt,aPick,aNot,aLens,aEqa,cellsK,fitsA,LK.fitsA,leavesA,leafA,nilD,aNilc,aCint,aCid,alive,alen,alenOk,Rle,lePs,len_flat, Kc, d, l2, l3, w3]
   have := hR (moveF st (st.length - 1) ((gi st (st.length - 1 : Nat)).at' + 1)) 0
   rw [e']
   exact ⟨by simpa using this, rfl⟩
  ·simp (maxSteps := 3000000) [-List.length_flatten,-List.map_drop,-List.map_take,Function.comp_def,argsT,Opd.ev,Tm.get,put,ares,mapMo,ares1,snilP,bldParts,bslParts,putAt,AV.cells,AV.one,astore,aload,loadCs,callArgs,abin,abinInt,aapp,elems,appMore,appNone,preLen,aFa,aFld,apart,aExt,aPick,aNot,aLens,aEqa,cellsK,fitsA,LK.fitsA,leavesA,leafA,nilD,aNilc,aCint,aCid,alive,alen,alenOk,Rle,lePs,len_flat, hz]
   have := hR st (doneF p cs (gi p.l i)).2
   simpa using this
end
end Go.AM

namespace Go.AM
open Go.Proofs
set_option maxRecDepth 100000
set_option linter.unusedVariables false
set_option linter.unusedSimpArgs false
/-- What a call does. -/
def callF (p : Pg) (cs : List Cl) (st : List Ps) (es : List Ed) (i : Int) (s : Stm) : List Cl × List Ps × List Ed × Int :=
 if (gi cs (ix p s.y)).kind = 2 ∧ (gi p.funs (gi cs (ix p s.y)).v).params.length = s.args.length then
  (if 20 ≤ st.length then (cs, st, es, 4)
  else (passN p cs (gi p.funs (gi cs (ix p s.y)).v).params s.args s.args.length, st ++ [⟨(gi cs (ix p s.y)).v, 0, i⟩], (if 0 ≤ fstAt (fun x => decide (x = ⟨i, (gi cs (ix p s.y)).v⟩)) es then es else es ++ [⟨i, (gi cs (ix p s.y)).v⟩]), 0))
 else (cs, st, es, 3)
section
variable {b0 b1 b2 : ABlk} {gc gs : Nat} {cs : List Cl} {st : List Ps} {es : List Ed} {h : Int} {p : Pg} {at' : Int} {s : Stm}
theorem call_FT (h0 : RLB 6 b0) (h1 : RLB 6 b1) (h2 : RLB 6 b2) (hc : CsOk p cs) (hs : StOk p s) (hn : Neat p) (hk : s.kind = 7) (hst : st.length ≤ 1000) (hes : es.length ≤ 100000) (hpar : ∀ f ∈ p.funs, ∀ a ∈ f.params, 0 ≤ ix p a ∧ ix p a < (varsOf p).length) :
  FT Tryz.prog 60 [.ptr 5 0 0] (wh b0 b1 b2 gc gs cs st st.length (pairs es) 0 p at' s) fun rv H' => rv = .tuple [] ∧ ∃ gs', H' = wh b0 b1 b2 gc gs' (callF p cs st es at' s).1 (callF p cs st es at' s).2.1 (callF p cs st es at' s).2.1.length (pairs (callF p cs st es at' s).2.2.1) (callF p cs st es at' s).2.2.2 p at' s := by
 obtain ⟨y0, y1⟩ := hs.y (by omega) (by omega)
 have hv := hc.vars
 have hy1 : ix p s.y < cs.length := by omega
 have hV := hc.vals _ (giz_mem y0 hy1)
 by_cases hg : (gi cs (ix p s.y)).kind = 2 ∧ (gi p.funs (gi cs (ix p s.y)).v).params.length = s.args.length
 ·obtain ⟨v0, v1⟩ := hV.2.2.2.2 hg.1
  by_cases h20 : 20 ≤ st.length
  ·rw [show callF p cs st es at' s = (cs, st, es, 4) by unfold callF; rw [if_pos hg, if_pos h20]]
   exact (callDeep_FT h0 h1 h2 y0 hy1 hg.1 v0 v1 hs.few hg.2 h20 hst).mono fun rv H' ⟨a, b⟩ => ⟨a, gs, b⟩
  ·rw [show callF p cs st es at' s = (passN p cs (gi p.funs (gi cs (ix p s.y)).v).params s.args s.args.length, st ++ [⟨(gi cs (ix p s.y)).v, 0, at'⟩], (if 0 ≤ fstAt (fun x => decide (x = ⟨at', (gi cs (ix p s.y)).v⟩)) es then es else es ++ [⟨at', (gi cs (ix p s.y)).v⟩]), 0) by unfold callF; rw [if_pos hg, if_neg h20]]
   refine (callOk_FT h0 h1 h2 y0 hy1 hg.1 v0 v1 hs.few hg.2 (by omega) hes (fun a ha => ?_) (fun a ha => ?_)).mono fun rv H' ⟨a, gs', b⟩ => ⟨a, gs', by rw [b]; simp⟩
   ·have := hpar _ (giz_mem v0 v1) a ha
    omega
   ·have := hs.args a ha
    omega
 ·rw [show callF p cs st es at' s = (cs, st, es, 3) by unfold callF; rw [if_neg hg]]
  exact (callBad_FT h0 h1 h2 y0 hy1 hV.2.2.2.2 hn.params hs.few (fun hk2 hh => hg ⟨hk2, hh⟩)).mono fun rv H' ⟨a, b⟩ => ⟨a, gs, b⟩
theorem step7_FT (i : Int) (s0 : Stm) (h0 : RLB 6 b0) (h1 : RLB 6 b1) (h2 : RLB 6 b2) (hc : CsOk p cs) (hn : Neat p) (hi : 0 ≤ i) (hil : i < p.l.length) (hs : StOk p (gi p.l i)) (hk : (gi p.l i).kind = 7) (hst : st.length ≤ 1000) (hes : es.length ≤ 100000)
  (hpar : ∀ f ∈ p.funs, ∀ a ∈ f.params, 0 ≤ ix p a ∧ ix p a < (varsOf p).length) :
  FT Tryz.prog 26 [.ptr 5 0 0, i64 i] (wh b0 b1 b2 gc gs cs st st.length (pairs es) 0 p at' s0) fun rv H' => rv = .tuple [] ∧ ∃ gs', H' = wh b0 b1 b2 gc gs' (callF p cs st es i (gi p.l i)).1 (callF p cs st es i (gi p.l i)).2.1 (callF p cs st es i (gi p.l i)).2.1.length (pairs (callF p cs st es i (gi p.l i)).2.2.1) (callF p cs st es i (gi p.l i)).2.2.2 p i (gi p.l i) := by
 refine FTt hm Tryz.func26 c26_ok (Nat.le_of_ble_eq_true rfl) ?_
 have hd := call_FT (gc := gc) (gs := gs) (at' := i) h0 h1 h2 hc hs hn hk hst hes hpar
 have hb := wh_RLB (gc := gc) (gs := gs) (cs := cs) (st := st) (ns := st.length) (eV := pairs es) (h := 0) (p := p) (at' := i) (s := gi p.l i) 6 (by omega) h0 h1 h2 (pairs_RL _ _)
 have hdt := hd.tail (H2 := [.map 0 [(.int .i64 1, .fn (.func 54) [.ptr 5 0 0] []), (.int .i64 2, .fn (.func 55) [.ptr 5 0 0] []), (.int .i64 3, .fn (.func 56) [.ptr 5 0 0] []), (.int .i64 4, .fn (.func 57) [.ptr 5 0 0] []), (.int .i64 5, .fn (.func 58) [.ptr 5 0 0] []), (.int .i64 6, .fn (.func 59) [.ptr 5 0 0] []), (.int .i64 7, .fn (.func 60) [.ptr 5 0 0] [])]]) (fun rv H' hr => by obtain ⟨_, gc', rfl⟩ := hr; rfl) (by simp) hb
 have t1 : ∀ m : Int, m ≠ 7 → ((gi p.l i).kind = m) = False := fun m h => eq_false (fun e => h (e.symm.trans hk))
 have t2 : ∀ m : Int, m ≠ 7 → (m = (gi p.l i).kind) = False := fun m h => eq_false (fun e => h (e.trans hk))
 have t3 : ((gi p.l i).kind = 7) = True := eq_true hk
 have t4 : (7 = (gi p.l i).kind) = True := eq_true hk.symm
 generalize callF p cs st es i (gi p.l i) = r at *
 simp (maxSteps := 3000000) [-List.length_flatten,-List.map_drop,-List.map_take,Function.comp_def,argsT,Opd.ev,Tm.get,put,ares,mapMo,ares1,snilP,bldParts,bslParts,putAt,AV.cells,AV.one,astore,aload,loadCs,callArgs,abin,abinInt,aapp,elems,appMore,appNone,preLen,aFa,aFld,apart,aExt,aPick,aNot,aLens,aEqa,cellsK,fitsA,LK.fitsA,leavesA,leafA,nilD,aNilc,aCint,aCid,alive,alen,alenOk,Rle,lePs,len_flat, c26, hi, hil, t1 1 (by decide), t2 1 (by decide), t1 2 (by decide), t2 2 (by decide), t1 3 (by decide), t2 3 (by decide), t1 4 (by decide), t2 4 (by decide), t1 5 (by decide), t2 5 (by decide), t1 6 (by decide), t2 6 (by decide), t3, t4, aupd, updA, alkp, lookA, amap, leavesA, leafA]
 refine hdt.mono ?_
 rintro _ _ ⟨_, ⟨rfl, gs', rfl⟩, rfl⟩
 have hR := wh_RLB (b0 := b0) (b1 := b1) (b2 := b2) (gc := gc) (gs := gs') (cs := r.1) (st := r.2.1) (ns := r.2.1.length) (eV := pairs r.2.2.1) (h := r.2.2.2) (p := p) (at' := i) (s := gi p.l i) 6 (by omega) h0 h1 h2 (pairs_RL _ _)
 simp (maxSteps := 3000000) [-List.length_flatten,-List.map_drop,-List.map_take,Function.comp_def,argsT,Opd.ev,Tm.get,put,ares,mapMo,ares1,snilP,bldParts,bslParts,putAt,AV.cells,AV.one,astore,aload,loadCs,callArgs,abin,abinInt,aapp,elems,appMore,appNone,preLen,aFa,aFld,apart,aExt,aPick,aNot,aLens,aEqa,cellsK,fitsA,LK.fitsA,leavesA,leafA,nilD,aNilc,aCint,aCid,alive,alen,alenOk,Rle,lePs,len_flat, Kc, t1 1 (by decide), t2 1 (by decide), t1 2 (by decide), t2 2 (by decide), t1 3 (by decide), t2 3 (by decide), t1 4 (by decide), t2 4 (by decide), t1 5 (by decide), t2 5 (by decide), t1 6 (by decide), t2 6 (by decide), t3]
 simpa using hR
end
def bodyN (l : List Stm) (b : Int) : Nat → List Int
 | 0 => []
 | i + 1 => if (gi l i).inn = b then bodyN l b i ++ [(i : Int)] else bodyN l b i
theorem bodyN_len (l : List Stm) (b : Int) : ∀ i, (bodyN l b i).length ≤ i
 | 0 => by simp [bodyN]
 | i + 1 => by
  have := bodyN_len l b i
  unfold bodyN
  split <;> simp <;> omega
def bodyOf (p : Pg) (b : Int) : List Int := bodyN p.l b p.l.length
theorem body_PF (p : Pg) (b : Int) (hl : p.l.length ≤ 2000) : PF Tryz.prog 24 [.agg p.cs, i64 b] (ints (bodyOf p b)) := by
 refine PFk 9 hm Tryz.func24 c24_ok (Nat.le_of_ble_eq_true rfl) (by simp) (by simp) ?_
 have hA : p.l.length ≤ maxA := by unfold maxA; omega
 simp (maxSteps := 3000000) [-List.length_flatten,-List.map_drop,-List.map_take,Function.comp_def,argsT,Opd.ev,Tm.get,put,ares,mapMo,ares1,snilP,bldParts,bslParts,putAt,AV.cells,AV.one,astore,aload,loadCs,callArgs,abin,abinInt,aapp,elems,appMore,appNone,preLen,aFa,aFld,apart,aExt,aPick,aNot,aLens,aEqa,cellsK,fitsA,LK.fitsA,leavesA,leafA,nilD,aNilc,aCint,aCid,alive,alen,alenOk,Rle,lePs,len_flat, c24, hA]
 obtain ⟨R, hR⟩ : ∃ R, R = bodyOf p b := ⟨_, rfl⟩
 rw [← hR]
 refine run_loopK (fun m T H => ∃ i g : Nat, m = p.l.length - i ∧ i ≤ p.l.length ∧ T = [(11, i64 i), (10, i64 p.l.length), (9, stms p.l), (5, .loc 1 g 0 (bodyN p.l b i).length 1 false), (1, i64 b)] ∧ H = [.cells 0 p.cs, .cells g ((bodyN p.l b i).map i64)]) p.l.length
  [(11, i64 (0 : Nat)), (10, i64 p.l.length), (9, stms p.l), (5, .loc 1 0 0 0 1 false), (1, i64 b)] [.cells 0 p.cs, .cells 0 []] ((Wk.nil 5 1 rfl).trans (Wk.sub (by simp [Tm.get]))) ⟨0, 0, rfl, by omega, rfl, rfl⟩ ?_
 rintro m T H ⟨i, g, rfl, hi, rfl, rfl⟩ KK kx kr kn
 by_cases h : i < p.l.length
 ·have nx : ∀ (T : Tm) (g : Nat) (x : ABlk), al (fun q => T.get q.1 = q.2) [(11, i64 (i + 1 : Nat)), (10, i64 p.l.length), (9, stms p.l), (5, .loc 1 g 0 (bodyN p.l b (i + 1)).length 1 false), (1, i64 b)] → KK .normal T [.cells 0 p.cs, .cells g ((bodyN p.l b (i + 1)).map i64), x] := fun T g x ht =>
   kn _ _ (Kl_next (p.l.length - (i + 1)) 2 (by simp) (T' := [(11, i64 (i + 1 : Nat)), (10, i64 p.l.length), (9, stms p.l), (5, .loc 1 g 0 (bodyN p.l b (i + 1)).length 1 false), (1, i64 b)]) ⟨i + 1, g, rfl, by omega, rfl, rfl⟩ ht (by simp) rfl (by simp [RLB]) (by omega))
  have hbl := bodyN_len p.l b i
  by_cases hb : (gi p.l i).inn = b
  ·have e : bodyN p.l b (i + 1) = bodyN p.l b i ++ [(i : Int)] := by rw [bodyN, if_pos hb]
   have e2 : (bodyN p.l b i ++ [(i : Int)]).map i64 = (bodyN p.l b i).map i64 ++ [i64 i] := by simp
   rw [e, e2] at nx
   generalize bodyN p.l b i = a at *
   have hm : a.length + 1 ≤ maxA := by omega
   have tk : List.take a.length (a.map i64) = a.map i64 := List.take_of_length_le (by simp)
   simp (maxSteps := 3000000) [-List.length_flatten,-List.map_drop,-List.map_take,Function.comp_def,argsT,Opd.ev,Tm.get,put,ares,mapMo,ares1,snilP,bldParts,bslParts,putAt,AV.cells,AV.one,astore,aload,loadCs,callArgs,abin,abinInt,aapp,elems,appMore,appNone,preLen,aFa,aFld,apart,aExt,aPick,aNot,aLens,aEqa,cellsK,fitsA,LK.fitsA,leavesA,leafA,nilD,aNilc,aCint,aCid,alive,alen,alenOk,Rle,lePs,len_flat, h, hb, hm, tk]
   intro _ _
   exact nx _ (g + 1) _ (by simp [Tm.get, nxt h hA])
  ·have e : bodyN p.l b (i + 1) = bodyN p.l b i := by rw [bodyN, if_neg hb]
   rw [e] at nx
   simp (maxSteps := 3000000) [-List.length_flatten,-List.map_drop,-List.map_take,Function.comp_def,argsT,Opd.ev,Tm.get,put,ares,mapMo,ares1,snilP,bldParts,bslParts,putAt,AV.cells,AV.one,astore,aload,loadCs,callArgs,abin,abinInt,aapp,elems,appMore,appNone,preLen,aFa,aFld,apart,aExt,aPick,aNot,aLens,aEqa,cellsK,fitsA,LK.fitsA,leavesA,leafA,nilD,aNilc,aCint,aCid,alive,alen,alenOk,Rle,lePs,len_flat, h, hb]
   exact nx _ g _ (by simp [Tm.get, nxt h hA])
 ·have : i = p.l.length := by omega
  subst this
  have hR' : bodyN p.l b p.l.length = R := hR.symm
  rw [hR']
  simp (maxSteps := 3000000) [-List.length_flatten,-List.map_drop,-List.map_take,Function.comp_def,argsT,Opd.ev,Tm.get,put,ares,mapMo,ares1,snilP,bldParts,bslParts,putAt,AV.cells,AV.one,astore,aload,loadCs,callArgs,abin,abinInt,aapp,elems,appMore,appNone,preLen,aFa,aFld,apart,aExt,aPick,aNot,aLens,aEqa,cellsK,fitsA,LK.fitsA,leavesA,leafA,nilD,aNilc,aCint,aCid,alive,alen,alenOk,Rle,lePs,len_flat, h, kx]
  rw [chunk_one (f := i64)]
  simp
end Go.AM

namespace Go.AM
open Go.Proofs
set_option maxRecDepth 100000
set_option linter.unusedVariables false
set_option linter.unusedSimpArgs false
theorem has51_PF (l : List ByteArray) (s : ByteArray) : PF Tryz.prog 49 [strs l, .str s] (.bool (decide (0 ≤ fstAt (fun x => decide (x = s)) l))) := by
 refine PFk 9 hm Tryz.func49 c49_ok (Nat.le_of_ble_eq_true rfl) (by simp) (by simp) ?_
 simp (maxSteps := 3000000) [-List.length_flatten,-List.map_drop,-List.map_take,Function.comp_def,argsT,Opd.ev,Tm.get,put,ares,mapMo,ares1,snilP,bldParts,bslParts,putAt,AV.cells,AV.one,astore,aload,loadCs,callArgs,abin,abinInt,aapp,elems,appMore,appNone,preLen,aFa,aFld,apart,aExt,aPick,aNot,aLens,aEqa,cellsK,fitsA,LK.fitsA,leavesA,leafA,nilD,aNilc,aCint,aCid,alive,alen,alenOk,Rle,lePs,len_flat, c49]
 refine PF.call (index73_PF l s) 9 (by simp [lePs, -List.length_flatten, -List.map_drop, -List.map_take, Function.comp_def, len_flat]) ?_
 simp (maxSteps := 3000000) [-List.length_flatten,-List.map_drop,-List.map_take,Function.comp_def,argsT,Opd.ev,Tm.get,put,ares,mapMo,ares1,snilP,bldParts,bslParts,putAt,AV.cells,AV.one,astore,aload,loadCs,callArgs,abin,abinInt,aapp,elems,appMore,appNone,preLen,aFa,aFld,apart,aExt,aPick,aNot,aLens,aEqa,cellsK,fitsA,LK.fitsA,leavesA,leafA,nilD,aNilc,aCint,aCid,alive,alen,alenOk,Rle,lePs,len_flat, Kc]
theorem add50_FT (b0 : ABlk) (g : Nat) (o l : List ByteArray) (hn : o.length + l.length ≤ 1000000000) :
  FT Tryz.prog 48 [strs l, .ptr 1 0 0] [b0, .cells 0 [.loc 2 g 0 o.length 1 false], .cells g (o.map AV.str)] fun rv H' => rv = .tuple [] ∧ ∃ g', H' = [b0, .cells 0 [.loc 2 g' 0 (addF o l).length 1 false], .cells g' ((addF o l).map AV.str)] := by
 refine FTk hm Tryz.func48 c48_ok (Nat.le_of_ble_eq_true rfl) ?_
 simp (maxSteps := 3000000) [-List.length_flatten,-List.map_drop,-List.map_take,Function.comp_def,argsT,Opd.ev,Tm.get,put,ares,mapMo,ares1,snilP,bldParts,bslParts,putAt,AV.cells,AV.one,astore,aload,loadCs,callArgs,abin,abinInt,aapp,elems,appMore,appNone,preLen,aFa,aFld,apart,aExt,aPick,aNot,aLens,aEqa,cellsK,fitsA,LK.fitsA,leavesA,leafA,nilD,aNilc,aCint,aCid,alive,alen,alenOk,Rle,lePs,len_flat, c48]
 intro hA
 refine run_loopK (fun m T H => ∃ i g : Nat, m = l.length - i ∧ i ≤ l.length ∧ T = [(7, i64 i), (6, i64 l.length), (5, strs l), (1, .ptr 1 0 0)] ∧ H = [b0, .cells 0 [.loc 2 g 0 (addF o (l.take i)).length 1 false], .cells g ((addF o (l.take i)).map AV.str)]) l.length
  [(7, i64 (0 : Nat)), (6, i64 l.length), (5, strs l), (1, .ptr 1 0 0)] _ (Wk.sub (by simp [Tm.get])) ⟨0, g, rfl, by omega, rfl, rfl⟩ ?_
 rintro m T H ⟨i, g, rfl, hi, rfl, rfl⟩ KK kx kr kn
 by_cases h : i < l.length
 ·have e := addF_next (o := o) h
  have hl2 := addF_len (l.take i) o
  simp only [List.length_take] at hl2
  have nx : ∀ (T : Tm) (g : Nat), al (fun q => T.get q.1 = q.2) [(7, i64 (i + 1 : Nat)), (6, i64 l.length), (5, strs l), (1, .ptr 1 0 0)] → KK .normal T [b0, .cells 0 [.loc 2 g 0 (addF o (l.take (i + 1))).length 1 false], .cells g ((addF o (l.take (i + 1))).map AV.str)] := fun T g ht =>
   kn _ _ (Kl_sub (l.length - (i + 1)) (T' := [(7, i64 (i + 1 : Nat)), (6, i64 l.length), (5, strs l), (1, .ptr 1 0 0)]) ⟨i + 1, g, rfl, by omega, rfl, rfl⟩ ht (by omega))
  rw [e] at nx
  generalize addF o (l.take i) = a at *
  by_cases h2 : gi l i = ⟨#[]⟩
  ·have e1 : add1 a (gi l i) = a := by simp [add1, h2]
   rw [e1] at nx
   simp (maxSteps := 3000000) [-List.length_flatten,-List.map_drop,-List.map_take,Function.comp_def,argsT,Opd.ev,Tm.get,put,ares,mapMo,ares1,snilP,bldParts,bslParts,putAt,AV.cells,AV.one,astore,aload,loadCs,callArgs,abin,abinInt,aapp,elems,appMore,appNone,preLen,aFa,aFld,apart,aExt,aPick,aNot,aLens,aEqa,cellsK,fitsA,LK.fitsA,leavesA,leafA,nilD,aNilc,aCint,aCid,alive,alen,alenOk,Rle,lePs,len_flat, h, h2]
   exact nx _ g (by simp [Tm.get, nxt h hA])
  ·simp (maxSteps := 3000000) [-List.length_flatten,-List.map_drop,-List.map_take,Function.comp_def,argsT,Opd.ev,Tm.get,put,ares,mapMo,ares1,snilP,bldParts,bslParts,putAt,AV.cells,AV.one,astore,aload,loadCs,callArgs,abin,abinInt,aapp,elems,appMore,appNone,preLen,aFa,aFld,apart,aExt,aPick,aNot,aLens,aEqa,cellsK,fitsA,LK.fitsA,leavesA,leafA,nilD,aNilc,aCint,aCid,alive,alen,alenOk,Rle,lePs,len_flat, h, h2]
   refine PF.borrow (has51_PF a (gi l i)) 9 9 rfl (by simp [lePs, chunk_one]) ?_
   by_cases h1 : fstAt (fun x => decide (x = gi l i)) a < 0
   ·have e1 : add1 a (gi l i) = a ++ [gi l i] := by simp [add1, h1, h2]
    have h1' : ¬ 0 ≤ fstAt (fun x => decide (x = gi l i)) a := by omega
    have hm : a.length + 1 ≤ maxA := by unfold maxA; omega
    have tk : List.take a.length (a.map AV.str) = a.map AV.str := List.take_of_length_le (by simp)
    rw [e1, show (a ++ [gi l i]).map AV.str = a.map AV.str ++ [AV.str (gi l i)] by simp, show (a ++ [gi l i]).length = a.length + 1 by simp] at nx
    simp (maxSteps := 3000000) [-List.length_flatten,-List.map_drop,-List.map_take,Function.comp_def,argsT,Opd.ev,Tm.get,put,ares,mapMo,ares1,snilP,bldParts,bslParts,putAt,AV.cells,AV.one,astore,aload,loadCs,callArgs,abin,abinInt,aapp,elems,appMore,appNone,preLen,aFa,aFld,apart,aExt,aPick,aNot,aLens,aEqa,cellsK,fitsA,LK.fitsA,leavesA,leafA,nilD,aNilc,aCint,aCid,alive,alen,alenOk,Rle,lePs,len_flat, Kc, h, h1', hm, tk]
    intro _ _
    exact nx _ (g + 1) (by simp [Tm.get, nxt h hA])
   ·have e1 : add1 a (gi l i) = a := by simp [add1, h1]
    have h1' : 0 ≤ fstAt (fun x => decide (x = gi l i)) a := by omega
    rw [e1] at nx
    simp (maxSteps := 3000000) [-List.length_flatten,-List.map_drop,-List.map_take,Function.comp_def,argsT,Opd.ev,Tm.get,put,ares,mapMo,ares1,snilP,bldParts,bslParts,putAt,AV.cells,AV.one,astore,aload,loadCs,callArgs,abin,abinInt,aapp,elems,appMore,appNone,preLen,aFa,aFld,apart,aExt,aPick,aNot,aLens,aEqa,cellsK,fitsA,LK.fitsA,leavesA,leafA,nilD,aNilc,aCint,aCid,alive,alen,alenOk,Rle,lePs,len_flat, Kc, h, h1']
    exact nx _ g (by simp [Tm.get, nxt h hA])
 ·have : l.take i = l := List.take_of_length_le (by omega)
  rw [this]
  simp (maxSteps := 3000000) [-List.length_flatten,-List.map_drop,-List.map_take,Function.comp_def,argsT,Opd.ev,Tm.get,put,ares,mapMo,ares1,snilP,bldParts,bslParts,putAt,AV.cells,AV.one,astore,aload,loadCs,callArgs,abin,abinInt,aapp,elems,appMore,appNone,preLen,aFa,aFld,apart,aExt,aPick,aNot,aLens,aEqa,cellsK,fitsA,LK.fitsA,leavesA,leafA,nilD,aNilc,aCint,aCid,alive,alen,alenOk,Rle,lePs,len_flat, h, kx]
theorem add50T_FT (b0 x : ABlk) (g : Nat) (o l : List ByteArray) (hb : RLB 3 b0) (hn : o.length + l.length ≤ 1000000000) :
  FT Tryz.prog 48 [strs l, .ptr 1 0 0] [b0, .cells 0 [.loc 2 g 0 o.length 1 false], .cells g (o.map AV.str), x] fun rv H' => rv = .tuple [] ∧ ∃ g', H' = [b0, .cells 0 [.loc 2 g' 0 (addF o l).length 1 false], .cells g' ((addF o l).map AV.str), x] := by
 refine ((add50_FT b0 g o l hn).tail (H2 := [x]) (fun rv H' hr => by obtain ⟨_, g', rfl⟩ := hr; rfl) (by simp) (by
  intro b hb'
  simp only [List.mem_cons, List.not_mem_nil, or_false] at hb'
  rcases hb' with rfl | rfl | rfl
  ·exact hb
  ·simp [RLB]
  ·simp [RLB])).mono ?_
 rintro rv H' ⟨_, ⟨rfl, g', rfl⟩, rfl⟩
 exact ⟨rfl, g', rfl⟩
theorem vars27_PF (p : Pg) (hp : Fits p) : PF Tryz.prog 19 [.agg p.cs] (strs (varsOf p)) := by
 refine PFk 9 hm Tryz.func19 c19_ok (Nat.le_of_ble_eq_true rfl) (by simp) (by simp) ?_
 have hA : p.l.length ≤ maxA := by have := hp.l; unfold maxA; omega
 have hB : p.funs.length ≤ maxA := by have := hp.funs; unfold maxA; omega
 obtain ⟨R, hR⟩ : ∃ R, R = varsOf p := ⟨_, rfl⟩
 rw [← hR]
 simp (maxSteps := 3000000) [-List.length_flatten,-List.map_drop,-List.map_take,Function.comp_def,argsT,Opd.ev,Tm.get,put,ares,mapMo,ares1,snilP,bldParts,bslParts,putAt,AV.cells,AV.one,astore,aload,loadCs,callArgs,abin,abinInt,aapp,elems,appMore,appNone,preLen,aFa,aFld,apart,aExt,aPick,aNot,aLens,aEqa,cellsK,fitsA,LK.fitsA,leavesA,leafA,nilD,aNilc,aCint,aCid,alive,alen,alenOk,Rle,lePs,len_flat, c19, hB]
 refine run_loopK (fun m T H => ∃ i g : Nat, m = p.funs.length - i ∧ i ≤ p.funs.length ∧ T = [(13, i64 i), (12, i64 p.funs.length), (11, fns p.funs), (1, .ptr 0 0 0), (3, .ptr 1 0 0), (4, .fn (.func 48) [] [.ptr 1 0 0])] ∧ H = [.cells 0 p.cs, .cells 0 [.loc 2 g 0 ((p.funs.take i).foldl varsF []).length 1 false], .cells g (((p.funs.take i).foldl varsF []).map AV.str)]) p.funs.length
  [(13, i64 (0 : Nat)), (12, i64 p.funs.length), (11, fns p.funs), (1, .ptr 0 0 0), (3, .ptr 1 0 0), (4, .fn (.func 48) [] [.ptr 1 0 0])] [.cells 0 p.cs, .cells 0 [.loc 2 0 0 0 1 false], .cells 0 []]
  ((Wk.sub (by simp [Tm.get])).trans (Wk.own.trans (Wk.nilC 1 2 1 rfl rfl))) ⟨0, 0, rfl, by omega, rfl, rfl⟩ ?_
 rintro m T H ⟨i, g, rfl, hi, rfl, rfl⟩ KK kx kr kn
 by_cases h : i < p.funs.length
 ·have e := foldl_next (f := varsF) (b := []) h
  have hl2 := varsF_len (p.funs.take i) (fun f hf => hp.params f (List.mem_of_mem_take hf)) []
  have hl3 := hp.params _ (gi_mem h)
  have hl4 := hp.funs
  simp only [List.length_take, List.length_nil] at hl2
  generalize (p.funs.take i).foldl varsF [] = a at *
  have hl5 := addF_len (gi p.funs i).params a
  simp (maxSteps := 3000000) [-List.length_flatten,-List.map_drop,-List.map_take,Function.comp_def,argsT,Opd.ev,Tm.get,put,ares,mapMo,ares1,snilP,bldParts,bslParts,putAt,AV.cells,AV.one,astore,aload,loadCs,callArgs,abin,abinInt,aapp,elems,appMore,appNone,preLen,aFa,aFld,apart,aExt,aPick,aNot,aLens,aEqa,cellsK,fitsA,LK.fitsA,leavesA,leafA,nilD,aNilc,aCint,aCid,alive,alen,alenOk,Rle,lePs,len_flat, h]
  refine (add50T_FT (.cells 0 p.cs) _ g a (gi p.funs i).params (by simp [RLB]) (by omega)).mono ?_
  rintro _ _ ⟨rfl, g1, rfl⟩
  simp (maxSteps := 3000000) [-List.length_flatten,-List.map_drop,-List.map_take,Function.comp_def,argsT,Opd.ev,Tm.get,put,ares,mapMo,ares1,snilP,bldParts,bslParts,putAt,AV.cells,AV.one,astore,aload,loadCs,callArgs,abin,abinInt,aapp,elems,appMore,appNone,preLen,aFa,aFld,apart,aExt,aPick,aNot,aLens,aEqa,cellsK,fitsA,LK.fitsA,leavesA,leafA,nilD,aNilc,aCint,aCid,alive,alen,alenOk,Rle,lePs,len_flat, Kc]
  refine ((add50T_FT (.cells 0 p.cs) _ g1 (addF a (gi p.funs i).params) [(gi p.funs i).ret] (by simp [RLB]) (by simp; omega)).le 9 (by simp [lePs]; exact leP_refl 9 _)).mono ?_
  rintro _ _ ⟨rfl, g2, rfl⟩
  rw [addF_one, show add1 (addF a (gi p.funs i).params) (gi p.funs i).ret = (p.funs.take (i + 1)).foldl varsF [] from e.symm]
  simp (maxSteps := 3000000) [-List.length_flatten,-List.map_drop,-List.map_take,Function.comp_def,argsT,Opd.ev,Tm.get,put,ares,mapMo,ares1,snilP,bldParts,bslParts,putAt,AV.cells,AV.one,astore,aload,loadCs,callArgs,abin,abinInt,aapp,elems,appMore,appNone,preLen,aFa,aFld,apart,aExt,aPick,aNot,aLens,aEqa,cellsK,fitsA,LK.fitsA,leavesA,leafA,nilD,aNilc,aCint,aCid,alive,alen,alenOk,Rle,lePs,len_flat, Kc]
  exact kn _ _ (Kl_next (p.funs.length - (i + 1)) 3 (by simp) (T' := [(13, i64 (i + 1 : Nat)), (12, i64 p.funs.length), (11, fns p.funs), (1, .ptr 0 0 0), (3, .ptr 1 0 0), (4, .fn (.func 48) [] [.ptr 1 0 0])]) ⟨i + 1, g2, rfl, by omega, rfl, rfl⟩ (by simp [Tm.get, nxt h hB]) (by simp) rfl (by simp [RLB]) (by omega))
 ·have : p.funs.take i = p.funs := List.take_of_length_le (by omega)
  rw [this]
  have hl2 := varsF_len p.funs hp.params []
  simp only [List.length_nil] at hl2
  have hv : R = p.l.foldl varsS (p.funs.foldl varsF []) := hR
  clear hR
  generalize p.funs.foldl varsF [] = b at *
  simp (maxSteps := 3000000) [-List.length_flatten,-List.map_drop,-List.map_take,Function.comp_def,argsT,Opd.ev,Tm.get,put,ares,mapMo,ares1,snilP,bldParts,bslParts,putAt,AV.cells,AV.one,astore,aload,loadCs,callArgs,abin,abinInt,aapp,elems,appMore,appNone,preLen,aFa,aFld,apart,aExt,aPick,aNot,aLens,aEqa,cellsK,fitsA,LK.fitsA,leavesA,leafA,nilD,aNilc,aCint,aCid,alive,alen,alenOk,Rle,lePs,len_flat, h, hA, kx]
  refine run_loopK (fun m T H => ∃ i g : Nat, m = p.l.length - i ∧ i ≤ p.l.length ∧ T = [(30, i64 i), (29, i64 p.l.length), (28, stms p.l), (1, .ptr 0 0 0), (3, .ptr 1 0 0), (4, .fn (.func 48) [] [.ptr 1 0 0])] ∧ H = [.cells 0 p.cs, .cells 0 [.loc 2 g 0 ((p.l.take i).foldl varsS b).length 1 false], .cells g (((p.l.take i).foldl varsS b).map AV.str)]) p.l.length
   [(30, i64 (0 : Nat)), (29, i64 p.l.length), (28, stms p.l), (1, .ptr 0 0 0), (3, .ptr 1 0 0), (4, .fn (.func 48) [] [.ptr 1 0 0])] _ (Wk.sub (by simp [Tm.get])) ⟨0, g, rfl, by omega, rfl, rfl⟩ ?_
  clear kx kr kn
  rintro m T H ⟨i, g, rfl, hi, rfl, rfl⟩ KK kx kr kn
  by_cases h : i < p.l.length
  ·have e := foldl_next (f := varsS) (b := b) h
   have hl3 := varsS_len (p.l.take i) (fun f hf => hp.args f (List.mem_of_mem_take hf)) b
   have hl4 := hp.args _ (gi_mem h)
   have hl5 := hp.l
   have hl6 := hp.funs
   simp only [List.length_take] at hl3
   generalize (p.l.take i).foldl varsS b = a at *
   have nx : ∀ (T : Tm) (g : Nat) (x : ABlk), al (fun q => T.get q.1 = q.2) [(30, i64 (i + 1 : Nat)), (29, i64 p.l.length), (28, stms p.l), (1, .ptr 0 0 0), (3, .ptr 1 0 0), (4, .fn (.func 48) [] [.ptr 1 0 0])] →
     KK .normal T [.cells 0 p.cs, .cells 0 [.loc 2 g 0 (varsS a (gi p.l i)).length 1 false], .cells g ((varsS a (gi p.l i)).map AV.str), x] := fun T g x ht =>
    kn _ _ (Kl_next (p.l.length - (i + 1)) 3 (by simp) (T' := [(30, i64 (i + 1 : Nat)), (29, i64 p.l.length), (28, stms p.l), (1, .ptr 0 0 0), (3, .ptr 1 0 0), (4, .fn (.func 48) [] [.ptr 1 0 0])])
     (H' := [.cells 0 p.cs, .cells 0 [.loc 2 g 0 (varsS a (gi p.l i)).length 1 false], .cells g ((varsS a (gi p.l i)).map AV.str)]) ⟨i + 1, g, rfl, by omega, rfl, by rw [e]⟩ ht (by simp) rfl (by simp [RLB]) (by omega))
   have hl7 := add1_len a (gi p.l i).x
   have hl8 := add1_len (add1 a (gi p.l i).x) (gi p.l i).y
   simp (maxSteps := 3000000) [-List.length_flatten,-List.map_drop,-List.map_take,Function.comp_def,argsT,Opd.ev,Tm.get,put,ares,mapMo,ares1,snilP,bldParts,bslParts,putAt,AV.cells,AV.one,astore,aload,loadCs,callArgs,abin,abinInt,aapp,elems,appMore,appNone,preLen,aFa,aFld,apart,aExt,aPick,aNot,aLens,aEqa,cellsK,fitsA,LK.fitsA,leavesA,leafA,nilD,aNilc,aCint,aCid,alive,alen,alenOk,Rle,lePs,len_flat, h]
   refine ((add50T_FT (.cells 0 p.cs) _ g a [(gi p.l i).x] (by simp [RLB]) (by simp; omega)).le 9 (by simp [lePs]; exact leP_refl 9 _)).mono ?_
   rintro _ _ ⟨rfl, g1, rfl⟩
   rw [addF_one]
   unfold varsS at nx
   by_cases hk : (gi p.l i).kind = 6
   ·have t1 : ((gi p.l i).kind = 6) = True := eq_true hk
    rw [if_pos hk] at nx
    simp (maxSteps := 3000000) [-List.length_flatten,-List.map_drop,-List.map_take,Function.comp_def,argsT,Opd.ev,Tm.get,put,ares,mapMo,ares1,snilP,bldParts,bslParts,putAt,AV.cells,AV.one,astore,aload,loadCs,callArgs,abin,abinInt,aapp,elems,appMore,appNone,preLen,aFa,aFld,apart,aExt,aPick,aNot,aLens,aEqa,cellsK,fitsA,LK.fitsA,leavesA,leafA,nilD,aNilc,aCint,aCid,alive,alen,alenOk,Rle,lePs,len_flat, Kc, t1]
    refine (add50T_FT (.cells 0 p.cs) _ g1 (add1 a (gi p.l i).x) (gi p.l i).args (by simp [RLB]) (by omega)).mono ?_
    rintro _ _ ⟨rfl, g2, rfl⟩
    simp (maxSteps := 3000000) [-List.length_flatten,-List.map_drop,-List.map_take,Function.comp_def,argsT,Opd.ev,Tm.get,put,ares,mapMo,ares1,snilP,bldParts,bslParts,putAt,AV.cells,AV.one,astore,aload,loadCs,callArgs,abin,abinInt,aapp,elems,appMore,appNone,preLen,aFa,aFld,apart,aExt,aPick,aNot,aLens,aEqa,cellsK,fitsA,LK.fitsA,leavesA,leafA,nilD,aNilc,aCint,aCid,alive,alen,alenOk,Rle,lePs,len_flat, Kc]
    exact nx _ g2 _ (by simp [Tm.get, nxt h hA])
   ·rw [if_neg hk] at nx
    simp (maxSteps := 3000000) [-List.length_flatten,-List.map_drop,-List.map_take,Function.comp_def,argsT,Opd.ev,Tm.get,put,ares,mapMo,ares1,snilP,bldParts,bslParts,putAt,AV.cells,AV.one,astore,aload,loadCs,callArgs,abin,abinInt,aapp,elems,appMore,appNone,preLen,aFa,aFld,apart,aExt,aPick,aNot,aLens,aEqa,cellsK,fitsA,LK.fitsA,leavesA,leafA,nilD,aNilc,aCint,aCid,alive,alen,alenOk,Rle,lePs,len_flat, Kc, hk]
    refine ((add50T_FT (.cells 0 p.cs) _ g1 (add1 a (gi p.l i).x) [(gi p.l i).y] (by simp [RLB]) (by simp; omega)).le 9 (by simp [lePs]; exact leP_refl 9 _)).mono ?_
    rintro _ _ ⟨rfl, g2, rfl⟩
    rw [addF_one]
    simp (maxSteps := 3000000) [-List.length_flatten,-List.map_drop,-List.map_take,Function.comp_def,argsT,Opd.ev,Tm.get,put,ares,mapMo,ares1,snilP,bldParts,bslParts,putAt,AV.cells,AV.one,astore,aload,loadCs,callArgs,abin,abinInt,aapp,elems,appMore,appNone,preLen,aFa,aFld,apart,aExt,aPick,aNot,aLens,aEqa,cellsK,fitsA,LK.fitsA,leavesA,leafA,nilD,aNilc,aCint,aCid,alive,alen,alenOk,Rle,lePs,len_flat, Kc]
    refine (add50T_FT (.cells 0 p.cs) _ g2 (add1 (add1 a (gi p.l i).x) (gi p.l i).y) (gi p.l i).args (by simp [RLB]) (by omega)).mono ?_
    rintro _ _ ⟨rfl, g3, rfl⟩
    simp (maxSteps := 3000000) [-List.length_flatten,-List.map_drop,-List.map_take,Function.comp_def,argsT,Opd.ev,Tm.get,put,ares,mapMo,ares1,snilP,bldParts,bslParts,putAt,AV.cells,AV.one,astore,aload,loadCs,callArgs,abin,abinInt,aapp,elems,appMore,appNone,preLen,aFa,aFld,apart,aExt,aPick,aNot,aLens,aEqa,cellsK,fitsA,LK.fitsA,leavesA,leafA,nilD,aNilc,aCint,aCid,alive,alen,alenOk,Rle,lePs,len_flat, Kc]
    exact nx _ g3 _ (by simp [Tm.get, nxt h hA])
  ·have : p.l.take i = p.l := List.take_of_length_le (by omega)
   rw [this, ← hv]
   simp (maxSteps := 3000000) [-List.length_flatten,-List.map_drop,-List.map_take,Function.comp_def,argsT,Opd.ev,Tm.get,put,ares,mapMo,ares1,snilP,bldParts,bslParts,putAt,AV.cells,AV.one,astore,aload,loadCs,callArgs,abin,abinInt,aapp,elems,appMore,appNone,preLen,aFa,aFld,apart,aExt,aPick,aNot,aLens,aEqa,cellsK,fitsA,LK.fitsA,leavesA,leafA,nilD,aNilc,aCint,aCid,alive,alen,alenOk,Rle,lePs,len_flat, h, kx]
   simp [chunk_one]
end Go.AM

namespace Go.AM
open Go.Proofs
set_option maxRecDepth 100000
set_option linter.unusedVariables false
set_option linter.unusedSimpArgs false
/-! ### Names and places -/
theorem mem_add1_self {o : List ByteArray} {s : ByteArray} (h : s ≠ ⟨#[]⟩) : s ∈ add1 o s := by
 unfold add1
 split
 ·simp
 ·rename_i hn
  have : ¬ fstAt (fun x => decide (x = s)) o < 0 := fun hl => hn ⟨hl, h⟩
  exact Classical.byContradiction fun hno => this (fstAt_mem.2 hno)
theorem mem_add1 {o : List ByteArray} {s x : ByteArray} (h : x ∈ o) : x ∈ add1 o s := by
 unfold add1
 split
 ·simp [h]
 ·exact h
theorem mem_foldl_left {α : Type} {f : List ByteArray → α → List ByteArray} {x : ByteArray} (hm : ∀ b a, x ∈ b → x ∈ f b a) : ∀ (l : List α) (b : List ByteArray), x ∈ b → x ∈ l.foldl f b
 | [], b, h => h
 | a :: l, b, h => mem_foldl_left hm l _ (hm b a h)
theorem mem_foldl_right {α : Type} {f : List ByteArray → α → List ByteArray} {x : ByteArray} (hm : ∀ b a, x ∈ b → x ∈ f b a) {a : α} (ha : ∀ b, x ∈ f b a) : ∀ (l : List α) (b : List ByteArray), a ∈ l → x ∈ l.foldl f b
 | c :: l, b, h => by
  rcases List.mem_cons.1 h with rfl | h
  ·exact mem_foldl_left hm l _ (ha b)
  ·exact mem_foldl_right hm ha l _ h
theorem mem_addF_left {o l : List ByteArray} {x : ByteArray} (h : x ∈ o) : x ∈ addF o l := mem_foldl_left (fun _ _ h => mem_add1 h) l o h
theorem mem_addF_right {o l : List ByteArray} {x : ByteArray} (h : x ∈ l) (hx : x ≠ ⟨#[]⟩) : x ∈ addF o l := mem_foldl_right (f := add1) (a := x) (fun _ _ h => mem_add1 h) (fun _ => mem_add1_self hx) l o h
theorem mem_varsF {o : List ByteArray} {f : Fn0} {x : ByteArray} (h : x ∈ o) : x ∈ varsF o f := mem_add1 (mem_addF_left h)
theorem mem_varsS {o : List ByteArray} {s : Stm} {x : ByteArray} (h : x ∈ o) : x ∈ varsS o s := by
 unfold varsS
 refine mem_addF_left ?_
 split
 ·exact mem_add1 h
 ·exact mem_add1 (mem_add1 h)
theorem vars_fn {p : Pg} {f : Fn0} {x : ByteArray} (hf : f ∈ p.funs) (h : ∀ b, x ∈ varsF b f) : x ∈ varsOf p :=
 mem_foldl_left (fun _ _ h => mem_varsS h) _ _ (mem_foldl_right (f := varsF) (a := f) (fun _ _ h => mem_varsF h) h _ _ hf)
theorem vars_stm {p : Pg} {s : Stm} {x : ByteArray} (hs : s ∈ p.l) (h : ∀ b, x ∈ varsS b s) : x ∈ varsOf p :=
 mem_foldl_right (f := varsS) (a := s) (fun _ _ h => mem_varsS h) h _ _ hs
theorem fstAt_range {α : Type} {P : α → Bool} {l : List α} (h : ∃ a ∈ l, P a = true) : 0 ≤ fstAt P l ∧ fstAt P l < l.length := by
 unfold fstAt
 split
 ·rename_i i hi
  rw [List.findIdx?_eq_some_iff_getElem] at hi
  obtain ⟨h1, _⟩ := hi
  omega
 ·rename_i hi
  rw [List.findIdx?_eq_none_iff] at hi
  obtain ⟨a, ha, hp⟩ := h
  rw [hi a ha] at hp
  cases hp
theorem ix_of {p : Pg} {x : ByteArray} (h : x ∈ varsOf p) : 0 ≤ ix p x ∧ ix p x < (varsOf p).length := fstAt_range ⟨x, h, by simp⟩
theorem PgOk.param {p : Pg} (h : PgOk p) {f : Fn0} (hf : f ∈ p.funs) {a : ByteArray} (ha : a ∈ f.params) : 0 ≤ ix p a ∧ ix p a < (varsOf p).length :=
 ix_of (vars_fn hf fun b => mem_add1 (mem_addF_right ha ((h.funs f hf).params a ha)))
theorem PgOk.ret {p : Pg} (h : PgOk p) {f : Fn0} (hf : f ∈ p.funs) : 0 ≤ ix p f.ret ∧ ix p f.ret < (varsOf p).length :=
 ix_of (vars_fn hf fun b => mem_add1_self (h.funs f hf).ret)
theorem sitesN_app (a b : List Stm) : sitesN (a ++ b) = sitesN a + sitesN b := by
 unfold sitesN
 exact List.countP_append
theorem Of.stm {p : Pg} (h : Of p) {k : Nat} (hk : k < p.l.length) : StOk p (gi p.l k) := by
 obtain ⟨inn, hs, _, _⟩ := h.ok.l k hk
 have hmem := gi_mem hk
 refine ⟨hs.kind, ix_of (vars_stm hmem fun b => ?_), fun h2 h6 => ix_of (vars_stm hmem fun b => ?_), fun h2 => ?_, fun h6 => ?_, fun a ha => ix_of (vars_stm hmem fun b => mem_addF_right ha (hs.args a ha)), h.neat.args _ hmem⟩
 ·unfold varsS
  refine mem_addF_left ?_
  split
  ·exact mem_add1_self hs.x
  ·exact mem_add1 (mem_add1_self hs.x)
 ·unfold varsS
  rw [if_neg h6]
  exact mem_addF_left (mem_add1_self (hs.y h2 h6))
 ·have h1 := (hs.new h2).1
  have h3 := sitesN_next hk
  rw [if_pos h2] at h3
  have h4 : sitesN p.l = sitesN (p.l.take (k + 1)) + sitesN (p.l.drop (k + 1)) := by rw [← sitesN_app, List.take_append_drop]
  omega
 ·refine fstAt_range ?_
  obtain ⟨f, hf, he⟩ := List.mem_map.1 (h.neat.known _ hmem h6)
  exact ⟨f, hf, by simp [he]⟩
theorem Of.stmz {p : Pg} (h : Of p) {i : Int} (h0 : 0 ≤ i) (hi : i < p.l.length) : StOk p (gi p.l i) := by
 have := h.stm (k := i.toNat) (by omega)
 rwa [Int.toNat_of_nonneg h0] at this
theorem Of.fits {p : Pg} (h : Of p) : Fits p := by
 have h1 := h.neat.funs
 have h2 := h.neat.l
 exact h.ok.fits (by omega)
/-! ### What a machine is -/
structure Mc where
 cells : List Cl
 stack : List Ps
 edges : List Ed
 halt : Int
 deriving Inhabited
abbrev Mc.cs (m : Mc) : List AV := [.rows false 3 (m.cells.map Cl.cs), .rows false 3 (m.stack.map Ps.cs), pairs m.edges, i64 m.halt]
structure EdOk (p : Pg) (e : Ed) : Prop where
 a : 0 ≤ e.a ∧ e.a < p.l.length
 kind : (gi p.l e.a).kind = 7
 b : 0 ≤ e.b ∧ e.b < p.funs.length
 args : (gi p.l e.a).args.length = (gi p.funs e.b).params.length
structure MOk (p : Pg) (m : Mc) : Prop where
 cs : CsOk p m.cells
 one : 1 ≤ m.stack.length
 few : m.stack.length ≤ 20
 bot : (gi m.stack (0 : Nat)).body = -1 ∧ (gi m.stack (0 : Nat)).call = -1
 up : ∀ k : Nat, 1 ≤ k → k < m.stack.length → 0 ≤ (gi m.stack k).body ∧ (gi m.stack k).body < p.funs.length ∧ 0 ≤ (gi m.stack k).call ∧ (gi m.stack k).call < p.l.length
 pos : ∀ k : Nat, k < m.stack.length → 0 ≤ (gi m.stack k).at' ∧ (gi m.stack k).at' ≤ (bodyOf p (gi m.stack k).body).length ∧ (k + 1 < m.stack.length → (gi m.stack k).at' < (bodyOf p (gi m.stack k).body).length)
 es : ∀ e ∈ m.edges, EdOk p e
 nd : m.edges.Nodup
 halt : 0 ≤ m.halt ∧ m.halt ≤ 5
/-- What a choice does. -/
def doF (p : Pg) (m : Mc) (c : Int) : Mc :=
  if m.halt ≠ 0 ∨ c < 0 ∨ 2 < c then m
  else if c = 2 then { m with stack := moveF m.stack (m.stack.length - 1) 0 }
  else if ((bodyOf p (gi m.stack (m.stack.length - 1 : Nat)).body).length : Int) ≤ (gi m.stack (m.stack.length - 1 : Nat)).at' then
    (if (gi m.stack (m.stack.length - 1 : Nat)).body < 0 then { m with halt := 1 }
    else { m with cells := holdF m.cells (ix p (gi p.l (gi m.stack (m.stack.length - 1 : Nat)).call).x) (gi m.cells (ix p (gi p.funs (gi m.stack (m.stack.length - 1 : Nat)).body).ret)), stack := (moveF m.stack (m.stack.length - 2) ((gi m.stack (m.stack.length - 2 : Nat)).at' + 1)).take (m.stack.length - 1) })
  else if c = 1 then { m with stack := moveF m.stack (m.stack.length - 1) ((gi m.stack (m.stack.length - 1 : Nat)).at' + 1) }
  else if (gi p.l (gi (bodyOf p (gi m.stack (m.stack.length - 1 : Nat)).body) (gi m.stack (m.stack.length - 1 : Nat)).at')).kind = 7 then
    (let i := gi (bodyOf p (gi m.stack (m.stack.length - 1 : Nat)).body) (gi m.stack (m.stack.length - 1 : Nat)).at'
     let r := callF p m.cells m.stack m.edges i (gi p.l i)
     ⟨r.1, r.2.1, r.2.2.1, r.2.2.2⟩)
  else
    (let i := gi (bodyOf p (gi m.stack (m.stack.length - 1 : Nat)).body) (gi m.stack (m.stack.length - 1 : Nat)).at'
     let r := doneF p m.cells (gi p.l i)
     ⟨r.1, if r.2 = 0 then moveF m.stack (m.stack.length - 1) ((gi m.stack (m.stack.length - 1 : Nat)).at' + 1) else m.stack, m.edges, r.2⟩)
theorem pigeon : ∀ (N : Nat) (l : List Nat), l.Nodup → (∀ a ∈ l, a < N) → l.length ≤ N
 | 0, l, h, ha => by
  cases l with
  | nil => simp
  | cons a l => have := ha a (by simp); omega
 | N + 1, l, h, ha => by
  by_cases hm : N ∈ l
  ·have h1 := pigeon N (l.erase N) (h.erase N) (fun a hq => by
    have h2 := (h.mem_erase_iff (a := a) (b := N)).1 hq
    have := ha a h2.2
    have := h2.1
    omega)
   rw [List.length_erase_of_mem hm] at h1
   omega
  ·have := pigeon N l h (fun a hq => by
    have := ha a hq
    have : a ≠ N := fun e => hm (e ▸ hq)
    omega)
   omega
theorem nodup_map {α β : Type} {f : α → β} : ∀ {l : List α}, l.Nodup → (∀ x ∈ l, ∀ y ∈ l, f x = f y → x = y) → (l.map f).Nodup
 | [], _, _ => by simp
 | a :: l, h, hf => by
  rw [List.nodup_cons] at h
  rw [List.map_cons, List.nodup_cons]
  refine ⟨fun hm => ?_, nodup_map h.2 fun x hx y hy => hf x (by simp [hx]) y (by simp [hy])⟩
  obtain ⟨b, hb, he⟩ := List.mem_map.1 hm
  exact h.1 (hf b (by simp [hb]) a (by simp) he ▸ hb)
theorem MOk.esLen {p : Pg} {m : Mc} (h : MOk p m) (hp : Neat p) : m.edges.length ≤ 1000 := by
 have h1 := hp.funs
 have h2 := hp.l
 have := pigeon 600 (m.edges.map fun e => e.a.toNat * 9 + e.b.toNat) (nodup_map h.nd fun x hx y hy he => ?_) (fun a ha => ?_)
 ·simp at this
  omega
 ·have a1 := (h.es x hx).a
  have a2 := (h.es x hx).b
  have b1 := (h.es y hy).a
  have b2 := (h.es y hy).b
  exact Ed.ext' (by omega) (by omega)
 ·obtain ⟨e, he, rfl⟩ := List.mem_map.1 ha
  have a1 := (h.es e he).a
  have a2 := (h.es e he).b
  omega
end Go.AM

namespace Go.AM
open Go.Proofs
set_option maxRecDepth 100000
set_option linter.unusedVariables false
set_option linter.unusedSimpArgs false
theorem gi_set {α : Type} [Inhabited α] {l : List α} {k i : Nat} {x : α} (hk : k < l.length) : gi (l.set k x) (i : Int) = if k = i then x else gi l (i : Int) := by
 unfold gi List.getD
 rw [Int.toNat_natCast, List.getElem?_set]
 by_cases h : k = i
 ·subst h
  simp [hk]
 ·simp [h]
theorem moveF_len (st : List Ps) (k : Nat) (v : Int) : (moveF st k v).length = st.length := by simp [moveF]
theorem gi_move {st : List Ps} {k i : Nat} {v : Int} (hk : k < st.length) : gi (moveF st k v) (i : Int) = if k = i then { gi st (k : Int) with at' := v } else gi st (i : Int) := by
 unfold moveF
 rw [gi_set hk]
 rfl
abbrev VOk (p : Pg) (n : Nat) (c : Cl) : Prop := 0 ≤ c.kind ∧ c.kind ≤ 2 ∧ (c.kind = 0 → c.v = 0) ∧ (c.kind = 1 → 0 ≤ c.v ∧ c.v < n) ∧ (c.kind = 2 → 0 ≤ c.v ∧ c.v < p.funs.length)
theorem holdF_len (cs : List Cl) (to : Int) (c : Cl) : (holdF cs to c).length = cs.length := by simp [holdF]
theorem holdF_loc {cs : List Cl} {to : Int} {c : Cl} (h0 : 0 ≤ to) (h1 : to < cs.length) (i : Nat) : (gi (holdF cs to c) i).loc = (gi cs i).loc := by
 unfold holdF
 rw [gi_set (by omega)]
 split
 ·rename_i h
  subst h
  simp only [Int.toNat_of_nonneg h0]
 ·rfl
theorem CsOk.hold {p : Pg} {cs : List Cl} (h : CsOk p cs) {to : Int} {c : Cl} (h0 : 0 ≤ to) (h1 : to < cs.length) (hc : VOk p cs.length c) : CsOk p (holdF cs to c) := by
 have hl := holdF_len cs to c
 refine ⟨by rw [hl]; exact h.few, by rw [hl]; exact h.vars, fun d hd => ?_, fun i hi => ?_⟩
 ·rw [hl]
  unfold holdF at hd
  rcases List.mem_or_eq_of_mem_set hd with hd | rfl
  ·exact h.vals d hd
  ·exact hc
 ·rw [holdF_loc h0 h1]
  exact h.locs i (by omega)
theorem CsOk.push {p : Pg} {cs : List Cl} (h : CsOk p cs) {n : Int} (hf : cs.length < 200) (h0 : 0 ≤ n) (h1 : n < sitesN p.l) : CsOk p (cs ++ [⟨(varsOf p).length + n, 0, 0⟩]) := by
 have hv := h.vars
 refine ⟨by simp; omega, by simp; omega, fun d hd => ?_, fun i hi => ?_⟩
 ·simp only [List.mem_append, List.mem_singleton] at hd
  rcases hd with hd | rfl
  ·obtain ⟨a, b, c, d', e⟩ := h.vals d hd
   exact ⟨a, b, c, fun hk => by have := d' hk; simp; omega, e⟩
  ·simp
 ·simp at hi
  by_cases hil : i < cs.length
  ·rw [gi_app_left hil]
   exact h.locs i hil
  ·have : i = cs.length := by omega
   subst this
   rw [gi_app_mid]
   exact ⟨fun hh => by omega, fun _ => by simp only; omega⟩
/-- What a step leaves of the cells. -/
structure CsUp (p : Pg) (cs cs' : List Cl) : Prop where
 ok : CsOk p cs'
 len : cs.length ≤ cs'.length
 loc : ∀ i : Nat, i < cs.length → (gi cs' i).loc = (gi cs i).loc
theorem CsOk.up {p : Pg} {cs : List Cl} (h : CsOk p cs) : CsUp p cs cs := ⟨h, Nat.le_refl _, fun _ _ => rfl⟩
theorem CsUp.hold {p : Pg} {cs cs' : List Cl} (h : CsUp p cs cs') {to : Int} {c : Cl} (h0 : 0 ≤ to) (h1 : to < cs'.length) (hc : VOk p cs'.length c) : CsUp p cs (holdF cs' to c) :=
 ⟨h.ok.hold h0 h1 hc, by rw [holdF_len]; exact h.len, fun i hi => by rw [holdF_loc h0 h1]; exact h.loc i hi⟩
theorem CsUp.trans {p : Pg} {cs cs' cs'' : List Cl} (h : CsUp p cs cs') (k : CsUp p cs' cs'') : CsUp p cs cs'' :=
 ⟨k.ok, Nat.le_trans h.len k.len, fun i hi => by rw [k.loc i (Nat.lt_of_lt_of_le hi h.len), h.loc i hi]⟩
theorem done_ok {p : Pg} {cs : List Cl} {s : Stm} (hc : CsOk p cs) (hs : StOk p s) (hk : s.kind ≠ 7) : CsUp p cs (doneF p cs s).1 ∧ 0 ≤ (doneF p cs s).2 ∧ (doneF p cs s).2 ≤ 5 := by
 obtain ⟨x0, x1⟩ := hs.x
 have hv := hc.vars
 have hx1 : ix p s.x < cs.length := by omega
 have hkk := hs.kind
 have hkc : s.kind = 1 ∨ s.kind = 2 ∨ s.kind = 3 ∨ s.kind = 4 ∨ s.kind = 5 ∨ s.kind = 6 := by omega
 rcases hkc with hk | hk | hk | hk | hk | hk
 ·obtain ⟨y0, y1⟩ := hs.y (by omega) (by omega)
  rw [show doneF p cs s = (holdF cs (ix p s.x) ⟨0, 1, ix p s.y⟩, 0) by simp [doneF, hk]]
  exact ⟨hc.up.hold x0 hx1 (by simp [VOk]; omega), by simp, by simp⟩
 ·have hn := hs.n hk
  rw [show doneF p cs s = (if cs.length = 200 then (cs, 5) else (holdF (cs ++ [⟨(varsOf p).length + s.n, 0, 0⟩]) (ix p s.x) ⟨0, 1, cs.length⟩, 0)) by simp [doneF, hk]]
  by_cases h200 : cs.length = 200
  ·rw [if_pos h200]
   exact ⟨hc.up, by simp, by simp⟩
  ·rw [if_neg h200]
   have hf := hc.few
   have hp := hc.push (by omega) hn.1 hn.2
   have hu : CsUp p cs (cs ++ [⟨(varsOf p).length + s.n, 0, 0⟩]) := ⟨hp, by simp, fun i hi => by rw [gi_app_left hi]⟩
   exact ⟨hu.hold x0 (by simp; omega) (by simp [VOk]; omega), by simp, by simp⟩
 ·obtain ⟨y0, y1⟩ := hs.y (by omega) (by omega)
  rw [show doneF p cs s = (holdF cs (ix p s.x) (gi cs (ix p s.y)), 0) by simp [doneF, hk]]
  exact ⟨hc.up.hold x0 hx1 (hc.vals _ (giz_mem y0 (by omega))), by simp, by simp⟩
 ·obtain ⟨y0, y1⟩ := hs.y (by omega) (by omega)
  rw [show doneF p cs s = (if (gi cs (ix p s.y)).kind = 1 then (holdF cs (ix p s.x) (gi cs (gi cs (ix p s.y)).v), 0) else (cs, 2)) by simp [doneF, hk]]
  split
  ·rename_i hk1
   obtain ⟨v0, v1⟩ := (hc.vals _ (giz_mem y0 (by omega))).2.2.2.1 hk1
   exact ⟨hc.up.hold x0 hx1 (hc.vals _ (giz_mem v0 v1)), by simp, by simp⟩
  ·exact ⟨hc.up, by simp, by simp⟩
 ·obtain ⟨y0, y1⟩ := hs.y (by omega) (by omega)
  rw [show doneF p cs s = (if (gi cs (ix p s.x)).kind = 1 then (holdF cs (gi cs (ix p s.x)).v (gi cs (ix p s.y)), 0) else (cs, 2)) by simp [doneF, hk]]
  split
  ·rename_i hk1
   obtain ⟨v0, v1⟩ := (hc.vals _ (giz_mem x0 (by omega))).2.2.2.1 hk1
   exact ⟨hc.up.hold v0 v1 (hc.vals _ (giz_mem y0 (by omega))), by simp, by simp⟩
  ·exact ⟨hc.up, by simp, by simp⟩
 ·have hf := hs.f hk
  rw [show doneF p cs s = (holdF cs (ix p s.x) ⟨0, 2, fx p s.y⟩, 0) by simp [doneF, hk]]
  exact ⟨hc.up.hold x0 hx1 (by simp [VOk]; omega), by simp, by simp⟩
theorem pass_ok {p : Pg} {cs : List Cl} {ps qs : List ByteArray} (hc : CsOk p cs) (hp : ∀ a ∈ ps, 0 ≤ ix p a ∧ ix p a < (varsOf p).length) (hq : ∀ a ∈ qs, 0 ≤ ix p a ∧ ix p a < (varsOf p).length) (hl : ps.length = qs.length) :
  ∀ i : Nat, i ≤ qs.length → CsUp p cs (passN p cs ps qs i)
 | 0, _ => hc.up
 | i + 1, hi => by
  have ih := pass_ok hc hp hq hl i (by omega)
  have hv := hc.vars
  have h1 := hp _ (gi_mem (l := ps) (i := i) (by omega))
  have h2 := hq _ (gi_mem (l := qs) (i := i) (by omega))
  have hln := passN_len p cs ps qs i
  exact ih.hold h1.1 (by rw [hln]; omega) (by rw [hln]; exact hc.vals _ (giz_mem h2.1 (by omega)))
/-- What a choice leaves. -/
structure Up (p : Pg) (m n : Mc) : Prop where
 ok : MOk p n
 cs : CsUp p m.cells n.cells
 es : ∃ r, n.edges = m.edges ++ r
theorem MOk.upp {p : Pg} {m : Mc} (h : MOk p m) : Up p m m := ⟨h, h.cs.up, [], by simp⟩
theorem bodyN_mem {l : List Stm} {b : Int} : ∀ {n : Nat}, n ≤ l.length → ∀ i ∈ bodyN l b n, 0 ≤ i ∧ i < n ∧ (gi l i).inn = b
 | 0, _, i, hi => by simp [bodyN] at hi
 | n + 1, hn, i, hi => by
  unfold bodyN at hi
  split at hi
  ·rename_i hb
   simp at hi
   rcases hi with hi | rfl
   ·have := bodyN_mem (by omega) i hi
    omega
   ·exact ⟨by omega, by omega, hb⟩
  ·have := bodyN_mem (by omega) i hi
   omega
theorem body_mem {p : Pg} {b i : Int} (h : i ∈ bodyOf p b) : 0 ≤ i ∧ i < p.l.length ∧ (gi p.l i).inn = b := bodyN_mem (Nat.le_refl _) i h
theorem body_len (p : Pg) (b : Int) : (bodyOf p b).length ≤ p.l.length := bodyN_len _ _ _
end Go.AM

namespace Go.AM
open Go.Proofs
set_option maxRecDepth 100000
set_option linter.unusedVariables false
set_option linter.unusedSimpArgs false
theorem MOk.cells' {p : Pg} {m : Mc} (h : MOk p m) {cs : List Cl} (hc : CsOk p cs) : MOk p { m with cells := cs } := ⟨hc, h.one, h.few, h.bot, h.up, h.pos, h.es, h.nd, h.halt⟩
theorem MOk.halt' {p : Pg} {m : Mc} (h : MOk p m) {x : Int} (h0 : 0 ≤ x) (h1 : x ≤ 5) : MOk p { m with halt := x } := ⟨h.cs, h.one, h.few, h.bot, h.up, h.pos, h.es, h.nd, ⟨h0, h1⟩⟩
theorem MOk.move {p : Pg} {m : Mc} (h : MOk p m) {v : Int} (h0 : 0 ≤ v) (h1 : v ≤ (bodyOf p (gi m.stack (m.stack.length - 1 : Nat)).body).length) : MOk p { m with stack := moveF m.stack (m.stack.length - 1) v } := by
 have hl := moveF_len m.stack (m.stack.length - 1) v
 have ho := h.one
 have hk : m.stack.length - 1 < m.stack.length := by omega
 have body : ∀ k : Nat, (gi (moveF m.stack (m.stack.length - 1) v) k).body = (gi m.stack k).body ∧ (gi (moveF m.stack (m.stack.length - 1) v) k).call = (gi m.stack k).call := fun k => by
  rw [gi_move hk]
  split
  ·rename_i e
   subst e
   exact ⟨rfl, rfl⟩
  ·exact ⟨rfl, rfl⟩
 refine ⟨h.cs, by rw [hl]; exact h.one, by rw [hl]; exact h.few, ?_, fun k hk1 hk2 => ?_, fun k hk2 => ?_, h.es, h.nd, h.halt⟩
 ·rw [(body 0).1, (body 0).2]
  exact h.bot
 ·simp only at hk2 ⊢
  rw [hl] at hk2
  rw [(body k).1, (body k).2]
  exact h.up k hk1 hk2
 ·simp only at hk2 ⊢
  rw [hl] at hk2 ⊢
  rw [(body k).1]
  rw [gi_move hk]
  split
  ·rename_i e
   subst e
   exact ⟨h0, h1, fun hh => by omega⟩
  ·exact h.pos k hk2
theorem Of.body {p : Pg} (hp : Of p) {m : Mc} (h : MOk p m) {k : Nat} (hk : k < m.stack.length) (hb : 0 ≤ (gi m.stack k).body) : (gi m.stack k).body < p.funs.length ∧ 0 ≤ (gi m.stack k).call ∧ (gi m.stack k).call < p.l.length ∧ 1 ≤ k := by
 have h0 : 1 ≤ k := by
  rcases Nat.eq_zero_or_pos k with h0 | h0
  ·subst h0
   have := h.bot.1
   omega
  ·exact h0
 have := h.up k h0 hk
 exact ⟨this.2.1, this.2.2.1, this.2.2.2, h0⟩
theorem gi_take {α : Type} [Inhabited α] {l : List α} {n k : Nat} (h : k < n) : gi (l.take n) (k : Int) = gi l (k : Int) := by
 unfold gi List.getD
 rw [Int.toNat_natCast, List.getElem?_take, if_pos h]
theorem MOk.pop {p : Pg} (hp : Of p) {m : Mc} (h : MOk p m) (h2 : 2 ≤ m.stack.length) : MOk p { m with stack := (moveF m.stack (m.stack.length - 2) ((gi m.stack (m.stack.length - 2 : Nat)).at' + 1)).take (m.stack.length - 1) } := by
 have hl := moveF_len m.stack (m.stack.length - 2) ((gi m.stack (m.stack.length - 2 : Nat)).at' + 1)
 have hk : m.stack.length - 2 < m.stack.length := by omega
 have hf := h.few
 have hln : ((moveF m.stack (m.stack.length - 2) ((gi m.stack (m.stack.length - 2 : Nat)).at' + 1)).take (m.stack.length - 1)).length = m.stack.length - 1 := by rw [List.length_take, hl]; omega
 have g : ∀ k : Nat, k < m.stack.length - 1 → gi ((moveF m.stack (m.stack.length - 2) ((gi m.stack (m.stack.length - 2 : Nat)).at' + 1)).take (m.stack.length - 1)) k = if m.stack.length - 2 = k then { gi m.stack ((m.stack.length - 2 : Nat) : Int) with at' := (gi m.stack (m.stack.length - 2 : Nat)).at' + 1 } else gi m.stack k := fun k hk' => by
  rw [gi_take hk', gi_move hk]
 have body : ∀ k : Nat, k < m.stack.length - 1 → (gi ((moveF m.stack (m.stack.length - 2) ((gi m.stack (m.stack.length - 2 : Nat)).at' + 1)).take (m.stack.length - 1)) k).body = (gi m.stack k).body ∧ (gi ((moveF m.stack (m.stack.length - 2) ((gi m.stack (m.stack.length - 2 : Nat)).at' + 1)).take (m.stack.length - 1)) k).call = (gi m.stack k).call := fun k hk' => by
  rw [g k hk']
  split
  ·rename_i e
   subst e
   exact ⟨rfl, rfl⟩
  ·exact ⟨rfl, rfl⟩
 refine ⟨h.cs, by simp only; rw [hln]; omega, by simp only; rw [hln]; omega, ?_, fun k hk1 hk2 => ?_, fun k hk2 => ?_, h.es, h.nd, h.halt⟩
 ·rw [(body 0 (by omega)).1, (body 0 (by omega)).2]
  exact h.bot
 ·simp only at hk2 ⊢
  rw [hln] at hk2
  rw [(body k hk2).1, (body k hk2).2]
  exact h.up k hk1 (by omega)
 ·simp only at hk2 ⊢
  rw [hln] at hk2 ⊢
  rw [(body k hk2).1, g k hk2]
  split
  ·rename_i e
   subst e
   have := h.pos (m.stack.length - 2) hk
   exact ⟨by simp only; omega, by simp only; have := this.2.2 (by omega); omega, fun hh => by omega⟩
  ·have := h.pos k (by omega)
   exact ⟨this.1, this.2.1, fun hh => this.2.2 (by omega)⟩
theorem MOk.push {p : Pg} {m : Mc} (h : MOk p m) {b i : Int} (hl : m.stack.length < 20) (hb : 0 ≤ b ∧ b < p.funs.length) (hi : 0 ≤ i ∧ i < p.l.length) (ht : (gi m.stack (m.stack.length - 1 : Nat)).at' < (bodyOf p (gi m.stack (m.stack.length - 1 : Nat)).body).length) :
  MOk p { m with stack := m.stack ++ [⟨b, 0, i⟩] } := by
 have ho := h.one
 have gl : ∀ k : Nat, k < m.stack.length → gi (m.stack ++ [(⟨b, 0, i⟩ : Ps)]) k = gi m.stack k := fun k hk => gi_app_left hk
 have ge : gi (m.stack ++ [(⟨b, 0, i⟩ : Ps)]) (m.stack.length : Nat) = ⟨b, 0, i⟩ := gi_app_mid
 refine ⟨h.cs, by simp, by simp; omega, ?_, fun k hk1 hk2 => ?_, fun k hk2 => ?_, h.es, h.nd, h.halt⟩
 ·rw [gl 0 (by omega)]
  exact h.bot
 ·simp at hk2 ⊢
  by_cases hk : k < m.stack.length
  ·rw [gl k hk]
   exact h.up k hk1 hk
  ·have : k = m.stack.length := by omega
   subst this
   rw [ge]
   exact ⟨hb.1, hb.2, hi.1, hi.2⟩
 ·simp at hk2 ⊢
  by_cases hk : k < m.stack.length
  ·rw [gl k hk]
   have := h.pos k hk
   refine ⟨this.1, this.2.1, fun hh => ?_⟩
   by_cases hkl : k + 1 < m.stack.length
   ·exact this.2.2 hkl
   ·have : k = m.stack.length - 1 := by omega
    subst this
    exact ht
  ·have : k = m.stack.length := by omega
   subst this
   rw [ge]
   exact ⟨by simp, by simp, fun hh => by omega⟩
theorem MOk.edge {p : Pg} {m : Mc} (h : MOk p m) {e : Ed} (he : EdOk p e) (hn : e ∉ m.edges) : MOk p { m with edges := m.edges ++ [e] } := by
 refine ⟨h.cs, h.one, h.few, h.bot, h.up, h.pos, fun x hx => ?_, ?_, h.halt⟩
 ·simp only [List.mem_append, List.mem_singleton] at hx
  rcases hx with hx | rfl
  ·exact h.es x hx
  ·exact he
 ·simp only
  rw [List.nodup_append]
  exact ⟨h.nd, by simp, fun a ha b hb => by
   simp at hb
   subst hb
   exact fun e => hn (e ▸ ha)⟩
theorem fstAt_memE {l : List Ed} {e : Ed} : fstAt (fun x => decide (x = e)) l < 0 → e ∉ l := by
 intro h hm
 have := (fstAt_range (P := fun x => decide (x = e)) (l := l) ⟨e, hm, by simp⟩).1
 omega
theorem do_up {p : Pg} (hp : Of p) {m : Mc} (h : MOk p m) (c : Int) : Up p m (doF p m c) := by
 have ho := h.one
 have hf := h.few
 have hkl : m.stack.length - 1 < m.stack.length := by omega
 have hpos := h.pos (m.stack.length - 1) hkl
 unfold doF
 split
 ·exact h.upp
 ·split
  ·exact ⟨h.move (by omega) (by omega), h.cs.up, [], by simp⟩
  ·split
   ·split
    ·exact ⟨h.halt' (by omega) (by omega), h.cs.up, [], by simp⟩
    ·rename_i hneg
     obtain ⟨b1, b2, b3, b4⟩ := hp.body h hkl (by omega)
     have hcl := hp.stmz b2 b3
     have hre := hp.ok.ret (giz_mem (l := p.funs) (i := (gi m.stack (m.stack.length - 1 : Nat)).body) (by omega) b1)
     have hv := h.cs.vars
     have hu := h.cs.up.hold (c := gi m.cells (ix p (gi p.funs (gi m.stack (m.stack.length - 1 : Nat)).body).ret)) hcl.x.1 (by have := hcl.x.2; omega) (h.cs.vals _ (giz_mem hre.1 (by omega)))
     exact ⟨(h.pop hp (by omega)).cells' hu.ok, hu, [], by simp⟩
   ·rename_i hlt
    have hlt' : (gi m.stack (m.stack.length - 1 : Nat)).at' < (bodyOf p (gi m.stack (m.stack.length - 1 : Nat)).body).length := by omega
    split
    ·exact ⟨h.move (by omega) (by omega), h.cs.up, [], by simp⟩
    ·have hi := body_mem (giz_mem hpos.1 hlt')
     generalize gi (bodyOf p (gi m.stack (m.stack.length - 1 : Nat)).body) (gi m.stack (m.stack.length - 1 : Nat)).at' = i at *
     have hs := hp.stmz hi.1 hi.2.1
     split
     ·rename_i hk
      simp only
      obtain ⟨y0, y1⟩ := hs.y (by omega) (by omega)
      have hv := h.cs.vars
      have hV := h.cs.vals _ (giz_mem (l := m.cells) y0 (by omega))
      unfold callF
      split
      ·rename_i hg
       obtain ⟨v0, v1⟩ := hV.2.2.2.2 hg.1
       split
       ·exact ⟨h.halt' (x := 4) (by omega) (by omega), h.cs.up, [], by simp⟩
       ·rename_i h20
        have hpar := fun a ha => hp.ok.param (giz_mem (l := p.funs) v0 v1) (a := a) ha
        have hpa := pass_ok h.cs hpar hs.args hg.2 _ (Nat.le_refl _)
        have hed : EdOk p ⟨i, (gi m.cells (ix p (gi p.l i).y)).v⟩ := ⟨⟨hi.1, hi.2.1⟩, hk, ⟨v0, v1⟩, hg.2.symm⟩
        have h1 := (((h.push (b := (gi m.cells (ix p (gi p.l i).y)).v) (i := i) (by omega) ⟨v0, v1⟩ ⟨hi.1, hi.2.1⟩ hlt').cells' hpa.ok).halt' (x := 0) (by omega) (by omega))
        by_cases hin : 0 ≤ fstAt (fun x => decide (x = ⟨i, (gi m.cells (ix p (gi p.l i).y)).v⟩)) m.edges
        ·rw [if_pos hin]
         exact ⟨h1, hpa, [], by simp⟩
        ·rw [if_neg hin]
         exact ⟨h1.edge hed (fstAt_memE (Int.not_le.1 hin)), hpa, [_], rfl⟩
      ·exact ⟨h.halt' (x := 3) (by omega) (by omega), h.cs.up, [], by simp⟩
     ·rename_i hk
      simp only
      obtain ⟨d1, d2, d3⟩ := done_ok h.cs hs hk
      split
      ·exact ⟨((h.move (by omega) (by omega)).cells' d1.ok).halt' d2 d3, d1, [], by simp⟩
      ·exact ⟨(h.cells' d1.ok).halt' d2 d3, d1, [], by simp⟩
end Go.AM

namespace Go.AM
open Go.Proofs
set_option maxRecDepth 100000
set_option linter.unusedVariables false
set_option linter.unusedSimpArgs false
theorem clone32 (cs : List Cl) (h0 : cs ≠ []) (hA : cs.length ≤ 100000) : PFA Tryz.prog 21 [.rows false 3 (cs.map Cl.cs)] cs.length 3 false (cs.map Cl.cs).flatten := by
 have hm1 : cs.length ≤ maxA := by unfold maxA; omega
 refine ⟨by simp, flat_RL (by simp) _, FTk hm Tryz.func21 c21_ok (Nat.le_of_ble_eq_true rfl) ?_⟩
 simp (maxSteps := 3000000) [-List.length_flatten,-List.map_drop,-List.map_take,Function.comp_def,argsT,Opd.ev,Tm.get,put,ares,mapMo,ares1,snilP,bldParts,bslParts,putAt,AV.cells,AV.one,astore,aload,loadCs,callArgs,abin,abinInt,aapp,elems,appMore,appNone,preLen,aFa,aFld,apart,aExt,aPick,aNot,aLens,aEqa,cellsK,fitsA,LK.fitsA,leavesA,leafA,nilD,aNilc,aCint,aCid,alive,alen,alenOk,Rle,lePs,len_flat, c21, h0, hm1]
theorem clone33 (cs : List Ps) (h0 : cs ≠ []) (hA : cs.length ≤ 100000) : PFA Tryz.prog 22 [.rows false 3 (cs.map Ps.cs)] cs.length 3 false (cs.map Ps.cs).flatten := by
 have hm1 : cs.length ≤ maxA := by unfold maxA; omega
 refine ⟨by simp, flat_RL (by simp) _, FTk hm Tryz.func22 c22_ok (Nat.le_of_ble_eq_true rfl) ?_⟩
 simp (maxSteps := 3000000) [-List.length_flatten,-List.map_drop,-List.map_take,Function.comp_def,argsT,Opd.ev,Tm.get,put,ares,mapMo,ares1,snilP,bldParts,bslParts,putAt,AV.cells,AV.one,astore,aload,loadCs,callArgs,abin,abinInt,aapp,elems,appMore,appNone,preLen,aFa,aFld,apart,aExt,aPick,aNot,aLens,aEqa,cellsK,fitsA,LK.fitsA,leavesA,leafA,nilD,aNilc,aCint,aCid,alive,alen,alenOk,Rle,lePs,len_flat, c22, h0, hm1]
theorem drop0_at (st : List Ps) (k : Nat) (h : k < st.length) : (st.map Ps.cs).flatten.drop (k * 3) = i64 (gi st k).body :: i64 (gi st k).at' :: i64 (gi st k).call :: ((st.drop (k + 1)).map Ps.cs).flatten := by
 rw [drop_flat (sz := 3) (by simp), List.drop_eq_getElem_cons h]
 have : gi st (k : Int) = st[k] := by simp [gi, List.getD, h]
 rw [this]
 simp only [List.map_cons, List.flatten_cons, List.cons_append, List.nil_append]
theorem chunk_take {α : Type} {f : α → List AV} {sz : Nat} (h : ∀ x, (f x).length = sz) : ∀ (n : Nat) (l : List α), n ≤ l.length → chunk sz (l.map f).flatten n = (l.take n).map f
 | 0, l, _ => by simp [chunk]
 | n + 1, x :: l, hn => by
  simp only [List.map_cons, List.flatten_cons, chunk, List.take_succ_cons]
  rw [List.take_left' (h x), List.drop_left' (h x), chunk_take h n l (by simpa using hn)]
 | n + 1, [], hn => by simp at hn
theorem at_get (st : List Ps) (k : Nat) (h : k < st.length) : (st.map Ps.cs).flatten[k * 3 + 1]? = some (i64 (gi st k).at') := by
 rw [← List.head?_drop, drop_at st k h]
 rfl
theorem body_get (st : List Ps) (k : Nat) (h : k < st.length) : (st.map Ps.cs).flatten[k * 3]? = some (i64 (gi st k).body) := by
 rw [← List.head?_drop, drop0_at st k h]
 rfl
abbrev mB1 (mc : List Cl) (ms : List Ps) (me : List Ed) : ABlk := .cells 0 [.loc 3 1 0 mc.length 3 false, .loc 4 1 0 ms.length 3 false, pairs me, i64 0]
abbrev mB2 : ABlk := .cells 0 [.nilS, .nilS, .nilS, i64 0]
theorem do_PF' {p : Pg} (hp : Of p) {mc : List Cl} {ms : List Ps} {me : List Ed} (h : MOk p ⟨mc, ms, me, 0⟩) (hne : mc ≠ []) {c : Int} (hc0 : ¬ c < 0) (hc2 : ¬ 2 < c) : PF Tryz.prog 8 [.agg p.cs, .agg (⟨mc, ms, me, 0⟩ : Mc).cs, i64 c] (.agg (doF p ⟨mc, ms, me, 0⟩ c).cs) := by
 refine PFk 9 hm Tryz.func8 c8_ok (Nat.le_of_ble_eq_true rfl) (by simp) (by simp) ?_
 have ho : 1 ≤ ms.length := h.one
 have hf : ms.length ≤ 20 := h.few
 have hcf : mc.length ≤ 200 := h.cs.few
 have hst : ms ≠ [] := fun e => by rw [e] at ho; simp at ho
 have hkl : ms.length - 1 < ms.length := by omega
 have hpos : 0 ≤ (gi ms (ms.length - 1 : Nat)).at' ∧ (gi ms (ms.length - 1 : Nat)).at' ≤ (bodyOf p (gi ms (ms.length - 1 : Nat)).body).length ∧ _ := h.pos (ms.length - 1) hkl
 have g0 := body_get ms (ms.length - 1) hkl
 have g1 := at_get ms (ms.length - 1) hkl
 have l0 : 1 ≤ ms.length * 3 - (ms.length - 1) * 3 := by omega
 have l1 : 1 ≤ ms.length * 3 - ((ms.length - 1) * 3 + 1) := by omega
 have l2 : (ms.length - 1) * 3 + 1 + 1 ≤ ms.length * 3 := by omega
 have mv : ∀ v : Int, (List.map Ps.cs ms).flatten.set ((ms.length - 1) * 3 + 1) (AV.int IntKind.i64 v) = ((moveF ms (ms.length - 1) v).map Ps.cs).flatten := fun v => set_at v ms (ms.length - 1) hkl
 have hbl := body_len p (gi ms (ms.length - 1 : Nat)).body
 have hbA : (bodyOf p (gi ms (ms.length - 1 : Nat)).body).length ≤ maxA := by have := hp.l; unfold maxA; omega
 have cm : ∀ v, chunk 3 ((moveF ms (ms.length - 1) v).map Ps.cs).flatten ms.length = (moveF ms (ms.length - 1) v).map Ps.cs := fun v => by
  have := chunk_flat (sz := 3) (f := Ps.cs) (l := moveF ms (ms.length - 1) v) (by simp)
  rwa [moveF_len] at this
 simp (maxSteps := 3000000) [-List.length_flatten,-List.map_drop,-List.map_take,Function.comp_def,argsT,Opd.ev,Tm.get,put,ares,mapMo,ares1,snilP,bldParts,bslParts,putAt,AV.cells,AV.one,astore,aload,loadCs,callArgs,abin,abinInt,aapp,elems,appMore,appNone,preLen,aFa,aFld,apart,aExt,aPick,aNot,aLens,aEqa,cellsK,fitsA,LK.fitsA,leavesA,leafA,nilD,aNilc,aCint,aCid,alive,alen,alenOk,Rle,lePs,len_flat, c8, hc0, hc2]
 refine run_markT _ _ Wk.resv2 ?_
 simp (maxSteps := 3000000) [-List.length_flatten,-List.map_drop,-List.map_take,Function.comp_def,argsT,Opd.ev,Tm.get,put,ares,mapMo,ares1,snilP,bldParts,bslParts,putAt,AV.cells,AV.one,astore,aload,loadCs,callArgs,abin,abinInt,aapp,elems,appMore,appNone,preLen,aFa,aFld,apart,aExt,aPick,aNot,aLens,aEqa,cellsK,fitsA,LK.fitsA,leavesA,leafA,nilD,aNilc,aCint,aCid,alive,alen,alenOk,Rle,lePs,len_flat]
 refine .inr ⟨_, _, .inl ⟨_, clone32 mc hne (by omega), ?_⟩⟩
 simp (maxSteps := 3000000) [-List.length_flatten,-List.map_drop,-List.map_take,Function.comp_def,argsT,Opd.ev,Tm.get,put,ares,mapMo,ares1,snilP,bldParts,bslParts,putAt,AV.cells,AV.one,astore,aload,loadCs,callArgs,abin,abinInt,aapp,elems,appMore,appNone,preLen,aFa,aFld,apart,aExt,aPick,aNot,aLens,aEqa,cellsK,fitsA,LK.fitsA,leavesA,leafA,nilD,aNilc,aCint,aCid,alive,alen,alenOk,Rle,lePs,len_flat, Kc]
 refine .inr ⟨_, _, .inl ⟨_, clone33 ms hst (by omega), ?_⟩⟩
 simp (maxSteps := 3000000) [-List.length_flatten,-List.map_drop,-List.map_take,Function.comp_def,argsT,Opd.ev,Tm.get,put,ares,mapMo,ares1,snilP,bldParts,bslParts,putAt,AV.cells,AV.one,astore,aload,loadCs,callArgs,abin,abinInt,aapp,elems,appMore,appNone,preLen,aFa,aFld,apart,aExt,aPick,aNot,aLens,aEqa,cellsK,fitsA,LK.fitsA,leavesA,leafA,nilD,aNilc,aCint,aCid,alive,alen,alenOk,Rle,lePs,len_flat, Kc, indB, aliveRd, refA]
 refine ⟨_, vars27_PF p hp.fits, ?_⟩
 simp (maxSteps := 3000000) [-List.length_flatten,-List.map_drop,-List.map_take,Function.comp_def,argsT,Opd.ev,Tm.get,put,ares,mapMo,ares1,snilP,bldParts,bslParts,putAt,AV.cells,AV.one,astore,aload,loadCs,callArgs,abin,abinInt,aapp,elems,appMore,appNone,preLen,aFa,aFld,apart,aExt,aPick,aNot,aLens,aEqa,cellsK,fitsA,LK.fitsA,leavesA,leafA,nilD,aNilc,aCint,aCid,alive,alen,alenOk,Rle,lePs,len_flat, Kc]
 refine run_markT _ _ (Wk.leH 9 5 (cs' := wk 1 1 mc.length ms.length (pairs me) 0 p 0 ⟨0, 0, ⟨#[]⟩, ⟨#[]⟩, [], 0⟩) rfl (by simp [lePs, -List.length_flatten, -List.map_drop, -List.map_take, Function.comp_def, len_flat])) ?_
 simp (maxSteps := 3000000) [-List.length_flatten,-List.map_drop,-List.map_take,Function.comp_def,argsT,Opd.ev,Tm.get,put,ares,mapMo,ares1,snilP,bldParts,bslParts,putAt,AV.cells,AV.one,astore,aload,loadCs,callArgs,abin,abinInt,aapp,elems,appMore,appNone,preLen,aFa,aFld,apart,aExt,aPick,aNot,aLens,aEqa,cellsK,fitsA,LK.fitsA,leavesA,leafA,nilD,aNilc,aCint,aCid,alive,alen,alenOk,Rle,lePs,len_flat]
 refine (top_FT (ns := ms.length) (p := p) (eV := pairs me) (h := 0) (at' := 0) (s := ⟨0, 0, ⟨#[]⟩, ⟨#[]⟩, [], 0⟩) (gc := 1) (nc := mc.length) rfl rfl ho (by omega)).mono ?_
 rintro _ _ ⟨rfl, rfl⟩
 simp (maxSteps := 3000000) [-List.length_flatten,-List.map_drop,-List.map_take,Function.comp_def,argsT,Opd.ev,Tm.get,put,ares,mapMo,ares1,snilP,bldParts,bslParts,putAt,AV.cells,AV.one,astore,aload,loadCs,callArgs,abin,abinInt,aapp,elems,appMore,appNone,preLen,aFa,aFld,apart,aExt,aPick,aNot,aLens,aEqa,cellsK,fitsA,LK.fitsA,leavesA,leafA,nilD,aNilc,aCint,aCid,alive,alen,alenOk,Rle,lePs,len_flat, Kc, g0, l0]
 refine ⟨_, body_PF p _ (by have := hp.l; omega), ?_⟩
 by_cases hc : c = 2
 ·rw [show doF p ⟨mc, ms, me, 0⟩ c = ⟨mc, moveF ms (ms.length - 1) 0, me, 0⟩ by unfold doF; rw [if_neg (by simp only; omega), if_pos hc]]
  simp (maxSteps := 3000000) [-List.length_flatten,-List.map_drop,-List.map_take,Function.comp_def,argsT,Opd.ev,Tm.get,put,ares,mapMo,ares1,snilP,bldParts,bslParts,putAt,AV.cells,AV.one,astore,aload,loadCs,callArgs,abin,abinInt,aapp,elems,appMore,appNone,preLen,aFa,aFld,apart,aExt,aPick,aNot,aLens,aEqa,cellsK,fitsA,LK.fitsA,leavesA,leafA,nilD,aNilc,aCint,aCid,alive,alen,alenOk,Rle,lePs,len_flat, Kc, hc, l2, mv, cm]
 ·by_cases hend : ((bodyOf p (gi ms (ms.length - 1 : Nat)).body).length : Int) ≤ (gi ms (ms.length - 1 : Nat)).at'
  ·by_cases hneg : (gi ms (ms.length - 1 : Nat)).body < 0
   ·rw [show doF p ⟨mc, ms, me, 0⟩ c = ⟨mc, ms, me, 1⟩ by unfold doF; rw [if_neg (by simp only; omega), if_neg hc, if_pos hend, if_pos hneg]]
    simp (maxSteps := 3000000) [-List.length_flatten,-List.map_drop,-List.map_take,Function.comp_def,argsT,Opd.ev,Tm.get,put,ares,mapMo,ares1,snilP,bldParts,bslParts,putAt,AV.cells,AV.one,astore,aload,loadCs,callArgs,abin,abinInt,aapp,elems,appMore,appNone,preLen,aFa,aFld,apart,aExt,aPick,aNot,aLens,aEqa,cellsK,fitsA,LK.fitsA,leavesA,leafA,nilD,aNilc,aCint,aCid,alive,alen,alenOk,Rle,lePs,len_flat, Kc, hc, l1, g1, hbA, hend]
    refine (ends_FT (b0 := .cells 0 p.cs) (b1 := mB1 mc ms me) (b2 := mB2) (by simp [RLB]) (by simp [RLB]) (by simp [RLB]) (pairs_RL _ _) ho (by omega) hneg).mono ?_
    rintro _ _ ⟨rfl, rfl⟩
    simp (maxSteps := 3000000) [-List.length_flatten,-List.map_drop,-List.map_take,Function.comp_def,argsT,Opd.ev,Tm.get,put,ares,mapMo,ares1,snilP,bldParts,bslParts,putAt,AV.cells,AV.one,astore,aload,loadCs,callArgs,abin,abinInt,aapp,elems,appMore,appNone,preLen,aFa,aFld,apart,aExt,aPick,aNot,aLens,aEqa,cellsK,fitsA,LK.fitsA,leavesA,leafA,nilD,aNilc,aCint,aCid,alive,alen,alenOk,Rle,lePs,len_flat, Kc]
   ·obtain ⟨b1, b2, b3, b4⟩ := hp.body h (k := ms.length - 1) hkl (by simp only; omega)
    simp only at b1 b2 b3
    have hcl := hp.stmz b2 b3
    have hre := hp.ok.ret (giz_mem (l := p.funs) (i := (gi ms (ms.length - 1 : Nat)).body) (by omega) b1)
    have hv : (varsOf p).length ≤ mc.length := h.cs.vars
    have hpp := h.pos (ms.length - 2) (by simp only; omega)
    simp only at hpp
    have hb2 := body_len p (gi ms (ms.length - 2 : Nat)).body
    have hl30 := hp.l
    rw [show doF p ⟨mc, ms, me, 0⟩ c = ⟨holdF mc (ix p (gi p.l (gi ms (ms.length - 1 : Nat)).call).x) (gi mc (ix p (gi p.funs (gi ms (ms.length - 1 : Nat)).body).ret)), (moveF ms (ms.length - 2) ((gi ms (ms.length - 2 : Nat)).at' + 1)).take (ms.length - 1), me, 0⟩ by unfold doF; rw [if_neg (by simp only; omega), if_neg hc, if_pos hend, if_neg hneg]]
    have cmt := chunk_take (f := Ps.cs) (sz := 3) (by simp) (ms.length - 1) (moveF ms (ms.length - 2) ((gi ms (ms.length - 2 : Nat)).at' + 1)) (by rw [moveF_len]; omega)
    have l9 : (ms.length - 1) * 3 ≤ ms.length * 3 := by omega
    simp (maxSteps := 3000000) [-List.length_flatten,-List.map_drop,-List.map_take,Function.comp_def,argsT,Opd.ev,Tm.get,put,ares,mapMo,ares1,snilP,bldParts,bslParts,putAt,AV.cells,AV.one,astore,aload,loadCs,callArgs,abin,abinInt,aapp,elems,appMore,appNone,preLen,aFa,aFld,apart,aExt,aPick,aNot,aLens,aEqa,cellsK,fitsA,LK.fitsA,leavesA,leafA,nilD,aNilc,aCint,aCid,alive,alen,alenOk,Rle,lePs,len_flat, Kc, hc, l1, g1, hbA, hend]
    refine (pops_FT (b0 := .cells 0 p.cs) (b1 := mB1 mc ms me) (b2 := mB2) (by simp [RLB]) (by simp [RLB]) (by simp [RLB]) (pairs_RL _ _) (by omega) (by omega) _ rfl (by omega) b1 b2 b3 hcl.x.1 (by have := hcl.x.2; omega) hre.1 (by omega) ⟨hpp.1, by omega⟩).mono ?_
    rintro _ _ ⟨rfl, rfl⟩
    simp (maxSteps := 3000000) [-List.length_flatten,-List.map_drop,-List.map_take,Function.comp_def,argsT,Opd.ev,Tm.get,put,ares,mapMo,ares1,snilP,bldParts,bslParts,putAt,AV.cells,AV.one,astore,aload,loadCs,callArgs,abin,abinInt,aapp,elems,appMore,appNone,preLen,aFa,aFld,apart,aExt,aPick,aNot,aLens,aEqa,cellsK,fitsA,LK.fitsA,leavesA,leafA,nilD,aNilc,aCint,aCid,alive,alen,alenOk,Rle,lePs,len_flat, Kc, moveF_len, cmt, l9]
  ·by_cases hc1 : c = 1
   ·rw [show doF p ⟨mc, ms, me, 0⟩ c = ⟨mc, moveF ms (ms.length - 1) ((gi ms (ms.length - 1 : Nat)).at' + 1), me, 0⟩ by unfold doF; rw [if_neg (by simp only; omega), if_neg hc, if_neg hend, if_pos hc1]]
    have w3 : IntKind.i64.wrap ((gi ms (ms.length - 1 : Nat)).at' + 1) = (gi ms (ms.length - 1 : Nat)).at' + 1 := by have := hp.l; rw [w64 (by omega) (by omega)]
    simp (maxSteps := 3000000) [-List.length_flatten,-List.map_drop,-List.map_take,Function.comp_def,argsT,Opd.ev,Tm.get,put,ares,mapMo,ares1,snilP,bldParts,bslParts,putAt,AV.cells,AV.one,astore,aload,loadCs,callArgs,abin,abinInt,aapp,elems,appMore,appNone,preLen,aFa,aFld,apart,aExt,aPick,aNot,aLens,aEqa,cellsK,fitsA,LK.fitsA,leavesA,leafA,nilD,aNilc,aCint,aCid,alive,alen,alenOk,Rle,lePs,len_flat, Kc, hc, hc1, l1, l2, g1, hbA, hend, w3, mv, cm, moveF_len]
   ·have hlt : (gi ms (ms.length - 1 : Nat)).at' < (bodyOf p (gi ms (ms.length - 1 : Nat)).body).length := by omega
    have hi := body_mem (giz_mem hpos.1 hlt)
    have hp0 := hpos.1
    have hdo : ∀ r : Mc, (if (gi p.l (gi (bodyOf p (gi ms (ms.length - 1 : Nat)).body) (gi ms (ms.length - 1 : Nat)).at')).kind = 7 then
      (⟨(callF p mc ms me (gi (bodyOf p (gi ms (ms.length - 1 : Nat)).body) (gi ms (ms.length - 1 : Nat)).at') (gi p.l (gi (bodyOf p (gi ms (ms.length - 1 : Nat)).body) (gi ms (ms.length - 1 : Nat)).at'))).1, (callF p mc ms me (gi (bodyOf p (gi ms (ms.length - 1 : Nat)).body) (gi ms (ms.length - 1 : Nat)).at') (gi p.l (gi (bodyOf p (gi ms (ms.length - 1 : Nat)).body) (gi ms (ms.length - 1 : Nat)).at'))).2.1, (callF p mc ms me (gi (bodyOf p (gi ms (ms.length - 1 : Nat)).body) (gi ms (ms.length - 1 : Nat)).at') (gi p.l (gi (bodyOf p (gi ms (ms.length - 1 : Nat)).body) (gi ms (ms.length - 1 : Nat)).at'))).2.2.1, (callF p mc ms me (gi (bodyOf p (gi ms (ms.length - 1 : Nat)).body) (gi ms (ms.length - 1 : Nat)).at') (gi p.l (gi (bodyOf p (gi ms (ms.length - 1 : Nat)).body) (gi ms (ms.length - 1 : Nat)).at'))).2.2.2⟩ : Mc)
     else ⟨(doneF p mc (gi p.l (gi (bodyOf p (gi ms (ms.length - 1 : Nat)).body) (gi ms (ms.length - 1 : Nat)).at'))).1, if (doneF p mc (gi p.l (gi (bodyOf p (gi ms (ms.length - 1 : Nat)).body) (gi ms (ms.length - 1 : Nat)).at'))).2 = 0 then moveF ms (ms.length - 1) ((gi ms (ms.length - 1 : Nat)).at' + 1) else ms, me, (doneF p mc (gi p.l (gi (bodyOf p (gi ms (ms.length - 1 : Nat)).body) (gi ms (ms.length - 1 : Nat)).at'))).2⟩) = r → doF p ⟨mc, ms, me, 0⟩ c = r := fun r hr => by
     unfold doF
     rw [if_neg (by simp only; omega), if_neg hc, if_neg hend, if_neg hc1]
     exact hr
    simp (maxSteps := 3000000) [-List.length_flatten,-List.map_drop,-List.map_take,Function.comp_def,argsT,Opd.ev,Tm.get,put,ares,mapMo,ares1,snilP,bldParts,bslParts,putAt,AV.cells,AV.one,astore,aload,loadCs,callArgs,abin,abinInt,aapp,elems,appMore,appNone,preLen,aFa,aFld,apart,aExt,aPick,aNot,aLens,aEqa,cellsK,fitsA,LK.fitsA,leavesA,leafA,nilD,aNilc,aCint,aCid,alive,alen,alenOk,Rle,lePs,len_flat, Kc, hc, hc1, l1, g1, hbA, hend, hp0, hlt]
    generalize gi (bodyOf p (gi ms (ms.length - 1 : Nat)).body) (gi ms (ms.length - 1 : Nat)).at' = i at *
    have hs := hp.stmz hi.1 hi.2.1
    by_cases hk : (gi p.l i).kind = 7
    ·have hd := hdo _ (if_pos hk)
     rw [hd]
     have hdu := do_up hp h c
     rw [hd] at hdu
     have hes := h.esLen hp.neat
     refine (step7_FT (b0 := .cells 0 p.cs) (b1 := mB1 mc ms me) (b2 := mB2) i _ (by simp [RLB]) (by simp [RLB]) (by simp [RLB]) h.cs hp.neat hi.1 hi.2.1 hs hk (by omega) (by simp only at hes; omega) (fun f hf a ha => hp.ok.param hf ha)).mono ?_
     rintro _ _ ⟨rfl, gs', rfl⟩
     generalize callF p mc ms me i (gi p.l i) = r at *
     simp (maxSteps := 3000000) [-List.length_flatten,-List.map_drop,-List.map_take,Function.comp_def,argsT,Opd.ev,Tm.get,put,ares,mapMo,ares1,snilP,bldParts,bslParts,putAt,AV.cells,AV.one,astore,aload,loadCs,callArgs,abin,abinInt,aapp,elems,appMore,appNone,preLen,aFa,aFld,apart,aExt,aPick,aNot,aLens,aEqa,cellsK,fitsA,LK.fitsA,leavesA,leafA,nilD,aNilc,aCint,aCid,alive,alen,alenOk,Rle,lePs,len_flat, Kc]
    ·have hd := hdo _ (if_neg hk)
     rw [hd]
     refine (step1_FT (b0 := .cells 0 p.cs) (b1 := mB1 mc ms me) (b2 := mB2) i _ (by simp [RLB]) (by simp [RLB]) (by simp [RLB]) h.cs hp.neat hi.1 hi.2.1 hs hk ho (by omega) ⟨hpos.1, by have := hp.l; omega⟩).mono ?_
     rintro _ _ ⟨rfl, gc', rfl⟩
     generalize doneF p mc (gi p.l i) = r at *
     by_cases hz : r.2 = 0
     ·simp (maxSteps := 3000000) [-List.length_flatten,-List.map_drop,-List.map_take,Function.comp_def,argsT,Opd.ev,Tm.get,put,ares,mapMo,ares1,snilP,bldParts,bslParts,putAt,AV.cells,AV.one,astore,aload,loadCs,callArgs,abin,abinInt,aapp,elems,appMore,appNone,preLen,aFa,aFld,apart,aExt,aPick,aNot,aLens,aEqa,cellsK,fitsA,LK.fitsA,leavesA,leafA,nilD,aNilc,aCint,aCid,alive,alen,alenOk,Rle,lePs,len_flat, Kc, hz, moveF_len, cm]
     ·simp (maxSteps := 3000000) [-List.length_flatten,-List.map_drop,-List.map_take,Function.comp_def,argsT,Opd.ev,Tm.get,put,ares,mapMo,ares1,snilP,bldParts,bslParts,putAt,AV.cells,AV.one,astore,aload,loadCs,callArgs,abin,abinInt,aapp,elems,appMore,appNone,preLen,aFa,aFld,apart,aExt,aPick,aNot,aLens,aEqa,cellsK,fitsA,LK.fitsA,leavesA,leafA,nilD,aNilc,aCint,aCid,alive,alen,alenOk,Rle,lePs,len_flat, Kc, hz]
theorem do_PF {p : Pg} (hp : Of p) {m : Mc} (h : MOk p m) (hne : m.cells ≠ []) (c : Int) : PF Tryz.prog 8 [.agg p.cs, .agg m.cs, i64 c] (.agg (doF p m c).cs) := by
 by_cases hh : m.halt = 0
 ·by_cases hc0 : c < 0
  ·rw [show doF p m c = m by unfold doF; rw [if_pos (.inr (.inl hc0))]]
   refine PFk 9 hm Tryz.func8 c8_ok (Nat.le_of_ble_eq_true rfl) (by simp) (by simp) ?_
   simp (maxSteps := 3000000) [-List.length_flatten,-List.map_drop,-List.map_take,Function.comp_def,argsT,Opd.ev,Tm.get,put,ares,mapMo,ares1,snilP,bldParts,bslParts,putAt,AV.cells,AV.one,astore,aload,loadCs,callArgs,abin,abinInt,aapp,elems,appMore,appNone,preLen,aFa,aFld,apart,aExt,aPick,aNot,aLens,aEqa,cellsK,fitsA,LK.fitsA,leavesA,leafA,nilD,aNilc,aCint,aCid,alive,alen,alenOk,Rle,lePs,len_flat, c8, hh, hc0]
  ·by_cases hc2 : 2 < c
   ·rw [show doF p m c = m by unfold doF; rw [if_pos (.inr (.inr hc2))]]
    refine PFk 9 hm Tryz.func8 c8_ok (Nat.le_of_ble_eq_true rfl) (by simp) (by simp) ?_
    simp (maxSteps := 3000000) [-List.length_flatten,-List.map_drop,-List.map_take,Function.comp_def,argsT,Opd.ev,Tm.get,put,ares,mapMo,ares1,snilP,bldParts,bslParts,putAt,AV.cells,AV.one,astore,aload,loadCs,callArgs,abin,abinInt,aapp,elems,appMore,appNone,preLen,aFa,aFld,apart,aExt,aPick,aNot,aLens,aEqa,cellsK,fitsA,LK.fitsA,leavesA,leafA,nilD,aNilc,aCint,aCid,alive,alen,alenOk,Rle,lePs,len_flat, c8, hh, hc0, hc2]
   ·obtain ⟨mc, ms, me, mh⟩ := m
    simp only at hh hne
    subst hh
    exact do_PF' hp h hne hc0 hc2
 ·rw [show doF p m c = m by unfold doF; rw [if_pos (.inl hh)]]
  refine PFk 9 hm Tryz.func8 c8_ok (Nat.le_of_ble_eq_true rfl) (by simp) (by simp) ?_
  simp (maxSteps := 3000000) [-List.length_flatten,-List.map_drop,-List.map_take,Function.comp_def,argsT,Opd.ev,Tm.get,put,ares,mapMo,ares1,snilP,bldParts,bslParts,putAt,AV.cells,AV.one,astore,aload,loadCs,callArgs,abin,abinInt,aapp,elems,appMore,appNone,preLen,aFa,aFld,apart,aExt,aPick,aNot,aLens,aEqa,cellsK,fitsA,LK.fitsA,leavesA,leafA,nilD,aNilc,aCint,aCid,alive,alen,alenOk,Rle,lePs,len_flat, c8, hh]
/-- A machine's value: no cells are nil ones. -/
def cellsV (l : List Cl) : AV := if l.isEmpty then .nilS else .rows false 3 (l.map Cl.cs)
abbrev Mc.av (m : Mc) : List AV := [cellsV m.cells, .rows false 3 (m.stack.map Ps.cs), pairs m.edges, i64 m.halt]
theorem cellsV_ne {l : List Cl} (h : l ≠ []) : cellsV l = .rows false 3 (l.map Cl.cs) := by
 cases l with
 | nil => exact absurd rfl h
 | cons a l => rfl
@[simp] theorem cellsV_nil : cellsV [] = .nilS := rfl
theorem av_ne {m : Mc} (h : m.cells ≠ []) : m.av = m.cs := by
 unfold Mc.av Mc.cs
 rw [cellsV_ne h]
theorem no_stm {p : Pg} (hp : Of p) (h : varsOf p = []) : p = ⟨[], []⟩ := by
 obtain ⟨fs, l⟩ := p
 cases l with
 | cons s l =>
  have := (hp.stm (k := 0) (by simp)).x
  rw [h] at this
  simp at this
  omega
 | nil =>
  cases fs with
  | cons f fs =>
   have := hp.ok.ret (f := f) (by simp)
   rw [h] at this
   simp at this
   omega
  | nil => rfl
theorem no_mc {m : Mc} (h : MOk ⟨[], []⟩ m) : m.stack = [⟨-1, 0, -1⟩] ∧ m.edges = [] := by
 constructor
 ·have ho := h.one
  match hs : m.stack with
  | [] => rw [hs] at ho; simp at ho
  | [t] =>
   have hb := h.bot
   have hp := h.pos 0 (by rw [hs]; simp)
   rw [hs] at hb hp
   have e : gi [t] ((0 : Nat) : Int) = t := rfl
   rw [e] at hb hp
   have hbl := body_len ⟨[], []⟩ t.body
   simp only [List.length_nil] at hbl
   obtain ⟨b, a, c⟩ := t
   simp only at hb hp hbl
   have : a = 0 := by omega
   rw [hb.1, hb.2, this]
  | t :: u :: r =>
   have := h.up 1 (by omega) (by rw [hs]; simp)
   simp at this
   omega
 ·match he : m.edges with
  | [] => rfl
  | e :: r =>
   have := (h.es e (by rw [he]; simp)).a
   simp at this
   omega
theorem do0 : PF Tryz.prog 8 [.agg (⟨[], []⟩ : Pg).cs, .agg [.nilS, .rows false 3 [[i64 (-1), i64 0, i64 (-1)]], pairs [], i64 0], i64 0] (.agg [.nilS, .rows false 3 [[i64 (-1), i64 0, i64 (-1)]], pairs [], i64 1]) := PF_eval hm envOk pss 60 30 rfl (by kernel_rfl)
theorem do1 : PF Tryz.prog 8 [.agg (⟨[], []⟩ : Pg).cs, .agg [.nilS, .rows false 3 [[i64 (-1), i64 0, i64 (-1)]], pairs [], i64 0], i64 1] (.agg [.nilS, .rows false 3 [[i64 (-1), i64 0, i64 (-1)]], pairs [], i64 1]) := PF_eval hm envOk pss 60 30 rfl (by kernel_rfl)
theorem do2 : PF Tryz.prog 8 [.agg (⟨[], []⟩ : Pg).cs, .agg [.nilS, .rows false 3 [[i64 (-1), i64 0, i64 (-1)]], pairs [], i64 0], i64 2] (.agg [.nilS, .rows false 3 [[i64 (-1), i64 0, i64 (-1)]], pairs [], i64 0]) := PF_eval hm envOk pss 60 30 rfl (by kernel_rfl)
theorem doV_PF {p : Pg} (hp : Of p) {m : Mc} (h : MOk p m) (c : Int) : PF Tryz.prog 8 [.agg p.cs, .agg m.av, i64 c] (.agg (doF p m c).av) := by
 by_cases hne : m.cells = []
 ·have hv : varsOf p = [] := by
   have := h.cs.vars
   rw [hne] at this
   exact List.eq_nil_of_length_eq_zero (by simpa using this)
  obtain rfl := no_stm hp hv
  obtain ⟨h1, h2⟩ := no_mc h
  obtain ⟨mc, ms, me, mh⟩ := m
  simp only at hne h1 h2
  subst hne h1 h2
  by_cases hh : mh = 0
  ·subst hh
   by_cases hc0 : c < 0
   ·rw [show doF ⟨[], []⟩ ⟨[], [⟨-1, 0, -1⟩], [], 0⟩ c = ⟨[], [⟨-1, 0, -1⟩], [], 0⟩ by unfold doF; rw [if_pos (.inr (.inl hc0))]]
    refine PFk 9 hm Tryz.func8 c8_ok (Nat.le_of_ble_eq_true rfl) (by simp) (by simp) ?_
    simp (maxSteps := 3000000) [-List.length_flatten,-List.map_drop,-List.map_take,Function.comp_def,argsT,Opd.ev,Tm.get,put,ares,mapMo,ares1,snilP,bldParts,bslParts,putAt,AV.cells,AV.one,astore,aload,loadCs,callArgs,abin,abinInt,aapp,elems,appMore,appNone,preLen,aFa,aFld,apart,aExt,aPick,aNot,aLens,aEqa,cellsK,fitsA,LK.fitsA,leavesA,leafA,nilD,aNilc,aCint,aCid,alive,alen,alenOk,Rle,lePs,len_flat, c8, hc0]
   ·by_cases hc2 : 2 < c
    ·rw [show doF ⟨[], []⟩ ⟨[], [⟨-1, 0, -1⟩], [], 0⟩ c = ⟨[], [⟨-1, 0, -1⟩], [], 0⟩ by unfold doF; rw [if_pos (.inr (.inr hc2))]]
     refine PFk 9 hm Tryz.func8 c8_ok (Nat.le_of_ble_eq_true rfl) (by simp) (by simp) ?_
     simp (maxSteps := 3000000) [-List.length_flatten,-List.map_drop,-List.map_take,Function.comp_def,argsT,Opd.ev,Tm.get,put,ares,mapMo,ares1,snilP,bldParts,bslParts,putAt,AV.cells,AV.one,astore,aload,loadCs,callArgs,abin,abinInt,aapp,elems,appMore,appNone,preLen,aFa,aFld,apart,aExt,aPick,aNot,aLens,aEqa,cellsK,fitsA,LK.fitsA,leavesA,leafA,nilD,aNilc,aCint,aCid,alive,alen,alenOk,Rle,lePs,len_flat, c8, hc0, hc2]
    ·have hc : c = 0 ∨ c = 1 ∨ c = 2 := by omega
     rcases hc with rfl | rfl | rfl
     ·exact do0
     ·exact do1
     ·exact do2
  ·rw [show doF ⟨[], []⟩ ⟨[], [⟨-1, 0, -1⟩], [], mh⟩ c = ⟨[], [⟨-1, 0, -1⟩], [], mh⟩ by unfold doF; rw [if_pos (.inl hh)]]
   refine PFk 9 hm Tryz.func8 c8_ok (Nat.le_of_ble_eq_true rfl) (by simp) (by simp) ?_
   simp (maxSteps := 3000000) [-List.length_flatten,-List.map_drop,-List.map_take,Function.comp_def,argsT,Opd.ev,Tm.get,put,ares,mapMo,ares1,snilP,bldParts,bslParts,putAt,AV.cells,AV.one,astore,aload,loadCs,callArgs,abin,abinInt,aapp,elems,appMore,appNone,preLen,aFa,aFld,apart,aExt,aPick,aNot,aLens,aEqa,cellsK,fitsA,LK.fitsA,leavesA,leafA,nilD,aNilc,aCint,aCid,alive,alen,alenOk,Rle,lePs,len_flat, c8, hh]
 ·have hu := (do_up hp h c).cs.len
  have hne' : (doF p m c).cells ≠ [] := fun e => by
   rw [e] at hu
   exact hne (List.eq_nil_of_length_eq_zero (by simpa using hu))
  rw [av_ne hne, av_ne hne']
  exact do_PF hp h hne c
end Go.AM

namespace Go.AM
open Go.Proofs
set_option maxRecDepth 100000
set_option linter.unusedVariables false
set_option linter.unusedSimpArgs false
@[simp] theorem frz_cellsV {k : Bool} {H : AHeap} {n : Nat} {l : List Cl} : frz k H (n + 2) (cellsV l) = cellsV l := by
 cases l <;> simp [cellsV]
@[simp] theorem RL_cellsV {n : Nat} {l : List Cl} : RL n (cellsV l) := by
 cases l <;> simp [cellsV]
@[simp] theorem one_cellsV {l : List Cl} : AV.cells (cellsV l) = some [cellsV l] := by
 cases l <;> simp [cellsV, AV.cells]
@[simp] theorem one_cellsV' {l : List Cl} : AV.one (cellsV l) = true := by
 cases l <;> simp [cellsV, AV.one]
def newC (n : Nat) : List Cl := (List.range n).map fun i : Nat => ⟨(i : Int), 0, 0⟩
def newF (p : Pg) : Mc := ⟨newC (varsOf p).length, [⟨-1, 0, -1⟩], [], 0⟩
theorem newC_next (n : Nat) : newC (n + 1) = newC n ++ [⟨n, 0, 0⟩] := by simp [newC, List.range_succ]
theorem newC_len (n : Nat) : (newC n).length = n := by simp [newC]
theorem new_PF {p : Pg} (hp : Of p) : PF Tryz.prog 6 [.agg p.cs] (.agg (newF p).av) := by
 refine PFk 9 hm Tryz.func6 c6_ok (Nat.le_of_ble_eq_true rfl) (by simp) (by simp) ?_
 have hl := hp.neat.locs
 have hA : (varsOf p).length ≤ maxA := by unfold maxA; omega
 simp (maxSteps := 3000000) [-List.length_flatten,-List.map_drop,-List.map_take,Function.comp_def,argsT,Opd.ev,Tm.get,put,ares,mapMo,ares1,snilP,bldParts,bslParts,putAt,AV.cells,AV.one,astore,aload,loadCs,callArgs,abin,abinInt,aapp,elems,appMore,appNone,preLen,aFa,aFld,apart,aExt,aPick,aNot,aLens,aEqa,cellsK,fitsA,LK.fitsA,leavesA,leafA,nilD,aNilc,aCint,aCid,alive,alen,alenOk,Rle,lePs,len_flat, c6]
 refine PF.call (vars27_PF p hp.fits) 9 (by simp [lePs, -List.length_flatten, -List.map_drop, -List.map_take, Function.comp_def, len_flat]) ?_
 obtain ⟨n, hn⟩ : ∃ n, n = (varsOf p).length := ⟨_, rfl⟩
 unfold newF
 rw [← hn]
 by_cases h0 : n = 0
 ·have hz : varsOf p = [] := List.eq_nil_of_length_eq_zero (by omega)
  rw [h0, hz]
  simp (maxSteps := 3000000) [-List.length_flatten,-List.map_drop,-List.map_take,Function.comp_def,argsT,Opd.ev,Tm.get,put,ares,mapMo,ares1,snilP,bldParts,bslParts,putAt,AV.cells,AV.one,astore,aload,loadCs,callArgs,abin,abinInt,aapp,elems,appMore,appNone,preLen,aFa,aFld,apart,aExt,aPick,aNot,aLens,aEqa,cellsK,fitsA,LK.fitsA,leavesA,leafA,nilD,aNilc,aCint,aCid,alive,alen,alenOk,Rle,lePs,len_flat, Kc]
  refine run_loopK (fun m T H => T = [(11, i64 0), (10, i64 0), (3, .ptr 2 0 0), (2, .ptr 1 0 0)] ∧ H = [.cells 0 p.cs, .cells 0 [.nilS, .nilS, .nilS, i64 0], .cells 0 [.nilS, .rows true 3 [[i64 (-1), i64 0, i64 (-1)]], .nilS, i64 0]]) 0
   [(11, i64 0), (10, i64 0), (3, .ptr 2 0 0), (2, .ptr 1 0 0)] _ (Wk.sub (by simp [Tm.get])) ⟨rfl, rfl⟩ ?_
  rintro m T H ⟨rfl, rfl⟩ KK kx kr kn
  simp (maxSteps := 3000000) [-List.length_flatten,-List.map_drop,-List.map_take,Function.comp_def,argsT,Opd.ev,Tm.get,put,ares,mapMo,ares1,snilP,bldParts,bslParts,putAt,AV.cells,AV.one,astore,aload,loadCs,callArgs,abin,abinInt,aapp,elems,appMore,appNone,preLen,aFa,aFld,apart,aExt,aPick,aNot,aLens,aEqa,cellsK,fitsA,LK.fitsA,leavesA,leafA,nilD,aNilc,aCint,aCid,alive,alen,alenOk,Rle,lePs,len_flat, kx, newC]
 ·simp (maxSteps := 3000000) [-List.length_flatten,-List.map_drop,-List.map_take,Function.comp_def,argsT,Opd.ev,Tm.get,put,ares,mapMo,ares1,snilP,bldParts,bslParts,putAt,AV.cells,AV.one,astore,aload,loadCs,callArgs,abin,abinInt,aapp,elems,appMore,appNone,preLen,aFa,aFld,apart,aExt,aPick,aNot,aLens,aEqa,cellsK,fitsA,LK.fitsA,leavesA,leafA,nilD,aNilc,aCint,aCid,alive,alen,alenOk,Rle,lePs,len_flat, Kc, hA]
  refine run_loopK (fun m T H => ∃ i g : Nat, m = n - i ∧ i ≤ n ∧ T = [(11, i64 i), (10, i64 n), (3, .ptr 2 0 0), (2, .ptr 1 0 0)] ∧ H = [.cells 0 p.cs, .cells 0 [.nilS, .nilS, .nilS, i64 0], .cells 0 [.loc 3 g 0 i 3 false, .rows true 3 [[i64 (-1), i64 0, i64 (-1)]], .nilS, i64 0], .cells g ((newC i).map Cl.cs).flatten]) n
   [(11, i64 (0 : Nat)), (10, i64 n), (3, .ptr 2 0 0), (2, .ptr 1 0 0)] [.cells 0 p.cs, .cells 0 [.nilS, .nilS, .nilS, i64 0], .cells 0 [.loc 3 0 0 0 3 false, .rows true 3 [[i64 (-1), i64 0, i64 (-1)]], .nilS, i64 0], .cells 0 []]
   ((Wk.sub (T' := [(11, i64 (0 : Nat)), (10, i64 n), (3, .ptr 2 0 0), (2, .ptr 1 0 0)]) (by simp [Tm.get, hn])).trans (Wk.own.trans (Wk.nilAt (H := [.cells 0 p.cs, .cells 0 [.nilS, .nilS, .nilS, i64 0], .cells 0 [.nilS, .rows true 3 [[i64 (-1), i64 0, i64 (-1)]], .nilS, i64 0], .cells 0 []]) 2 0 3 3 (g := 0) (cs := [.nilS, .rows true 3 [[i64 (-1), i64 0, i64 (-1)]], .nilS, i64 0]) rfl rfl rfl))) ⟨0, 0, rfl, by omega, rfl, rfl⟩ ?_
  rintro m T H ⟨i, g, rfl, hi, rfl, rfl⟩ KK kx kr kn
  have hlen : ((newC i).map Cl.cs).flatten.length = i * 3 := by
   rw [len_flat (sz := 3) (by simp), newC_len]
  by_cases h : i < n
  ·have i1 : i + 1 ≤ maxA := by omega
   have tk : List.take (i * 3) ((newC i).map Cl.cs).flatten ++ [i64 i, i64 0, i64 0] = ((newC (i + 1)).map Cl.cs).flatten := by
    have := app_one (f := Cl.cs) (l := newC i) (sz := 3) (by simp) ⟨i, 0, 0⟩ rfl
    rw [← newC_next, newC_len] at this
    exact this
   simp (maxSteps := 3000000) [-List.length_flatten,-List.map_drop,-List.map_take,Function.comp_def,argsT,Opd.ev,Tm.get,put,ares,mapMo,ares1,snilP,bldParts,bslParts,putAt,AV.cells,AV.one,astore,aload,loadCs,callArgs,abin,abinInt,aapp,elems,appMore,appNone,preLen,aFa,aFld,apart,aExt,aPick,aNot,aLens,aEqa,cellsK,fitsA,LK.fitsA,leavesA,leafA,nilD,aNilc,aCint,aCid,alive,alen,alenOk,Rle,lePs,len_flat, h, i1, hlen, tk]
   intro _ _
   exact kn _ _ (Kl_sub (n - (i + 1)) (T' := [(11, i64 (i + 1 : Nat)), (10, i64 n), (3, .ptr 2 0 0), (2, .ptr 1 0 0)]) ⟨i + 1, g + 1, rfl, by omega, rfl, rfl⟩ (by simp [Tm.get, nxt h (show n ≤ maxA by omega)]) (by omega))
  ·have : i = n := by omega
   subst this
   have hne : newC i ≠ [] := fun e => by
    have := newC_len i
    rw [e] at this
    simp at this
    omega
   have hc := chunk_flat (sz := 3) (f := Cl.cs) (l := newC i) (by simp)
   rw [newC_len] at hc
   simp (maxSteps := 3000000) [-List.length_flatten,-List.map_drop,-List.map_take,Function.comp_def,argsT,Opd.ev,Tm.get,put,ares,mapMo,ares1,snilP,bldParts,bslParts,putAt,AV.cells,AV.one,astore,aload,loadCs,callArgs,abin,abinInt,aapp,elems,appMore,appNone,preLen,aFa,aFld,apart,aExt,aPick,aNot,aLens,aEqa,cellsK,fitsA,LK.fitsA,leavesA,leafA,nilD,aNilc,aCint,aCid,alive,alen,alenOk,Rle,lePs,len_flat, h, kx, cellsV_ne hne, hc, hlen]
theorem new_ok {p : Pg} (hp : Of p) : MOk p (newF p) := by
 have hl := hp.neat.locs
 refine ⟨⟨by simp [newF, newC_len]; omega, by simp [newF, newC_len], fun c hc => ?_, fun i hi => ?_⟩, by simp [newF], by simp [newF], ⟨rfl, rfl⟩, fun k h1 h2 => ?_, fun k h2 => ?_, by simp [newF], by simp [newF], by simp [newF]⟩
 ·simp only [newF, newC, List.mem_map, List.mem_range] at hc
  obtain ⟨j, hj, rfl⟩ := hc
  simp
 ·simp only [newF, newC_len] at hi
  have : gi (newF p).cells (i : Int) = ⟨i, 0, 0⟩ := by simp [newF, newC, gi, List.getD, hi]
  rw [this]
  exact ⟨fun _ => rfl, fun hh => by omega⟩
 ·simp [newF] at h2
  omega
 ·simp [newF] at h2
  subst h2
  refine ⟨by simp [newF, gi], ?_, fun hh => by simp [newF] at hh⟩
  simp [newF, gi]
def runF (p : Pg) (l : List Int) : Mc := l.foldl (doF p) (newF p)
theorem run_ok {p : Pg} (hp : Of p) (l : List Int) : ∀ m, MOk p m → MOk p (l.foldl (doF p) m) := by
 induction l with
 | nil => intro m h; exact h
 | cons c l ih => intro m h; exact ih _ (do_up hp h c).ok
theorem run_PF {p : Pg} (hp : Of p) (l : List Int) (hl : l.length ≤ 1048576) : PF Tryz.prog 15 [.agg p.cs, ints l] (.agg (runF p l).av) := by
 refine PFk 9 hm Tryz.func15 c15_ok (Nat.le_of_ble_eq_true rfl) (by simp) (by simp) ?_
 have hA : l.length ≤ maxA := by unfold maxA; omega
 simp (maxSteps := 3000000) [-List.length_flatten,-List.map_drop,-List.map_take,Function.comp_def,argsT,Opd.ev,Tm.get,put,ares,mapMo,ares1,snilP,bldParts,bslParts,putAt,AV.cells,AV.one,astore,aload,loadCs,callArgs,abin,abinInt,aapp,elems,appMore,appNone,preLen,aFa,aFld,apart,aExt,aPick,aNot,aLens,aEqa,cellsK,fitsA,LK.fitsA,leavesA,leafA,nilD,aNilc,aCint,aCid,alive,alen,alenOk,Rle,lePs,len_flat, c15, hA]
 refine PF.call (new_PF hp) 9 (by simp [lePs, -List.length_flatten, -List.map_drop, -List.map_take, Function.comp_def, len_flat]) ?_
 simp (maxSteps := 3000000) [-List.length_flatten,-List.map_drop,-List.map_take,Function.comp_def,argsT,Opd.ev,Tm.get,put,ares,mapMo,ares1,snilP,bldParts,bslParts,putAt,AV.cells,AV.one,astore,aload,loadCs,callArgs,abin,abinInt,aapp,elems,appMore,appNone,preLen,aFa,aFld,apart,aExt,aPick,aNot,aLens,aEqa,cellsK,fitsA,LK.fitsA,leavesA,leafA,nilD,aNilc,aCint,aCid,alive,alen,alenOk,Rle,lePs,len_flat, Kc, hA]
 obtain ⟨R, hR⟩ : ∃ R, R = runF p l := ⟨_, rfl⟩
 rw [← hR]
 refine ⟨one_cellsV', ?_⟩
 refine run_loopK (fun m T H => ∃ i : Nat, m = l.length - i ∧ i ≤ l.length ∧ T = [(12, i64 i), (11, i64 l.length), (10, ints l), (2, .ptr 0 0 0), (4, .ptr 1 0 0), (5, .ptr 2 0 0)] ∧ H = [.cells 0 p.cs, .cells 0 [.nilS, .nilS, .nilS, i64 0], .cells 0 ((l.take i).foldl (doF p) (newF p)).av]) l.length
  [(12, i64 (0 : Nat)), (11, i64 l.length), (10, ints l), (2, .ptr 0 0 0), (4, .ptr 1 0 0), (5, .ptr 2 0 0)] _ (Wk.sub (by simp [Tm.get])) ⟨0, rfl, by omega, rfl, rfl⟩ ?_
 rintro m T H ⟨i, rfl, hi, rfl, rfl⟩ KK kx kr kn
 by_cases h : i < l.length
 ·have e := foldl_next (f := doF p) (b := newF p) h
  have ho := run_ok hp (l.take i) _ (new_ok hp)
  generalize (l.take i).foldl (doF p) (newF p) = a at *
  simp (maxSteps := 3000000) [-List.length_flatten,-List.map_drop,-List.map_take,Function.comp_def,argsT,Opd.ev,Tm.get,put,ares,mapMo,ares1,snilP,bldParts,bslParts,putAt,AV.cells,AV.one,astore,aload,loadCs,callArgs,abin,abinInt,aapp,elems,appMore,appNone,preLen,aFa,aFld,apart,aExt,aPick,aNot,aLens,aEqa,cellsK,fitsA,LK.fitsA,leavesA,leafA,nilD,aNilc,aCint,aCid,alive,alen,alenOk,Rle,lePs,len_flat, h]
  refine PF.call (doV_PF hp ho (gi l i)) 9 (by simp [lePs]; exact leP_refl _ _) ?_
  simp (maxSteps := 3000000) [-List.length_flatten,-List.map_drop,-List.map_take,Function.comp_def,argsT,Opd.ev,Tm.get,put,ares,mapMo,ares1,snilP,bldParts,bslParts,putAt,AV.cells,AV.one,astore,aload,loadCs,callArgs,abin,abinInt,aapp,elems,appMore,appNone,preLen,aFa,aFld,apart,aExt,aPick,aNot,aLens,aEqa,cellsK,fitsA,LK.fitsA,leavesA,leafA,nilD,aNilc,aCint,aCid,alive,alen,alenOk,Rle,lePs,len_flat, Kc]
  refine ⟨one_cellsV', ?_⟩
  exact kn _ _ (Kl_sub (l.length - (i + 1)) (T' := [(12, i64 (i + 1 : Nat)), (11, i64 l.length), (10, ints l), (2, .ptr 0 0 0), (4, .ptr 1 0 0), (5, .ptr 2 0 0)]) ⟨i + 1, rfl, by omega, rfl, by rw [e]⟩ (by simp [Tm.get, nxt h hA]) (by omega))
 ·have : l.take i = l := List.take_of_length_le (by omega)
  rw [this]
  have hR' : l.foldl (doF p) (newF p) = R := hR.symm
  rw [hR']
  simp (maxSteps := 3000000) [-List.length_flatten,-List.map_drop,-List.map_take,Function.comp_def,argsT,Opd.ev,Tm.get,put,ares,mapMo,ares1,snilP,bldParts,bslParts,putAt,AV.cells,AV.one,astore,aload,loadCs,callArgs,abin,abinInt,aapp,elems,appMore,appNone,preLen,aFa,aFld,apart,aExt,aPick,aNot,aLens,aEqa,cellsK,fitsA,LK.fitsA,leavesA,leafA,nilD,aNilc,aCint,aCid,alive,alen,alenOk,Rle,lePs,len_flat, h, kx]
  exact ⟨one_cellsV', leP_refl _ _⟩
end Go.AM

namespace Go.AM
open Go.Proofs
set_option maxRecDepth 100000
set_option linter.unusedVariables false
set_option linter.unusedSimpArgs false
theorem pairs38_PF (l : List Ed) (hl : l.length ≤ 1000000) : PF Tryz.prog 31 [pairs l, pairs l] (.bool true) := by
 refine PFk 9 hm Tryz.func31 c31_ok (Nat.le_of_ble_eq_true rfl) (by simp) (by simp) ?_
 have hA : l.length ≤ maxA := by unfold maxA; omega
 simp (maxSteps := 3000000) [-List.length_flatten,-List.map_drop,-List.map_take,Function.comp_def,argsT,Opd.ev,Tm.get,put,ares,mapMo,ares1,snilP,bldParts,bslParts,putAt,AV.cells,AV.one,astore,aload,loadCs,callArgs,abin,abinInt,aapp,elems,appMore,appNone,preLen,aFa,aFld,apart,aExt,aPick,aNot,aLens,aEqa,cellsK,fitsA,LK.fitsA,leavesA,leafA,nilD,aNilc,aCint,aCid,alive,alen,alenOk,Rle,lePs,len_flat, c31, hA]
 refine run_countK l.length 5 [(0, pairs l), (1, pairs l)] [] (fun _ => True) (Wk.sub (by simp [Tm.get])) trivial ?_
 intro i hi _ KK kx kr kn
 by_cases h : i < l.length
 ·simp (maxSteps := 3000000) [-List.length_flatten,-List.map_drop,-List.map_take,Function.comp_def,argsT,Opd.ev,Tm.get,put,ares,mapMo,ares1,snilP,bldParts,bslParts,putAt,AV.cells,AV.one,astore,aload,loadCs,callArgs,abin,abinInt,aapp,elems,appMore,appNone,preLen,aFa,aFld,apart,aExt,aPick,aNot,aLens,aEqa,cellsK,fitsA,LK.fitsA,leavesA,leafA,nilD,aNilc,aCint,aCid,alive,alen,alenOk,Rle,lePs,len_flat, h, hA]
  exact kn _ _ (Kn_next 0 (by omega) (by omega) trivial (by simp [Tm.get, nxt h hA]) (by simp) rfl (by simp))
 ·simp (maxSteps := 3000000) [-List.length_flatten,-List.map_drop,-List.map_take,Function.comp_def,argsT,Opd.ev,Tm.get,put,ares,mapMo,ares1,snilP,bldParts,bslParts,putAt,AV.cells,AV.one,astore,aload,loadCs,callArgs,abin,abinInt,aapp,elems,appMore,appNone,preLen,aFa,aFld,apart,aExt,aPick,aNot,aLens,aEqa,cellsK,fitsA,LK.fitsA,leavesA,leafA,nilD,aNilc,aCint,aCid,alive,alen,alenOk,Rle,lePs,len_flat, h, hA, kx]
theorem same17_PF (m : Mc) (h1 : m.cells.length ≤ 1000000) (h2 : m.stack.length ≤ 1000000) (h3 : m.edges.length ≤ 1000000) : PF Tryz.prog 10 [.agg m.cs, .agg m.cs] (.bool true) := by
 refine PFk 9 hm Tryz.func10 c10_ok (Nat.le_of_ble_eq_true rfl) (by simp) (by simp) ?_
 have a1 : m.cells.length ≤ maxA := by unfold maxA; omega
 have a2 : m.stack.length ≤ maxA := by unfold maxA; omega
 have a3 : m.edges.length ≤ maxA := by unfold maxA; omega
 simp (maxSteps := 3000000) [-List.length_flatten,-List.map_drop,-List.map_take,Function.comp_def,argsT,Opd.ev,Tm.get,put,ares,mapMo,ares1,snilP,bldParts,bslParts,putAt,AV.cells,AV.one,astore,aload,loadCs,callArgs,abin,abinInt,aapp,elems,appMore,appNone,preLen,aFa,aFld,apart,aExt,aPick,aNot,aLens,aEqa,cellsK,fitsA,LK.fitsA,leavesA,leafA,nilD,aNilc,aCint,aCid,alive,alen,alenOk,Rle,lePs,len_flat, c10, a1, a2]
 refine run_countK m.cells.length 5 [(2, .ptr 0 0 0), (3, .ptr 1 0 0)] [.cells 0 m.cs, .cells 0 m.cs] (fun _ => True) (Wk.sub (by simp [Tm.get])) trivial ?_
 intro i hi _ KK kx kr kn
 by_cases h : i < m.cells.length
 ·simp (maxSteps := 3000000) [-List.length_flatten,-List.map_drop,-List.map_take,Function.comp_def,argsT,Opd.ev,Tm.get,put,ares,mapMo,ares1,snilP,bldParts,bslParts,putAt,AV.cells,AV.one,astore,aload,loadCs,callArgs,abin,abinInt,aapp,elems,appMore,appNone,preLen,aFa,aFld,apart,aExt,aPick,aNot,aLens,aEqa,cellsK,fitsA,LK.fitsA,leavesA,leafA,nilD,aNilc,aCint,aCid,alive,alen,alenOk,Rle,lePs,len_flat, h, a1]
  exact kn _ _ (Kn_next 2 (by omega) (by omega) trivial (by simp [Tm.get, nxt h a1]) (by simp) rfl (by simp [RLB]))
 ·simp (maxSteps := 3000000) [-List.length_flatten,-List.map_drop,-List.map_take,Function.comp_def,argsT,Opd.ev,Tm.get,put,ares,mapMo,ares1,snilP,bldParts,bslParts,putAt,AV.cells,AV.one,astore,aload,loadCs,callArgs,abin,abinInt,aapp,elems,appMore,appNone,preLen,aFa,aFld,apart,aExt,aPick,aNot,aLens,aEqa,cellsK,fitsA,LK.fitsA,leavesA,leafA,nilD,aNilc,aCint,aCid,alive,alen,alenOk,Rle,lePs,len_flat, h, a1, kx]
  refine run_countK m.stack.length 6 [(2, .ptr 0 0 0), (3, .ptr 1 0 0)] [.cells 0 m.cs, .cells 0 m.cs] (fun _ => True) (Wk.sub (by simp [Tm.get])) trivial ?_
  clear kx kr kn
  intro i hi _ KK kx kr kn
  by_cases h : i < m.stack.length
  ·simp (maxSteps := 3000000) [-List.length_flatten,-List.map_drop,-List.map_take,Function.comp_def,argsT,Opd.ev,Tm.get,put,ares,mapMo,ares1,snilP,bldParts,bslParts,putAt,AV.cells,AV.one,astore,aload,loadCs,callArgs,abin,abinInt,aapp,elems,appMore,appNone,preLen,aFa,aFld,apart,aExt,aPick,aNot,aLens,aEqa,cellsK,fitsA,LK.fitsA,leavesA,leafA,nilD,aNilc,aCint,aCid,alive,alen,alenOk,Rle,lePs,len_flat, h, a2]
   exact kn _ _ (Kn_next 2 (by omega) (by omega) trivial (by simp [Tm.get, nxt h a2]) (by simp) rfl (by simp [RLB]))
  ·simp (maxSteps := 3000000) [-List.length_flatten,-List.map_drop,-List.map_take,Function.comp_def,argsT,Opd.ev,Tm.get,put,ares,mapMo,ares1,snilP,bldParts,bslParts,putAt,AV.cells,AV.one,astore,aload,loadCs,callArgs,abin,abinInt,aapp,elems,appMore,appNone,preLen,aFa,aFld,apart,aExt,aPick,aNot,aLens,aEqa,cellsK,fitsA,LK.fitsA,leavesA,leafA,nilD,aNilc,aCint,aCid,alive,alen,alenOk,Rle,lePs,len_flat, h, a2, kx]
   refine PF.call (pairs38_PF m.edges h3) 9 (by simp [lePs, -List.length_flatten, -List.map_drop, -List.map_take, Function.comp_def, len_flat]) ?_
   simp (maxSteps := 3000000) [-List.length_flatten,-List.map_drop,-List.map_take,Function.comp_def,argsT,Opd.ev,Tm.get,put,ares,mapMo,ares1,snilP,bldParts,bslParts,putAt,AV.cells,AV.one,astore,aload,loadCs,callArgs,abin,abinInt,aapp,elems,appMore,appNone,preLen,aFa,aFld,apart,aExt,aPick,aNot,aLens,aEqa,cellsK,fitsA,LK.fitsA,leavesA,leafA,nilD,aNilc,aCint,aCid,alive,alen,alenOk,Rle,lePs,len_flat, Kc]
theorem in31_PF (l : List Ed) (e : Ed) : PF Tryz.prog 64 [pairs l, .agg e.cs] (.bool (decide (e ∈ l))) := by
 refine PFk 9 hm Tryz.func64 c64_ok (Nat.le_of_ble_eq_true rfl) (by simp) (by simp) ?_
 simp (maxSteps := 3000000) [-List.length_flatten,-List.map_drop,-List.map_take,Function.comp_def,argsT,Opd.ev,Tm.get,put,ares,mapMo,ares1,snilP,bldParts,bslParts,putAt,AV.cells,AV.one,astore,aload,loadCs,callArgs,abin,abinInt,aapp,elems,appMore,appNone,preLen,aFa,aFld,apart,aExt,aPick,aNot,aLens,aEqa,cellsK,fitsA,LK.fitsA,leavesA,leafA,nilD,aNilc,aCint,aCid,alive,alen,alenOk,Rle,lePs,len_flat, c64]
 refine run_countK l.length 5 [(0, pairs l), (3, .ptr 0 0 0)] [.cells 0 e.cs] (fun i => ∀ j : Nat, j < i → ¬ gi l j = e) (Wk.sub (by simp [Tm.get])) (fun j hj => by omega) ?_
 intro i hi hj KK kx kr kn
 by_cases h : i < l.length
 ·by_cases h1 : gi l i = e
  ·have hm : e ∈ l := h1 ▸ gi_mem h
   simp (maxSteps := 3000000) [-List.length_flatten,-List.map_drop,-List.map_take,Function.comp_def,argsT,Opd.ev,Tm.get,put,ares,mapMo,ares1,snilP,bldParts,bslParts,putAt,AV.cells,AV.one,astore,aload,loadCs,callArgs,abin,abinInt,aapp,elems,appMore,appNone,preLen,aFa,aFld,apart,aExt,aPick,aNot,aLens,aEqa,cellsK,fitsA,LK.fitsA,leavesA,leafA,nilD,aNilc,aCint,aCid,alive,alen,alenOk,Rle,lePs,len_flat, h, kr, h1, hm]
  ·have h2 : ¬ ((gi l i).a = e.a ∧ (gi l i).b = e.b) := fun hh => h1 (Ed.ext' hh.1 hh.2)
   simp (maxSteps := 3000000) [-List.length_flatten,-List.map_drop,-List.map_take,Function.comp_def,argsT,Opd.ev,Tm.get,put,ares,mapMo,ares1,snilP,bldParts,bslParts,putAt,AV.cells,AV.one,astore,aload,loadCs,callArgs,abin,abinInt,aapp,elems,appMore,appNone,preLen,aFa,aFld,apart,aExt,aPick,aNot,aLens,aEqa,cellsK,fitsA,LK.fitsA,leavesA,leafA,nilD,aNilc,aCint,aCid,alive,alen,alenOk,Rle,lePs,len_flat, h]
   intro ha
   refine ⟨fun a b => absurd ⟨a, b⟩ h2, fun _ => ?_⟩
   refine kn _ _ (Kn_next 1 (by omega) (by omega) (fun j hl => ?_) (by simp [Tm.get, nxt h ha]) (by simp) rfl (by simp [RLB]))
   rcases Nat.lt_or_ge j i with h3 | h3
   ·exact hj j h3
   ·have : j = i := by omega
    subst this
    exact h1
 ·have hm : e ∉ l := fun hm => by
   obtain ⟨j, hj', rfl⟩ := List.getElem_of_mem hm
   exact hj j (by omega) (by simp [gi, List.getD, hj'])
  simp (maxSteps := 3000000) [-List.length_flatten,-List.map_drop,-List.map_take,Function.comp_def,argsT,Opd.ev,Tm.get,put,ares,mapMo,ares1,snilP,bldParts,bslParts,putAt,AV.cells,AV.one,astore,aload,loadCs,callArgs,abin,abinInt,aapp,elems,appMore,appNone,preLen,aFa,aFld,apart,aExt,aPick,aNot,aLens,aEqa,cellsK,fitsA,LK.fitsA,leavesA,leafA,nilD,aNilc,aCint,aCid,alive,alen,alenOk,Rle,lePs,len_flat, h, kx, hm]
theorem MOk.same {p : Pg} (hp : Of p) {m : Mc} (h : MOk p m) : PF Tryz.prog 10 [.agg m.cs, .agg m.cs] (.bool true) :=
 same17_PF m (by have := h.cs.few; omega) (by have := h.few; omega) (by have := h.esLen hp.neat; omega)
@[simp high] theorem alen_cellsV {H : AHeap} {l : List Cl} : alen H (cellsV l) = some (l.length : Int) := by
 cases l <;> simp [cellsV, alen]
@[simp high] theorem alenOk_cellsV {l : List Cl} : alenOk (cellsV l) = (l.length ≤ maxA) := by
 cases l <;> simp [cellsV, alenOk]
end Go.AM
