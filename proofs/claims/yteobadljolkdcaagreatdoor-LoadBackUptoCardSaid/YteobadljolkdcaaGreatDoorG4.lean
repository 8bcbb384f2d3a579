/- Contracts of the program's functions. -/
import Derived.Test.YteobadljolkdcaaGreatDoorG3
import Derived.KernelRfl
namespace Go.AM
open Go.Proofs
set_option maxRecDepth 100000
set_option linter.unusedVariables false
set_option linter.unusedSimpArgs false
attribute [local go_sem] Function.comp_def argsT Opd.ev Tm.get put ares mapMo ares1 snilP bldParts bslParts putAt AV.cells AV.one astore aload loadCs callArgs abin abinInt aapp elems appMore appNone preLen aFa aFld apart aExt aPick aNot aLens aEqa cellsK fitsA LK.fitsA leavesA leafA nilD aNilc aCint aCid alive alen alenOk Rle lePs len_flat
noncomputable def textP (l : List Sg) (a : Kd) (names : List ByteArray) (id : Int) : ByteArray :=
 if (nodesP l a names id).2 = 0 then (enN (nodesP l a names id).1 ((nodesP l a names id).1.length - 1)).t else ⟨#[]⟩
theorem nodesP_ok {l : List Sg} {a : Kd} {names : List ByteArray} {id : Int} (h : (nodesP l a names id).2 = 0) : (nodesP l a names id).1.length ≤ 300 ∧ rightN (nodesP l a names id).1 = true ∧ (0 ≤ id ∧ id < a.keys.length) ∧ (nodesP l a names id).1 = treeN l a names id ∧ ∀ k ∈ belowP a id, unnamed l a names k = false := by
 unfold nodesP at h ⊢
 by_cases h1 : id < 0 ∨ a.keys.length ≤ id
 ·rw [if_pos h1] at h; simp at h
 rw [if_neg h1] at h ⊢
 by_cases h2 : ∃ k ∈ belowP a id, unnamed l a names k = true
 ·rw [if_pos h2] at h; simp at h
 rw [if_neg h2] at h ⊢
 by_cases h3 : 300 < (treeN l a names id).length
 ·rw [if_pos h3] at h; simp at h
 rw [if_neg h3] at h ⊢
 by_cases h4 : rightN (treeN l a names id) = false
 ·rw [if_pos h4] at h; simp at h
 rw [if_neg h4]
 refine ⟨by simp only; omega, by simpa using h4, by omega, rfl, fun k hk => ?_⟩
 cases hu : unnamed l a names k with
 | false => rfl
 | true => exact absurd ⟨k, hk, hu⟩ h2
theorem rightN_spec {l : List Nd} (h : rightN l = true) : ndsMay l ∧ (stk l l.length).length = 1 ∧ (enN l (l.length - 1)).d ≤ 40 ∧ 0 < l.length := by
 simp only [rightN, Bool.and_eq_true, decide_eq_true_eq] at h
 refine ⟨h.1, h.2.1, h.2.2, ?_⟩
 have := stk_le l l.length
 have := h.2.1
 omega
theorem c16_ok : cFn Tryz.prog an0 Tryz.f16 = some c16 := by kernel_rfl
theorem text16_PF {l : List Sg} {a : Kd} (hsf : SF l a) (names : List ByteArray) (id : Int) : PF Tryz.prog 16 [sigs l, .agg a.cs, strs names, i64 id] (.str (textP l a names id)) := by
 refine PFk 9 hm Tryz.func16 c16_ok (Nat.le_of_ble_eq_true rfl) (by simp) (by simp) ?_
 generalize hQ : Rle 9 (.str (textP l a names id)) = Q
 simp (maxSteps := 3000000) [go_sem,-List.length_flatten,-List.map_drop,-List.map_take, c16]
 refine PF.call (nodes_PF hsf names id) 9 (by simp [lePs]) ?_
 by_cases h : (nodesP l a names id).2 = 0
 ·obtain ⟨h1, h2, _⟩ := nodesP_ok h
  obtain ⟨k1, k2, k3, k4⟩ := rightN_spec h2
  have hr : textP l a names id = (enN (nodesP l a names id).1 ((nodesP l a names id).1.length - 1)).t := by unfold textP; rw [if_pos h]
  simp (maxSteps := 3000000) [go_sem,-List.length_flatten,-List.map_drop,-List.map_take, Kc, h]
  refine PF.call (text_PF (shp_of (by omega) k1) k4) 9 (by simp [lePs]) ?_
  simp (maxSteps := 3000000) [go_sem,-List.length_flatten,-List.map_drop,-List.map_take, Kc]
  rw [← hQ, hr]
  simp (maxSteps := 3000000) [go_sem,-List.length_flatten,-List.map_drop,-List.map_take]
 ·have hr : textP l a names id = ⟨#[]⟩ := by unfold textP; rw [if_neg h]
  simp (maxSteps := 3000000) [go_sem,-List.length_flatten,-List.map_drop,-List.map_take, Kc, h]
  rw [← hQ, hr]
  simp (maxSteps := 3000000) [go_sem,-List.length_flatten,-List.map_drop,-List.map_take]
/-! ### How many nodes: the document's answer -/
end Go.AM

namespace Go.AM
open Go.Proofs
set_option maxRecDepth 100000
set_option linter.unusedVariables false
set_option linter.unusedSimpArgs false
attribute [local go_sem] Function.comp_def argsT Opd.ev Tm.get put ares mapMo ares1 snilP bldParts bslParts putAt AV.cells AV.one astore aload loadCs callArgs abin abinInt aapp elems appMore appNone preLen aFa aFld apart aExt aPick aNot aLens aEqa cellsK fitsA LK.fitsA leavesA leafA nilD aNilc aCint aCid alive alen alenOk Rle lePs len_flat
end Go.AM

namespace Go.AM
open Go.Proofs
set_option maxRecDepth 100000
set_option linter.unusedVariables false
set_option linter.unusedSimpArgs false
attribute [local go_sem] Function.comp_def argsT Opd.ev Tm.get put ares mapMo ares1 snilP bldParts bslParts putAt AV.cells AV.one astore aload loadCs callArgs abin abinInt aapp elems appMore appNone preLen aFa aFld apart aExt aPick aNot aLens aEqa cellsK fitsA LK.fitsA leavesA leafA nilD aNilc aCint aCid alive alen alenOk Rle lePs len_flat
/-! ### A right store fits; a term's text (the document's) -/
theorem mayBe_args {l : List Sg} {many : Int} {t : Tm0} (h : mayBe l many t = true) : ∀ x ∈ t.args, 0 ≤ x ∧ x < many := by
 intro x hx
 unfold mayBe at h
 rw [Bool.and_eq_true, decide_eq_true_eq] at h
 obtain ⟨i, hi, rfl⟩ := List.getElem_of_mem hx
 have := h.1 i hi
 simpa [gi, List.getD, hi] using this
theorem mayBe_kind {l : List Sg} {many : Int} {t : Tm0} (h : mayBe l many t = true) :
 (if t.kind = 0 ∨ t.kind = 1 then decide (t.sym = 0 ∧ t.part = 0 ∧ t.args.length = 0)
 else if t.kind = 2 then decide (0 ≤ t.sym ∧ t.part = 0 ∧ t.args.length = 0)
 else if t.kind = 3 then decide ((0 ≤ t.sym ∧ t.sym < l.length) ∧ t.part = 0 ∧ t.args.length = (gi l t.sym).args.size)
 else if t.kind = 4 ∨ t.kind = 5 then decide (t.sym = 0 ∧ t.part = 0 ∧ t.args.length = 2)
 else if t.kind = 6 then decide ((0 ≤ t.sym ∧ t.sym < l.length) ∧ 0 ≤ t.part ∧ t.part < (gi l t.sym).args.size ∧ t.args.length = 1)
 else false) = true := by
 unfold mayBe at h
 rw [Bool.and_eq_true] at h
 exact h.2
theorem args8 {l : List Sg} (hr : sigRight l = true) {i : Int} (h0 : 0 ≤ i) (h1 : i < l.length) : (gi l i).args.size ≤ 8 := by
 unfold sigRight at hr
 rw [Bool.and_eq_true, decide_eq_true_eq] at hr
 obtain ⟨n, rfl⟩ : ∃ n : Nat, i = n := ⟨i.toNat, by omega⟩
 have h := (hr.1 n (by omega)).2.1
 unfold argsOk at h
 rw [Bool.and_eq_true, decide_eq_true_eq, decide_eq_true_eq] at h
 exact h.2
theorem mayBe_fit {l : List Sg} (hr : sigRight l = true) {many : Int} {t : Tm0} (h : mayBe l many t = true) : tmFit l t ∧ t.args.length ≤ 8 := by
 have hk := mayBe_kind h
 have h8 := fun i h0 h1 => args8 hr (i := i) h0 h1
 unfold tmFit
 by_cases k0 : t.kind = 0 ∨ t.kind = 1
 ·rw [if_pos k0, decide_eq_true_eq] at hk
  omega
 rw [if_neg k0] at hk
 by_cases k2 : t.kind = 2
 ·rw [if_pos k2, decide_eq_true_eq] at hk
  omega
 rw [if_neg k2] at hk
 by_cases k3 : t.kind = 3
 ·rw [if_pos k3, decide_eq_true_eq] at hk
  have := h8 _ hk.1.1 hk.1.2
  omega
 rw [if_neg k3] at hk
 by_cases k4 : t.kind = 4 ∨ t.kind = 5
 ·rw [if_pos k4, decide_eq_true_eq] at hk
  omega
 rw [if_neg k4] at hk
 by_cases k6 : t.kind = 6
 ·rw [if_pos k6, decide_eq_true_eq] at hk
  have := h8 _ hk.1.1 hk.1.2
  omega
 rw [if_neg k6] at hk
 cases hk
theorem right_term {l : List Sg} {a : Kd} (h : storeRight l a = true) : hashRight a = true ∧ 2 ≤ a.keys.length ∧ ∀ i : Nat, i < a.keys.length → termOk l a i := by
 unfold storeRight at h
 rw [Bool.and_eq_true, Bool.and_eq_true, decide_eq_true_eq, decide_eq_true_eq] at h
 exact ⟨h.1.1, h.1.2, h.2⟩
theorem sf_of {l : List Sg} {a : Kd} (hr : sigRight l = true) (hs : storeRight l a = true) (hk : a.keys.length ≤ 1048576) : SF l a := by
 obtain ⟨_, _, ht⟩ := right_term hs
 refine ⟨fun i hi x hx => mayBe_args (ht i hi).2.1 x hx, hk, fun i hi => ⟨(ht i hi).1, mayBe_fit hr (ht i hi).2.1⟩⟩
end Go.AM

namespace Go.AM
open Go.Proofs
set_option maxRecDepth 100000
set_option linter.unusedVariables false
set_option linter.unusedSimpArgs false
attribute [local go_sem] Function.comp_def argsT Opd.ev Tm.get put ares mapMo ares1 snilP bldParts bslParts putAt AV.cells AV.one astore aload loadCs callArgs abin abinInt aapp elems appMore appNone preLen aFa aFld apart aExt aPick aNot aLens aEqa cellsK fitsA LK.fitsA leavesA leafA nilD aNilc aCint aCid alive alen alenOk Rle lePs len_flat
/-! ### load.Load -/
theorem chunk_pre : ∀ (xs : List Int) (r : List AV), chunk 1 (i64s xs ++ r) xs.length = xs.map fun n => [AV.int .i64 n]
 | [], r => rfl
 | x :: xs, r => by
  have := chunk_pre xs r
  simp only [List.map_cons, List.cons_append, List.length_cons]
  simpa [chunk] using this
theorem cloneAt {H : AHeap} {i g off : Nat} {c : Bool} {cs : List AV} {xs : List Int} (hi : H[i]? = some (.cells g cs)) (hol : off + xs.length ≤ cs.length) (hx : (cs.drop off).take xs.length = i64s xs) (hA : xs.length ≤ 100000000) (hR : ∀ b ∈ H, RLB H.length b) : FT Tryz.prog 48 [.loc i g off xs.length 1 c] H (fun rv H' => rv = ints xs ∧ H' = H) := by
 have hm1 : xs.length ≤ maxA := by unfold maxA; omega
 have hch : chunk 1 (List.drop off cs) xs.length = xs.map fun n => [AV.int .i64 n] := by
  have h2 : List.drop off cs = i64s xs ++ (List.drop off cs).drop xs.length := by
   conv => lhs; rw [← List.take_append_drop xs.length (List.drop off cs), hx]
  rw [h2, chunk_pre]
 have hfl : ∀ l : List Int, (List.map (fun n => [AV.int IntKind.i64 n]) l).flatten = i64s l := by
  intro l
  induction l with
  | nil => rfl
  | cons x l ih => simp [ih]
 refine FT.wk (R' := fun rv H' => (rv = .nilS ∧ xs = [] ∧ H' = H) ∨ (rv = .rows true 1 [] ∧ xs = [] ∧ H' = H) ∨ rv = .loc H.length 0 0 xs.length 1 false ∧ H' = H ++ [.cells 0 (i64s xs)]) (FTk hm Tryz.func48 c48_ok (Nat.le_of_ble_eq_true rfl) ?_) ?_
 ·generalize hQ : (fun (rv : AV) (H' : AHeap) => (rv = .nilS ∧ xs = [] ∧ H' = H) ∨ (rv = .rows true 1 [] ∧ xs = [] ∧ H' = H) ∨ rv = .loc H.length 0 0 xs.length 1 false ∧ H' = H ++ [.cells 0 (i64s xs)]) = Q
  simp (maxSteps := 3000000) [go_sem,-List.length_flatten,-List.map_drop,-List.map_take, c48, hi, hol, hch]
  by_cases h0 : xs = []
  ·simp (maxSteps := 3000000) [go_sem,-List.length_flatten,-List.map_drop,-List.map_take, h0]
   rw [← hQ]
   simp [h0]
  ·simp (maxSteps := 3000000) [go_sem,-List.length_flatten,-List.map_drop,-List.map_take, h0, hm1, hfl]
   rw [← hQ]
   simp
 ·rintro rv H' (⟨rfl, rfl, rfl⟩ | ⟨rfl, rfl, rfl⟩ | ⟨rfl, rfl⟩)
  ·exact ⟨_, _, Wk.leT (T' := [(0, ints [])]) 2 (by simp [Tm.get, leP]), rfl, rfl⟩
  ·exact ⟨_, _, Wk.leT (T' := [(0, ints [])]) 2 (by simp [Tm.get, leP]), rfl, rfl⟩
  ·refine ⟨_, _, (Wk.freeze 0 (i := H.length) (g := 0) (off := 0) (len := xs.length) (sz := 1) (c := false) (cs := i64s xs) (by simp [Tm.get]) (by simp) (by simp)).trans (Wk.to H.length (Nat.le_refl _) (T' := [(0, ints xs)]) (H' := H) ?_ (by simp) (by simp) hR), rfl, rfl⟩
   have := chunk_one (f := fun n : Int => AV.int IntKind.i64 n) (l := xs)
   simp [Tm.get, this]
theorem c49_ok : cFn Tryz.prog an0 Tryz.f49 = some c49 := by kernel_rfl
abbrev strsC (l : List ByteArray) : AV := .rows true 1 (l.map fun s => [.str s])
theorem clip49_PF (l : List ByteArray) : PF Tryz.prog 49 [strs l] (strsC l) := by
 refine PFk 9 hm Tryz.func49 c49_ok (Nat.le_of_ble_eq_true rfl) (by simp) (by simp) ?_
 simp (maxSteps := 3000000) [go_sem,-List.length_flatten,-List.map_drop,-List.map_take, c49, aSlc]
 intro _
 have h : (0 : Int) ≤ l.length ∧ (l.length : Int) ≤ l.length := by omega
 have e : List.take l.length (List.map (fun s => [AV.str s]) l) = List.map (fun s => [AV.str s]) l := List.take_of_length_le (by simp)
 simp (maxSteps := 3000000) [go_sem,-List.length_flatten,-List.map_drop,-List.map_take, aint, h, e]
end Go.AM

namespace Go.AM
open Go.Proofs
set_option maxRecDepth 100000
set_option linter.unusedVariables false
set_option linter.unusedSimpArgs false
attribute [local go_sem] Function.comp_def argsT Opd.ev Tm.get put ares mapMo ares1 snilP bldParts bslParts putAt AV.cells AV.one astore aload loadCs callArgs abin abinInt aapp elems appMore appNone preLen aFa aFld apart aExt aPick aNot aLens aEqa cellsK fitsA LK.fitsA leavesA leafA nilD aNilc aCint aCid alive alen alenOk Rle lePs len_flat
/-! ### What load.Load computes -/
structure Ls where
 b : Kd
 own : List ByteArray
 st : List Int
def ixN (own : List ByteArray) (s : ByteArray) : Int := fstAt (fun x => decide (x = s)) own
def termL (l : List Sg) (own : List ByteArray) (args : List Int) (n : Nd) : Tm0 :=
 ⟨n.kind, if n.kind = 2 then (if ixN own n.name < 0 then (own.length : Int) else ixN own n.name) else if n.kind = 6 ∨ n.kind = 3 then fstAt (fun s => decide (s.name = n.name)) l else 0, if n.kind = 6 then n.n - 1 else 0, args⟩
def ownL (own : List ByteArray) (n : Nd) : List ByteArray := if n.kind = 2 ∧ ixN own n.name < 0 then own ++ [n.name] else own
def argL (st : List Int) (n : Nd) : List Int := st.drop (st.length - pN n)
def putL (l : List Sg) (limit : Int) (s : Ls) (n : Nd) : Kd × Int × Int := putT l s.b (termL l s.own (argL s.st n) n) limit
def stepL (l : List Sg) (limit : Int) (s : Ls) (n : Nd) : Ls := ⟨(putL l limit s n).1, ownL s.own n, s.st.take (s.st.length - pN n) ++ [(putL l limit s n).2.1]⟩
def runL (l : List Sg) (limit : Int) : Ls → List Nd → Ls × Int
 | s, [] => (s, 0)
 | s, n :: e => if (putL l limit s n).2.2 = 0 then runL l limit (stepL l limit s n) e else (s, (putL l limit s n).2.2)
def loadP (l : List Sg) (a : Kd) (names : List ByteArray) (e : List Nd) (limit : Int) : Kd × List ByteArray × Int × Int :=
 if (runL l limit ⟨a, names, []⟩ e).2 = 0 then ((runL l limit ⟨a, names, []⟩ e).1.b, (runL l limit ⟨a, names, []⟩ e).1.own, gi (runL l limit ⟨a, names, []⟩ e).1.st 0, 0)
 else (a, names, 0, (runL l limit ⟨a, names, []⟩ e).2)
/-! a right table stays right -/
theorem fst_app {α : Type} [Inhabited α] {p : α → Bool} {l m : List α} (h : 0 ≤ fstAt p l) : fstAt p (l ++ m) = fstAt p l := by
 unfold fstAt at h ⊢
 rw [List.findIdx?_append]
 cases hf : l.findIdx? p with
 | none => rw [hf] at h; simp at h
 | some i => simp
theorem fst_end {α : Type} [Inhabited α] {p : α → Bool} {l : List α} {x : α} (h : fstAt p l < 0) (hx : p x = true) : fstAt p (l ++ [x]) = l.length := by
 unfold fstAt at h ⊢
 rw [List.findIdx?_append]
 cases hf : l.findIdx? p with
 | none => simp [hx, List.findIdx?_cons]
 | some i => rw [hf] at h; simp at h; omega
theorem fst_lt {α : Type} {p : α → Bool} {l : List α} : fstAt p l < l.length := by
 unfold fstAt
 cases hf : l.findIdx? p with
 | none => simp only; omega
 | some i =>
  have := (List.findIdx?_eq_some_iff_findIdx_eq.1 hf).1
  simp only
  omega
theorem fst_at {α : Type} [Inhabited α] {p : α → Bool} {l : List α} (h : 0 ≤ fstAt p l) : p (gi l (fstAt p l)) = true := by
 unfold fstAt at h ⊢
 cases hf : l.findIdx? p with
 | none => rw [hf] at h; simp at h
 | some i =>
  obtain ⟨h1, h2, _⟩ := List.findIdx?_eq_some_iff_getElem.1 hf
  simpa [gi, List.getD, h1] using h2
theorem right_put {a : Kd} (h : hashRight a = true) (key : List Int) : hashRight (putK a key).1 = true := by
 unfold putK
 by_cases hf : 0 ≤ fstAt (fun x => decide (x = key)) a.keys
 ·rw [if_pos hf]; exact h
 rw [if_neg hf]
 unfold hashRight at h ⊢
 rw [Bool.and_eq_true, decide_eq_true_eq] at h
 simp only [decide_true, Bool.and_true, decide_eq_true_eq]
 intro i hi
 rw [List.length_append, List.length_singleton] at hi
 by_cases hl : i < a.keys.length
 ·rw [giApp hl, fst_app (by rw [h.1 i hl]; omega), h.1 i hl]
 ·have e : i = a.keys.length := by omega
  subst e
  rw [giEnd, fst_end (by omega) (by simp)]
theorem putK_len (a : Kd) (key : List Int) : (putK a key).1.keys.length ≤ a.keys.length + 1 := by
 unfold putK
 split
 ·simp
 ·simp
theorem putT_hash {l : List Sg} {a : Kd} (h : hashRight a = true) (t : Tm0) (limit : Int) : hashRight (putT l a t limit).1 = true := by
 unfold putT
 split
 ·exact h
 split
 ·exact h
 ·exact right_put h _
theorem putT_len (l : List Sg) (a : Kd) (t : Tm0) (limit : Int) : (putT l a t limit).1.keys.length ≤ a.keys.length + 1 := by
 unfold putT
 split
 ·simp
 split
 ·simp
 ·exact putK_len a _
theorem ownL_len (own : List ByteArray) (n : Nd) : (ownL own n).length ≤ own.length + 1 := by
 unfold ownL
 split <;> simp
theorem runL_next {l : List Sg} {limit : Int} {s : Ls} {e : List Nd} {i : Nat} (hi : i < e.length) : runL l limit s (e.drop i) = if (putL l limit s (gi e i)).2.2 = 0 then runL l limit (stepL l limit s (gi e i)) (e.drop (i + 1)) else (s, (putL l limit s (gi e i)).2.2) := by
 have e1 : e.drop i = gi e i :: e.drop (i + 1) := by
  rw [List.drop_eq_getElem_cons hi]
  simp [gi, List.getD, hi]
 rw [e1, runL]
end Go.AM

namespace Go.AM
open Go.Proofs
set_option maxRecDepth 100000
set_option linter.unusedVariables false
set_option linter.unusedSimpArgs false
attribute [local go_sem] Function.comp_def argsT Opd.ev Tm.get put ares mapMo ares1 snilP bldParts bslParts putAt AV.cells AV.one astore aload loadCs callArgs abin abinInt aapp elems appMore appNone preLen aFa aFld apart aExt aPick aNot aLens aEqa cellsK fitsA LK.fitsA leavesA leafA nilD aNilc aCint aCid alive alen alenOk Rle lePs len_flat
def c20b : AFn := ⟨111, .seq (.reg false [⟨some 6, .box (.tmp 1), none⟩, ⟨some 10, .alloc [.nilS, .nilS], none⟩, ⟨some 11, .mov (.lit .nilS), none⟩, ⟨some 12, .mov (.lit (.int .i64 0)), none⟩, ⟨some 13, .mov (.lit (.int .i64 0)), none⟩]) (.seq (.reg false [⟨some 24, .load 2 true (.tmp 6), none⟩, ⟨some 25, .mov (.tmp 2), none⟩, ⟨some 14, .alloc [.nilS, .nilS], none⟩, ⟨none, .store 2 (.tmp 14) (.tmp 24), none⟩, ⟨some 15, .mov (.tmp 25), none⟩]) (.seq (.reg false [⟨some 16, .mov (.lit .nilS), none⟩]) (.seq (.seq (.reg false [⟨some 26, .mov (.tmp 3), none⟩, ⟨some 27, .len (.tmp 26), none⟩, ⟨some 28, .mov (.lit (.int .i64 0)), none⟩]) (.block 0 (.loop (.seq (.reg false [⟨some 29, .bin .lss (.tmp 28) (.tmp 27), none⟩]) (.seq (.cond (.tmp 29) .skip (.exit 0)) (.seq (.block 1 (.seq (.reg false [⟨some 30, .ia 3 (.tmp 26) (.tmp 28), none⟩, ⟨some 31, .load 3 true (.tmp 30), none⟩, ⟨some 18, .alloc [.int .i64 0, .str ⟨#[]⟩, .int .i64 0], none⟩, ⟨none, .store 3 (.tmp 18) (.tmp 31), none⟩]) (.seq (.reg false [⟨some 32, .mov (.tmp 16), none⟩, ⟨some 33, .len (.tmp 32), none⟩, ⟨some 34, .load 3 true (.tmp 18), none⟩, ⟨some 35, .call (.lit (.fn (.func 47) [] [])) [.tmp 34], none⟩, ⟨some 36, .bin .sub (.tmp 33) (.tmp 35), none⟩, ⟨some 19, .mov (.tmp 36), none⟩]) (.seq (.reg true [⟨some 37, .fa 0 (.tmp 18), none⟩, ⟨some 38, .load 1 false (.tmp 37), none⟩, ⟨some 39, .mov (.tmp 16), none⟩, ⟨some 40, .mov (.tmp 19), none⟩, ⟨some 41, .slc 1 (.tmp 39) (some (.tmp 40)) none none, none⟩, ⟨some 42, .callh (.lit (.fn (.func 48) [] [])) [.tmp 41], none⟩, ⟨some 43, .build [.int .i64 0, .int .i64 0, .int .i64 0, .nilS] [(0, 1, .tmp 38), (3, 1, .tmp 42)], none⟩, ⟨some 20, .alloc [.int .i64 0, .int .i64 0, .int .i64 0, .nilS], none⟩, ⟨none, .store 4 (.tmp 20) (.tmp 43), none⟩]) (.seq (.reg false [⟨some 44, .mov (.tmp 16), none⟩, ⟨some 45, .mov (.tmp 19), none⟩, ⟨some 46, .slc 1 (.tmp 44) none (some (.tmp 45)) none, none⟩, ⟨some 16, .mov (.tmp 46), none⟩]) (.seq (.seq (.reg false [⟨some 47, .fa 0 (.tmp 18), none⟩, ⟨some 48, .load 1 false (.tmp 47), none⟩]) (.block 2 (.seq (.reg false [⟨some 50, .bin .eql (.tmp 48) (.lit (.int .i64 2)), none⟩, ⟨some 49, .mov (.tmp 50), none⟩]) (.cond (.tmp 49) (.seq (.reg false [⟨some 51, .mov (.tmp 15), none⟩, ⟨some 52, .fa 1 (.tmp 18), none⟩, ⟨some 53, .load 1 false (.tmp 52), none⟩, ⟨some 54, .call (.lit (.fn (.func 31) [] [])) [.tmp 51, .tmp 53], none⟩, ⟨some 55, .fa 1 (.tmp 20), none⟩, ⟨none, .store 1 (.tmp 55) (.tmp 54), none⟩]) (.seq (.reg false [⟨some 56, .fa 1 (.tmp 20), none⟩, ⟨some 57, .load 1 false (.tmp 56), none⟩, ⟨some 58, .bin .lss (.tmp 57) (.lit (.int .i64 0)), none⟩]) (.cond (.tmp 58) (.seq (.reg false [⟨some 59, .mov (.tmp 15), none⟩, ⟨some 60, .len (.tmp 59), none⟩, ⟨some 61, .fa 1 (.tmp 20), none⟩, ⟨none, .store 1 (.tmp 61) (.tmp 60), none⟩]) (.reg true [⟨some 62, .mov (.tmp 15), none⟩, ⟨some 63, .call (.lit (.fn (.func 49) [] [])) [.tmp 62], none⟩, ⟨some 64, .fa 1 (.tmp 18), none⟩, ⟨some 65, .load 1 false (.tmp 64), none⟩, ⟨some 66, .bslice 1 1 [.str ⟨#[]⟩] [(0, .tmp 65)], none⟩, ⟨some 67, .appc 1 16 (.tmp 63) (.tmp 66), none⟩, ⟨some 15, .mov (.tmp 67), none⟩])) .skip))) (.seq (.reg false [⟨some 69, .bin .eql (.tmp 48) (.lit (.int .i64 6)), none⟩, ⟨some 68, .mov (.tmp 69), none⟩]) (.cond (.tmp 68) (.regD [⟨some 70, .mov (.tmp 0), none⟩, ⟨some 71, .fa 1 (.tmp 18), none⟩, ⟨some 72, .load 1 false (.tmp 71), none⟩, ⟨some 73, .call (.lit (.fn (.func 50) [] [])) [.tmp 70, .tmp 72], none⟩, ⟨some 74, .fa 2 (.tmp 18), none⟩, ⟨some 75, .load 1 false (.tmp 74), none⟩, ⟨some 76, .bin .sub (.tmp 75) (.lit (.int .i64 1)), none⟩, ⟨some 77, .fa 1 (.tmp 20), none⟩, ⟨none, .store 1 (.tmp 77) (.tmp 73), none⟩, ⟨some 78, .fa 2 (.tmp 20), none⟩, ⟨none, .store 1 (.tmp 78) (.tmp 76), none⟩] [(⟨some 74, .fa 2 (.tmp 18), none⟩, ⟨none, .store 1 (.tmp 77) (.tmp 73), none⟩), (⟨some 75, .load 1 false (.tmp 74), none⟩, ⟨none, .store 1 (.tmp 77) (.tmp 73), none⟩)]) (.seq (.reg false [⟨some 80, .bin .eql (.tmp 48) (.lit (.int .i64 3)), none⟩, ⟨some 79, .mov (.tmp 80), none⟩]) (.cond (.tmp 79) (.reg false [⟨some 81, .mov (.tmp 0), none⟩, ⟨some 82, .fa 1 (.tmp 18), none⟩, ⟨some 83, .load 1 false (.tmp 82), none⟩, ⟨some 84, .call (.lit (.fn (.func 50) [] [])) [.tmp 81, .tmp 83], none⟩, ⟨some 85, .fa 1 (.tmp 20), none⟩, ⟨none, .store 1 (.tmp 85) (.tmp 84), none⟩]) .skip)))))))) (.seq (.reg false [⟨some 87, .mov (.tmp 0), none⟩, ⟨some 88, .load 2 true (.tmp 14), none⟩, ⟨some 89, .load 4 true (.tmp 20), none⟩, ⟨some 90, .mov (.tmp 4), none⟩, ⟨some 91, .call (.lit (.fn (.func 51) [] [])) [.tmp 87, .tmp 88, .tmp 89, .tmp 90], none⟩, ⟨some 86, .mov (.tmp 91), none⟩, ⟨some 92, .ext (.tmp 86) 0, none⟩, ⟨some 93, .ext (.tmp 86) 1, none⟩, ⟨some 94, .ext (.tmp 86) 2, none⟩, ⟨some 21, .alloc [.nilS, .nilS], none⟩, ⟨none, .store 2 (.tmp 21) (.tmp 92), none⟩, ⟨some 22, .mov (.tmp 93), none⟩, ⟨some 23, .mov (.tmp 94), none⟩]) (.seq (.seq (.reg false [⟨some 95, .mov (.tmp 23), none⟩, ⟨some 96, .bin .neq (.tmp 95) (.lit (.int .i64 0)), none⟩]) (.cond (.tmp 96) (.seq (.reg false [⟨some 97, .load 2 true (.tmp 6), none⟩, ⟨some 98, .mov (.tmp 2), none⟩, ⟨some 99, .mov (.tmp 23), none⟩, ⟨none, .store 2 (.tmp 10) (.tmp 97), none⟩, ⟨some 11, .mov (.tmp 98), none⟩, ⟨some 12, .mov (.lit (.int .i64 0)), none⟩, ⟨some 13, .mov (.tmp 99), none⟩]) .ret) .skip)) (.seq (.reg false [⟨some 100, .load 2 true (.tmp 21), none⟩, ⟨none, .store 2 (.tmp 14) (.tmp 100), none⟩]) (.reg false [⟨some 101, .mov (.tmp 16), none⟩, ⟨some 102, .mov (.tmp 22), none⟩, ⟨some 103, .bslice 1 1 [.int .i64 0] [(0, .tmp 102)], none⟩, ⟨some 104, .app 1 8 (.tmp 101) (.tmp 103), none⟩, ⟨some 16, .mov (.tmp 104), none⟩])))))))))) (.reg false [⟨some 105, .bin .add (.tmp 28) (.lit (.int .i64 1)), none⟩, ⟨some 28, .mov (.tmp 105), none⟩]))))))) (.seq (.regD [⟨some 106, .load 2 true (.tmp 14), none⟩, ⟨some 107, .mov (.tmp 15), none⟩, ⟨some 108, .mov (.tmp 16), none⟩, ⟨some 109, .ia 1 (.tmp 108) (.lit (.int .i64 0)), none⟩, ⟨some 110, .load 1 false (.tmp 109), none⟩, ⟨none, .store 2 (.tmp 10) (.tmp 106), none⟩, ⟨some 11, .mov (.tmp 107), none⟩, ⟨some 12, .mov (.tmp 110), none⟩, ⟨some 13, .mov (.lit (.int .i64 0)), none⟩] [(⟨some 109, .ia 1 (.tmp 108) (.lit (.int .i64 0)), none⟩, ⟨none, .store 2 (.tmp 10) (.tmp 106), none⟩), (⟨some 110, .load 1 false (.tmp 109), none⟩, ⟨none, .store 2 (.tmp 10) (.tmp 106), none⟩)]) .ret)))), [.cell 10 2 true, .tmp 11, .tmp 12, .tmp 13]⟩

/-! ### load.Load, walked -/
def an20 : An := ⟨[2000042, 1000067], []⟩
theorem c20_ok : cFn Tryz.prog an20 Tryz.f20 = some c20b := by kernel_rfl
set_option maxHeartbeats 8000000 in
theorem load_PF {l : List Sg} {a : Kd} {e : List Nd} (hh : hashRight a = true) (hg : goodN e e.length) (hm8 : ∀ j : Nat, j < e.length → (gi e j).kind = 6 → 1 ≤ (gi e j).n ∧ (gi e j).n ≤ 8) (h1 : 0 < (stk e e.length).length) (hka : a.keys.length + e.length ≤ 1000000) (names : List ByteArray) (hna : names.length + e.length ≤ 1000000) (limit : Int) :
  PF Tryz.prog 20 [sigs l, .agg a.cs, strs names, nds e, i64 limit] (.tuple [.agg (loadP l a names e limit).1.cs, strs (loadP l a names e limit).2.1, i64 (loadP l a names e limit).2.2.1, i64 (loadP l a names e limit).2.2.2]) := by
 refine PFk 9 hm Tryz.func20 c20_ok (Nat.le_of_ble_eq_true rfl) (by simp) (by simp) ?_
 generalize hQ : Rle 9 (.tuple [.agg (loadP l a names e limit).1.cs, strs (loadP l a names e limit).2.1, i64 (loadP l a names e limit).2.2.1, i64 (loadP l a names e limit).2.2.2]) = Q
 simp (maxSteps := 3000000) [go_sem,-List.length_flatten,-List.map_drop,-List.map_take, c20b]
 intro hA
 refine run_loopK (fun m T H => ∃ (i : Nat) (s : Ls) (g : Nat), m = e.length - i ∧ i ≤ e.length ∧ hashRight s.b = true ∧ s.b.keys.length ≤ a.keys.length + i ∧ s.own.length ≤ names.length + i ∧ s.st.length = (stk e i).length ∧ runL l limit ⟨a, names, []⟩ e = runL l limit s (e.drop i) ∧ T = [(28, i64 i), (16, .loc 3 g 0 s.st.length 1 false), (15, strs s.own), (26, nds e), (27, i64 e.length), (0, sigs l), (2, strs names), (4, i64 limit), (6, .ptr 0 0 0), (10, .ptr 1 0 0), (14, .ptr 2 0 0)] ∧ H = [.cells 0 a.cs, .cells 0 [.nilS, .nilS], .cells 0 s.b.cs, .cells g (i64s s.st)]) e.length
  [(28, i64 (0 : Nat)), (16, .loc 3 0 0 0 1 false), (15, strs names), (26, nds e), (27, i64 e.length), (0, sigs l), (2, strs names), (4, i64 limit), (6, .ptr 0 0 0), (10, .ptr 1 0 0), (14, .ptr 2 0 0)] [.cells 0 a.cs, .cells 0 [.nilS, .nilS], .cells 0 a.cs, .cells 0 []]
  ((Wk.nil 16 1 (by simp [Tm.get])).trans (Wk.tell 4 (by omega) (by simp [Tm.get]) (by simp) (by simp) (by simp [RLB]))) ⟨0, ⟨a, names, []⟩, 0, rfl, by omega, hh, by simp, by simp, rfl, rfl, rfl, rfl⟩ ?_
 rintro m T H ⟨i, s, g, rfl, hi, hhs, hkb, how, hsl, hrun, rfl, rfl⟩ KK kx kr kn
 by_cases h : i < e.length
 ·have hgi := hg i h
  rw [← hsl] at hgi
  have hpe : partsN (gi e i) = (pN (gi e i) : Int) := by unfold pN; omega
  have hpx := many47_PF (gi e i)
  rw [hpe] at hpx
  have hnx := runL_next (l := l) (limit := limit) (s := s) h
  have h8 := hm8 i h
  have hsle := stk_le e i
  rw [← hsl] at hsle
  obtain ⟨k, hk⟩ : ∃ k : Nat, k = s.st.length - pN (gi e i) := ⟨_, rfl⟩
  have hw : IntKind.i64.wrap ((s.st.length : Int) - (pN (gi e i) : Int)) = (k : Int) := by rw [w64 (by omega) (by omega)]; omega
  simp (maxSteps := 3000000) [go_sem,-List.length_flatten,-List.map_drop,-List.map_take, h]
  intro hsA
  refine PF.call hpx 9 (by simp [lePs]) ?_
  simp (maxSteps := 3000000) [go_sem,-List.length_flatten,-List.map_drop,-List.map_take, Kc, hw]
  have hal : (argL s.st (gi e i)).length = s.st.length - k := by unfold argL; rw [← hk, List.length_drop]
  have hcl := FT.more (cloneAt (H := [.cells 0 a.cs, .cells 0 [.nilS, .nilS], .cells 0 s.b.cs, .cells g (i64s s.st), .cells 0 [i64 (gi e i).kind, .str (gi e i).name, i64 (gi e i).n]]) (i := 3) (g := g) (off := k) (c := false) (cs := i64s s.st) (xs := argL s.st (gi e i)) rfl (by rw [hal]; simp; omega) (by rw [hal]; unfold argL; rw [← hk, i64s, ← List.map_drop, List.take_of_length_le (by simp)]) (by omega) (by simp [RLB])) (by simp [RL]) (by simp [RLB])
  rw [hal] at hcl
  have hat : (argL s.st (gi e i)).length ≤ 1048576 := by omega
  have hpt := fun t : Tm0 => putT_PF l hhs (by omega) t (limit := limit)
  refine ⟨by omega, _, hcl, ?_⟩
  generalize hA2 : argL s.st (gi e i) = A at *
  have hkle : k ≤ s.st.length := by omega
  have hbad : (putL l limit s (gi e i)).2.2 ≠ 0 → loadP l a names e limit = (a, names, 0, (putL l limit s (gi e i)).2.2) := fun hb => by
   unfold loadP
   rw [hrun, hnx, if_neg hb]
   simp only [if_neg hb]
  have hgood : (putL l limit s (gi e i)).2.2 = 0 → runL l limit ⟨a, names, []⟩ e = runL l limit ⟨(putL l limit s (gi e i)).1, ownL s.own (gi e i), s.st.take k ++ [(putL l limit s (gi e i)).2.1]⟩ (e.drop (i + 1)) := fun hb => by
   rw [hrun, hnx, if_pos hb, hk]
   rfl
  have hpl : putL l limit s (gi e i) = putT l s.b (termL l s.own A (gi e i)) limit := by rw [← hA2]; rfl
  have hch : hashRight (putL l limit s (gi e i)).1 = true := by rw [hpl]; exact putT_hash hhs _ _
  have hcl2 : (putL l limit s (gi e i)).1.keys.length ≤ a.keys.length + (i + 1) := by rw [hpl]; have := putT_len l s.b (termL l s.own A (gi e i)) limit; omega
  have hol := ownL_len s.own (gi e i)
  have hst := stk_len e i (by omega)
  rw [← hsl, ← hk] at hst
  have htl : (s.st.take k).length = k := by simp; omega
  have hwi : IntKind.i64.wrap ((i : Int) + 1) = ((i + 1 : Nat) : Int) := nxt h hA
  have hkA : k + 1 ≤ maxA := by unfold maxA; omega
  have hap : ∀ id : Int, List.take k (i64s s.st) ++ [i64 id] = i64s (s.st.take k ++ [id]) := fun id => by simp [i64s, List.map_take]
  clear hpt hnx hcl
  by_cases k2 : (gi e i).kind = 2
  ·by_cases hx : ixN s.own (gi e i).name < 0
   ·have ht : termL l s.own A (gi e i) = ⟨2, s.own.length, 0, A⟩ := by simp [termL, k2, hx]
    have ho : ownL s.own (gi e i) = s.own ++ [(gi e i).name] := by simp [ownL, k2, hx]
    have hq := putT_PF l hhs (by omega) ⟨2, s.own.length, 0, A⟩ (by omega) (limit := limit)
    rw [← ht, ← hpl] at hq
    rw [ht] at hq
    simp (maxSteps := 3000000) [go_sem,-List.length_flatten,-List.map_drop,-List.map_take, k2, hkle]
    refine PF.call (index_PF s.own (gi e i).name) 9 (by simp [lePs]) ?_
    unfold ixN at hx
    simp (maxSteps := 3000000) [go_sem,-List.length_flatten,-List.map_drop,-List.map_take, Kc, hkle, hx]
    intro _
    refine ⟨_, clip49_PF s.own, ?_⟩
    have hoA : s.own.length + 1 ≤ maxA := by unfold maxA; omega
    simp (maxSteps := 3000000) [go_sem,-List.length_flatten,-List.map_drop,-List.map_take, Kc, hkle, hoA, aappc]
    refine PF.call hq 9 (by simp [lePs]) ?_
    rw [ho] at hgood hol
    clear hq hpl
    generalize putL l limit s (gi e i) = p at *
    obtain ⟨c, id, bad⟩ := p
    by_cases hb : bad = 0
    ·subst hb
     simp (maxSteps := 3000000) [go_sem,-List.length_flatten,-List.map_drop,-List.map_take, Kc]
     intro _ _
     have hfn : ((List.map (fun s => [AV.str s]) s.own).flatten ++ [AV.str (gi e i).name]) = ((s.own ++ [(gi e i).name]).map fun s => [AV.str s]).flatten := by simp
     have hfc := chunk_flat (sz := 1) (f := fun s : ByteArray => [AV.str s]) (l := s.own ++ [(gi e i).name]) (by simp)
     rw [← hfn, List.length_append, List.length_singleton] at hfc
     have hfl : ((List.map (fun s => [AV.str s]) s.own).flatten ++ [AV.str (gi e i).name]).length = s.own.length + 1 := by rw [hfn, len_flat (f := fun s : ByteArray => [AV.str s]) (sz := 1) (by simp)]; simp
     refine ⟨⟨hkle, hkA⟩, kn _ _ ⟨e.length - (i + 1), _, _, by omega, (Wk.freeze 15 (i := 6) (g := 0) (off := 0) (len := s.own.length + 1) (sz := 1) (c := false) (cs := (List.map (fun s => [AV.str s]) s.own).flatten ++ [AV.str (gi e i).name]) (by simp [Tm.get]) rfl (by rw [hfl]; omega)).trans (Wk.tell 4 (by omega) (by simp [Tm.get, hwi, hkle, hfc, -List.length_flatten]) (by simp; rintro x (⟨k, _, rfl⟩ | rfl) y hy <;> (simp at hy; subst hy; simp)) (by simp) (by exact ⟨rlb_kd, by simp [RLB], rlb_kd, rlb_i64s, trivial⟩)), ⟨i + 1, ⟨c, s.own ++ [(gi e i).name], s.st.take k ++ [id]⟩, g + 1, rfl, h, hch, hcl2, by simp only at hol ⊢; omega, by simp only [List.length_append, List.length_singleton, htl, hst], hgood rfl, rfl, rfl⟩⟩⟩
    ·simp (maxSteps := 3000000) [go_sem,-List.length_flatten,-List.map_drop,-List.map_take, Kc, hb, kr]
     rw [← hQ, hbad hb]
     simp (maxSteps := 3000000) [go_sem,-List.length_flatten,-List.map_drop,-List.map_take]
   ·have hx' : 0 ≤ ixN s.own (gi e i).name := by omega
    have ht : termL l s.own A (gi e i) = ⟨2, ixN s.own (gi e i).name, 0, A⟩ := by simp [termL, k2, hx]
    have ho : ownL s.own (gi e i) = s.own := by simp [ownL, k2, hx]
    have hq := putT_PF l hhs (by omega) ⟨2, ixN s.own (gi e i).name, 0, A⟩ (by omega) (limit := limit)
    rw [← ht, ← hpl] at hq
    rw [ht] at hq
    simp (maxSteps := 3000000) [go_sem,-List.length_flatten,-List.map_drop,-List.map_take, k2, hkle]
    refine PF.call (index_PF s.own (gi e i).name) 9 (by simp [lePs]) ?_
    unfold ixN at hx hq
    simp (maxSteps := 3000000) [go_sem,-List.length_flatten,-List.map_drop,-List.map_take, Kc, hkle, hx]
    refine PF.call hq 9 (by simp [lePs]) ?_
    rw [ho] at hgood hol
    clear hq hpl
    generalize putL l limit s (gi e i) = p at *
    obtain ⟨c, id, bad⟩ := p
    by_cases hb : bad = 0
    ·subst hb
     simp (maxSteps := 3000000) [go_sem,-List.length_flatten,-List.map_drop,-List.map_take, Kc]
     intro _ _
     refine ⟨⟨hkle, hkA⟩, kn _ _ (Kl_next (e.length - (i + 1)) 4 (by omega) ⟨i + 1, ⟨c, s.own, s.st.take k ++ [id]⟩, g + 1, rfl, h, hch, hcl2, by simp only at hol ⊢; omega, by simp only [List.length_append, List.length_singleton, htl, hst], hgood rfl, rfl, rfl⟩ (by simp [Tm.get, hwi, hkle]) (by simp) (by simp) ⟨rlb_kd, by simp [RLB], rlb_kd, rlb_i64s, trivial⟩ (by omega))⟩
    ·simp (maxSteps := 3000000) [go_sem,-List.length_flatten,-List.map_drop,-List.map_take, Kc, hb, kr]
     rw [← hQ, hbad hb]
     simp (maxSteps := 3000000) [go_sem,-List.length_flatten,-List.map_drop,-List.map_take]
  by_cases k6 : (gi e i).kind = 6
  ·have hw6 : IntKind.i64.wrap ((gi e i).n - 1) = (gi e i).n - 1 := by have := h8 k6; exact w64 (by omega) (by omega)
   have ht : termL l s.own A (gi e i) = ⟨6, fstAt (fun s => decide (s.name = (gi e i).name)) l, (gi e i).n - 1, A⟩ := by simp [termL, k6]
   have ho : ownL s.own (gi e i) = s.own := by simp [ownL, k6]
   have hq := putT_PF l hhs (by omega) ⟨6, fstAt (fun s => decide (s.name = (gi e i).name)) l, (gi e i).n - 1, A⟩ (by omega) (limit := limit)
   rw [← ht, ← hpl] at hq
   rw [ht] at hq
   simp (maxSteps := 3000000) [go_sem,-List.length_flatten,-List.map_drop,-List.map_take, k2, k6, hkle]
   refine ⟨_, sfind_PF l (gi e i).name, ?_⟩
   simp (maxSteps := 3000000) [go_sem,-List.length_flatten,-List.map_drop,-List.map_take, Kc, hkle, disP_cons, indB, apartB, apartS, refA, aliveRd, hw6]
   refine PF.call hq 9 (by simp [lePs]) ?_
   rw [ho] at hgood hol
   clear hq hpl
   generalize putL l limit s (gi e i) = p at *
   obtain ⟨c, id, bad⟩ := p
   by_cases hb : bad = 0
   ·subst hb
    simp (maxSteps := 3000000) [go_sem,-List.length_flatten,-List.map_drop,-List.map_take, Kc]
    intro _ _
    refine ⟨⟨hkle, hkA⟩, kn _ _ (Kl_next (e.length - (i + 1)) 4 (by omega) ⟨i + 1, ⟨c, s.own, s.st.take k ++ [id]⟩, g + 1, rfl, h, hch, hcl2, by simp only at hol ⊢; omega, by simp only [List.length_append, List.length_singleton, htl, hst], hgood rfl, rfl, rfl⟩ (by simp [Tm.get, hwi, hkle]) (by simp) (by simp) ⟨rlb_kd, by simp [RLB], rlb_kd, rlb_i64s, trivial⟩ (by omega))⟩
   ·simp (maxSteps := 3000000) [go_sem,-List.length_flatten,-List.map_drop,-List.map_take, Kc, hb, kr]
    rw [← hQ, hbad hb]
    simp (maxSteps := 3000000) [go_sem,-List.length_flatten,-List.map_drop,-List.map_take]
  by_cases k3 : (gi e i).kind = 3
  ·have ht : termL l s.own A (gi e i) = ⟨3, fstAt (fun s => decide (s.name = (gi e i).name)) l, 0, A⟩ := by simp [termL, k3]
   have ho : ownL s.own (gi e i) = s.own := by simp [ownL, k3]
   have hq := putT_PF l hhs (by omega) ⟨3, fstAt (fun s => decide (s.name = (gi e i).name)) l, 0, A⟩ (by omega) (limit := limit)
   rw [← ht, ← hpl] at hq
   rw [ht] at hq
   simp (maxSteps := 3000000) [go_sem,-List.length_flatten,-List.map_drop,-List.map_take, k2, k6, k3, hkle]
   refine PF.call (sfind_PF l (gi e i).name) 9 (by simp [lePs]) ?_
   simp (maxSteps := 3000000) [go_sem,-List.length_flatten,-List.map_drop,-List.map_take, Kc, hkle]
   refine PF.call hq 9 (by simp [lePs]) ?_
   rw [ho] at hgood hol
   clear hq hpl
   generalize putL l limit s (gi e i) = p at *
   obtain ⟨c, id, bad⟩ := p
   by_cases hb : bad = 0
   ·subst hb
    simp (maxSteps := 3000000) [go_sem,-List.length_flatten,-List.map_drop,-List.map_take, Kc]
    intro _ _
    refine ⟨⟨hkle, hkA⟩, kn _ _ (Kl_next (e.length - (i + 1)) 4 (by omega) ⟨i + 1, ⟨c, s.own, s.st.take k ++ [id]⟩, g + 1, rfl, h, hch, hcl2, by simp only at hol ⊢; omega, by simp only [List.length_append, List.length_singleton, htl, hst], hgood rfl, rfl, rfl⟩ (by simp [Tm.get, hwi, hkle]) (by simp) (by simp) ⟨rlb_kd, by simp [RLB], rlb_kd, rlb_i64s, trivial⟩ (by omega))⟩
   ·simp (maxSteps := 3000000) [go_sem,-List.length_flatten,-List.map_drop,-List.map_take, Kc, hb, kr]
    rw [← hQ, hbad hb]
    simp (maxSteps := 3000000) [go_sem,-List.length_flatten,-List.map_drop,-List.map_take]
  have ht : termL l s.own A (gi e i) = ⟨(gi e i).kind, 0, 0, A⟩ := by simp [termL, k2, k6, k3]
  have ho : ownL s.own (gi e i) = s.own := by simp [ownL, k2]
  have hq := putT_PF l hhs (by omega) ⟨(gi e i).kind, 0, 0, A⟩ (by omega) (limit := limit)
  rw [← ht, ← hpl] at hq
  rw [ht] at hq
  simp (maxSteps := 3000000) [go_sem,-List.length_flatten,-List.map_drop,-List.map_take, k2, k6, k3, hkle]
  refine PF.call hq 9 (by simp [lePs]) ?_
  rw [ho] at hgood hol
  clear hq hpl
  generalize putL l limit s (gi e i) = p at *
  obtain ⟨c, id, bad⟩ := p
  by_cases hb : bad = 0
  ·subst hb
   simp (maxSteps := 3000000) [go_sem,-List.length_flatten,-List.map_drop,-List.map_take, Kc]
   intro _ _
   refine ⟨⟨hkle, hkA⟩, kn _ _ (Kl_next (e.length - (i + 1)) 4 (by omega) ⟨i + 1, ⟨c, s.own, s.st.take k ++ [id]⟩, g + 1, rfl, h, hch, hcl2, by simp only at hol ⊢; omega, by simp only [List.length_append, List.length_singleton, htl, hst], hgood rfl, rfl, rfl⟩ (by simp [Tm.get, hwi, hkle]) (by simp) (by simp) ⟨rlb_kd, by simp [RLB], rlb_kd, rlb_i64s, trivial⟩ (by omega))⟩
  ·simp (maxSteps := 3000000) [go_sem,-List.length_flatten,-List.map_drop,-List.map_take, Kc, hb, kr]
   rw [← hQ, hbad hb]
   simp (maxSteps := 3000000) [go_sem,-List.length_flatten,-List.map_drop,-List.map_take]
 ·--END
  have ei : i = e.length := by omega
  subst ei
  have hs0 : 0 < s.st.length := by omega
  have hr : loadP l a names e limit = (s.b, s.own, gi s.st 0, 0) := by
   unfold loadP
   rw [hrun, List.drop_length, runL]
   rfl
  obtain ⟨x, st, hst⟩ : ∃ x st, s.st = x :: st := by
   cases hc : s.st with
   | nil => rw [hc] at hs0; simp at hs0
   | cons x st => exact ⟨x, st, rfl⟩
  rw [hst] at hr ⊢
  simp (maxSteps := 3000000) [go_sem,-List.length_flatten,-List.map_drop,-List.map_take, h, kx, disP_cons, indB, apartB, apartS, refA, aliveRd]
  rw [← hQ, hr]
  simp (maxSteps := 3000000) [go_sem,-List.length_flatten,-List.map_drop,-List.map_take, gi]
end Go.AM

namespace Go.AM
open Go.Proofs
set_option maxRecDepth 100000
set_option linter.unusedVariables false
set_option linter.unusedSimpArgs false
attribute [local go_sem] Function.comp_def argsT Opd.ev Tm.get put ares mapMo ares1 snilP bldParts bslParts putAt AV.cells AV.one astore aload loadCs callArgs abin abinInt aapp elems appMore appNone preLen aFa aFld apart aExt aPick aNot aLens aEqa cellsK fitsA LK.fitsA leavesA leafA nilD aNilc aCint aCid alive alen alenOk Rle lePs len_flat
/-! ### Stores that grow -/
def Pre (a b : Kd) : Prop := ∃ ks, b.keys = a.keys ++ ks
theorem Pre.refl (a : Kd) : Pre a a := ⟨[], by simp⟩
theorem Pre.trans {a b c : Kd} : Pre a b → Pre b c → Pre a c := fun ⟨x, h⟩ ⟨y, k⟩ => ⟨x ++ y, by rw [k, h, List.append_assoc]⟩
theorem Pre.len {a b : Kd} : Pre a b → a.keys.length ≤ b.keys.length := fun ⟨x, h⟩ => by rw [h]; simp
theorem Pre.key {a b : Kd} (h : Pre a b) {i : Nat} (hi : i < a.keys.length) : gi b.keys (i : Int) = gi a.keys (i : Int) := by
 obtain ⟨x, h⟩ := h
 rw [h, giApp hi]
theorem Pre.term {a b : Kd} (h : Pre a b) {i : Nat} (hi : i < a.keys.length) : termAt b (i : Int) = termAt a (i : Int) := by
 have := h.len
 rw [termAt_in (by omega) (by omega), termAt_in (by omega) (by omega), h.key hi]
theorem termOf_key (t : Tm0) : termOf (keyT t) = (t, true) := by
 have : ¬ (keyT t).length < 3 := by simp [keyT]
 unfold termOf
 rw [if_neg this]
 cases t
 simp [keyT, gi, List.getD]
theorem putK_pre (a : Kd) (key : List Int) : Pre a (putK a key).1 := by
 unfold putK
 split
 ·exact .refl _
 ·exact ⟨[key], rfl⟩
theorem putK_at (a : Kd) (key : List Int) : ∃ n : Nat, (putK a key).2.1 = n ∧ n < (putK a key).1.keys.length ∧ gi (putK a key).1.keys (n : Int) = key := by
 unfold putK
 by_cases h : 0 ≤ fstAt (fun x => decide (x = key)) a.keys
 ·rw [if_pos h]
  have h1 := fst_at h
  have h2 := fst_lt (p := fun x => decide (x = key)) (l := a.keys)
  refine ⟨(fstAt (fun x => decide (x = key)) a.keys).toNat, by simp only; omega, by simp only; omega, ?_⟩
  rw [show (((fstAt (fun x => decide (x = key)) a.keys).toNat : Nat) : Int) = fstAt (fun x => decide (x = key)) a.keys by omega]
  simpa using h1
 ·rw [if_neg h]
  exact ⟨a.keys.length, rfl, by simp, giEnd⟩
theorem putT_pre (l : List Sg) (a : Kd) (t : Tm0) (limit : Int) : Pre a (putT l a t limit).1 := by
 unfold putT
 split
 ·exact .refl _
 split
 ·exact .refl _
 ·exact putK_pre a _
theorem putT_ok {l : List Sg} {a : Kd} {t : Tm0} {limit : Int} (h : (putT l a t limit).2.2 = 0) : mayBe l a.keys.length t = true ∧ putT l a t limit = ((putK a (keyT t)).1, (putK a (keyT t)).2.1, 0) := by
 unfold putT at h ⊢
 by_cases h1 : mayBe l a.keys.length t = false
 ·rw [if_pos h1] at h; simp at h
 rw [if_neg h1] at h ⊢
 by_cases h2 : (putK a (keyT t)).2.2 = true ∧ limit ≤ a.keys.length
 ·rw [if_pos h2] at h; simp at h
 rw [if_neg h2]
 exact ⟨by simpa using h1, rfl⟩
theorem putT_at {l : List Sg} {a : Kd} {t : Tm0} {limit : Int} (h : (putT l a t limit).2.2 = 0) : ∃ n : Nat, (putT l a t limit).2.1 = n ∧ n < (putT l a t limit).1.keys.length ∧ termAt (putT l a t limit).1 (n : Int) = (t, true) := by
 obtain ⟨_, h2⟩ := putT_ok h
 obtain ⟨n, k1, k2, k3⟩ := putK_at a (keyT t)
 rw [h2]
 refine ⟨n, k1, k2, ?_⟩
 simp only
 rw [termAt_in (by omega) (by omega), k3, termOf_key]
theorem right_putK {l : List Sg} {a : Kd} {t : Tm0} (hs : storeRight l a = true) (hm : mayBe l a.keys.length t = true) : storeRight l (putK a (keyT t)).1 = true := by
 obtain ⟨h1, h2, h3⟩ := right_term hs
 have hh := right_put h1 (keyT t)
 have hp := putK_pre a (keyT t)
 have hl := hp.len
 unfold storeRight
 rw [Bool.and_eq_true, Bool.and_eq_true, decide_eq_true_eq, decide_eq_true_eq]
 refine ⟨⟨hh, by omega⟩, fun i hi => ?_⟩
 by_cases hia : i < a.keys.length
 ·have := h3 i hia
  unfold termOk at this ⊢
  rw [hp.term hia]
  exact this
 ·have hk := putK_len a (keyT t)
  have e : i = a.keys.length := by omega
  subst e
  have ht : termAt (putK a (keyT t)).1 (a.keys.length : Int) = (t, true) := by
   rw [termAt_in (by omega) (by omega)]
   have : gi (putK a (keyT t)).1.keys (a.keys.length : Int) = keyT t := by
    unfold putK at hi ⊢
    by_cases h : 0 ≤ fstAt (fun x => decide (x = keyT t)) a.keys
    ·rw [if_pos h] at hi; exact absurd hi (Nat.lt_irrefl _)
    ·rw [if_neg h]; exact giEnd
   rw [this, termOf_key]
  unfold termOk
  rw [ht]
  exact ⟨rfl, hm, fun h => by omega⟩
theorem right_putT {l : List Sg} {a : Kd} (hs : storeRight l a = true) (t : Tm0) (limit : Int) : storeRight l (putT l a t limit).1 = true := by
 unfold putT
 by_cases h1 : mayBe l a.keys.length t = false
 ·rw [if_pos h1]; exact hs
 rw [if_neg h1]
 by_cases h2 : (putK a (keyT t)).2.2 = true ∧ limit ≤ a.keys.length
 ·rw [if_pos h2]; exact hs
 rw [if_neg h2]
 exact right_putK hs (by simpa using h1)
/-! ### Terms whose variables all have names -/
def Nmd (l : List Sg) (a : Kd) (names : List ByteArray) (n : Nat) : Prop := ∀ x, Rch a n x → unnamed l a names x = false
theorem rch_step {a : Kd} {n m : Nat} (hm : (m : Int) ∈ (termAt a n).1.args) {y : Int} (h : Rch a m y) : Rch a n y := by
 induction h with
 | self => exact .arg .self hm
 | arg _ hx ih => exact .arg ih hx
theorem rch_cases {a : Kd} (ha : argsIn a) {n : Nat} (hn : n < a.keys.length) {y : Int} (h : Rch a n y) : y = n ∨ ∃ m : Nat, (m : Int) ∈ (termAt a n).1.args ∧ Rch a m y := by
 induction h with
 | self => exact .inl rfl
 | arg hz hx ih =>
  rename_i z x
  rcases ih with rfl | ⟨m, h1, h2⟩
  ·have := ha n hn x hx
   obtain ⟨m, rfl⟩ : ∃ m : Nat, x = m := ⟨x.toNat, by omega⟩
   exact .inr ⟨m, hx, .self⟩
  ·exact .inr ⟨m, h1, .arg h2 hx⟩
theorem Nmd.args {l : List Sg} {a : Kd} {names : List ByteArray} {n m : Nat} (h : Nmd l a names n) (hm : (m : Int) ∈ (termAt a n).1.args) : Nmd l a names m := fun x hx => h x (rch_step hm hx)
theorem Nmd.mk {l : List Sg} {a : Kd} {names : List ByteArray} {n : Nat} (ha : argsIn a) (hn : n < a.keys.length) (h0 : unnamed l a names n = false) (h : ∀ m : Nat, (m : Int) ∈ (termAt a n).1.args → Nmd l a names m) : Nmd l a names n := fun x hx => by
 rcases rch_cases ha hn hx with rfl | ⟨m, h1, h2⟩
 ·exact h0
 ·exact h m h1 x h2
theorem ndT_more {l : List Sg} {names ns : List ByteArray} {t : Tm0} (hf : t.kind = 2 → 0 ≤ t.sym) (h : (ndT l names t).2 = true) : ndT l (names ++ ns) t = ndT l names t := by
 unfold ndT at h ⊢
 by_cases k : t.kind = 2
 ·simp only [if_pos k] at h ⊢
  by_cases hn : (names.length : Int) ≤ t.sym
  ·rw [if_pos hn] at h; simp at h
  ·have := hf k
   obtain ⟨n, hn2⟩ : ∃ n : Nat, t.sym = n := ⟨t.sym.toNat, by omega⟩
   rw [if_neg hn, if_neg (by rw [List.length_append]; omega), hn2, giApp (by omega)]
 ·simp only [if_neg k]
theorem tree_more {l : List Sg} {a b : Kd} {names ns : List ByteArray} (hp : Pre a b) (ha : SF l a) (hb : SF l b) : ∀ n : Nat, n < a.keys.length → Nmd l a names n → treeN l b (names ++ ns) n = treeN l a names n ∧ Nmd l b (names ++ ns) n := by
 intro n
 induction n using Nat.strongRecOn with
 | _ n ih =>
  intro hn hN
  have hl := hp.len
  have ht := hp.term hn
  have h0 := hN n .self
  have hnd : ndT l (names ++ ns) (termAt a n).1 = ndT l names (termAt a n).1 := ndT_more (ha.fit n hn).2.1.1 (by simpa [unnamed] using h0)
  have hin := ha.ain n hn
  have key : ∀ m : Nat, (m : Int) ∈ (termAt a n).1.args → treeN l b (names ++ ns) m = treeN l a names m ∧ Nmd l b (names ++ ns) m := fun m hm => by
   have := hin m hm
   exact ih m (by omega) (by omega) (hN.args hm)
  constructor
  ·rw [treeN_eq hb.ain (by omega), treeN_eq ha.ain hn, ht, hnd]
   congr 1
   refine flatMap_cong fun x hx => ?_
   have := hin x hx
   obtain ⟨m, rfl⟩ : ∃ m : Nat, x = m := ⟨x.toNat, by omega⟩
   exact (key m hx).1
  ·refine Nmd.mk hb.ain (by omega) ?_ (fun m hm => ?_)
   ·unfold unnamed at h0 ⊢
    rw [ht, hnd]
    exact h0
   ·rw [ht] at hm
    exact (key m hm).2
end Go.AM

namespace Go.AM
open Go.Proofs
set_option maxRecDepth 100000
set_option linter.unusedVariables false
set_option linter.unusedSimpArgs false
attribute [local go_sem] Function.comp_def argsT Opd.ev Tm.get put ares mapMo ares1 snilP bldParts bslParts putAt AV.cells AV.one astore aload loadCs callArgs abin abinInt aapp elems appMore appNone preLen aFa aFld apart aExt aPick aNot aLens aEqa cellsK fitsA LK.fitsA leavesA leafA nilD aNilc aCint aCid alive alen alenOk Rle lePs len_flat
/-! ### Loading, step by step -/
def Al {α β : Type} (R : α → β → Prop) : List α → List β → Prop
 | [], [] => True
 | x :: l, y :: m => R x y ∧ Al R l m
 | _, _ => False
theorem Al.len {α β : Type} {R : α → β → Prop} : ∀ {l : List α} {m : List β}, Al R l m → l.length = m.length
 | [], [], _ => rfl
 | x :: l, y :: m, h => by simp [Al.len h.2]
 | [], y :: m, h => h.elim
 | x :: l, [], h => h.elim
theorem Al.mono {α β : Type} {R S : α → β → Prop} (hR : ∀ x y, R x y → S x y) : ∀ {l : List α} {m : List β}, Al R l m → Al S l m
 | [], [], _ => trivial
 | x :: l, y :: m, h => ⟨hR _ _ h.1, Al.mono hR h.2⟩
 | [], y :: m, h => h.elim
 | x :: l, [], h => h.elim
theorem Al.take {α β : Type} {R : α → β → Prop} : ∀ (p : Nat) {l : List α} {m : List β}, Al R l m → Al R (l.take p) (m.take p)
 | 0, l, m, h => by simp [Al]
 | p + 1, [], [], _ => by simp [Al]
 | p + 1, x :: l, y :: m, h => ⟨h.1, Al.take p h.2⟩
 | p + 1, [], y :: m, h => h.elim
 | p + 1, x :: l, [], h => h.elim
theorem Al.drop {α β : Type} {R : α → β → Prop} : ∀ (p : Nat) {l : List α} {m : List β}, Al R l m → Al R (l.drop p) (m.drop p)
 | 0, l, m, h => by simpa using h
 | p + 1, [], [], _ => by simp [Al]
 | p + 1, x :: l, y :: m, h => by simpa using Al.drop p h.2
 | p + 1, [], y :: m, h => h.elim
 | p + 1, x :: l, [], h => h.elim
theorem Al.left {α β : Type} {R : α → β → Prop} : ∀ {l : List α} {m : List β}, Al R l m → ∀ x ∈ l, ∃ y ∈ m, R x y
 | x :: l, y :: m, h, z, hz => by
  rcases List.mem_cons.1 hz with rfl | hz
  ·exact ⟨y, by simp, h.1⟩
  ·obtain ⟨w, h1, h2⟩ := Al.left h.2 z hz
   exact ⟨w, by simp [h1], h2⟩
 | [], y :: m, h, _, _ => h.elim
 | x :: l, [], h, _, _ => h.elim
def spanN (e : List Nd) (x : En) : List Nd := (e.take (x.r + 1)).drop x.s
theorem span_app {e : List Nd} {i j k : Nat} (h1 : i ≤ j) (h2 : j ≤ k) (hk : k ≤ e.length) : (e.take j).drop i ++ (e.take k).drop j = (e.take k).drop i := by
 have e1 : (e.take k).drop i = ((e.take k).take j ++ (e.take k).drop j).drop i := by rw [List.take_append_drop]
 rw [e1, List.drop_append_of_le_length (by simp; omega), List.take_take, Nat.min_eq_left h2]
theorem span_kids {e : List Nd} : ∀ {st : List En} {j : Nat} (p : Nat), chain j st → j ≤ e.length → p ≤ st.length → ((st.take p).reverse.flatMap (spanN e)) = (e.take j).drop (if p = 0 then j else (gi st ((p - 1 : Nat) : Int)).s)
 | st, j, 0, h, hj, _ => by simp
 | [], j, p + 1, h, hj, hp => by simp at hp
 | x :: st, j, p + 1, h, hj, hp => by
  obtain ⟨h1, h2, h3⟩ := h
  have hp' : p ≤ st.length := by simpa using hp
  have ih := span_kids (e := e) p h3 (by omega) hp'
  have hc := (chain_drop p h3 hp').2
  have e1 : (if p + 1 = 0 then j else (gi (x :: st) ((p + 1 - 1 : Nat) : Int)).s) = (if p = 0 then x.s else (gi st ((p - 1 : Nat) : Int)).s) := by
   cases p with
   | zero => simp [gi]
   | succ p => simp [gi]
  rw [e1, List.take_succ_cons, List.reverse_cons, List.flatMap_append, ih]
  simp only [List.flatMap_cons, List.flatMap_nil, List.append_nil, spanN]
  rw [h1, span_app hc (by omega) hj]
/-- The state behind so many nodes. -/
def stN (l : List Sg) (limit : Int) (s0 : Ls) (e : List Nd) : Nat → Ls
 | 0 => s0
 | i + 1 => stepL l limit (stN l limit s0 e i) (gi e i)
def okN (l : List Sg) (limit : Int) (s0 : Ls) (e : List Nd) (i : Nat) : Prop := ∀ j : Nat, j < i → (putL l limit (stN l limit s0 e j) (gi e j)).2.2 = 0
theorem run_ok {l : List Sg} {limit : Int} {s0 : Ls} {e : List Nd} (h : (runL l limit s0 e).2 = 0) : ∀ i, i ≤ e.length → okN l limit s0 e i ∧ runL l limit s0 e = runL l limit (stN l limit s0 e i) (e.drop i)
 | 0, _ => ⟨fun j hj => by omega, rfl⟩
 | i + 1, hi => by
  obtain ⟨h1, h2⟩ := run_ok h i (by omega)
  have h3 := h
  rw [h2, runL_next (by omega)] at h3
  by_cases hz : (putL l limit (stN l limit s0 e i) (gi e i)).2.2 = 0
  ·refine ⟨all_next h1 hz, ?_⟩
   rw [h2, runL_next (by omega), if_pos hz]
   rfl
  ·rw [if_neg hz] at h3
   exact absurd h3 hz
theorem run_end {l : List Sg} {limit : Int} {s0 : Ls} {e : List Nd} (h : (runL l limit s0 e).2 = 0) : okN l limit s0 e e.length ∧ runL l limit s0 e = (stN l limit s0 e e.length, 0) := by
 obtain ⟨h1, h2⟩ := run_ok h e.length (Nat.le_refl _)
 rw [List.drop_length, runL] at h2
 exact ⟨h1, h2⟩
theorem run_of {l : List Sg} {limit : Int} {s0 : Ls} {e : List Nd} (h : okN l limit s0 e e.length) : ∀ i, i ≤ e.length → runL l limit s0 e = runL l limit (stN l limit s0 e i) (e.drop i)
 | 0, _ => rfl
 | i + 1, hi => by
  rw [run_of h i (by omega), runL_next (by omega), if_pos (h i (by omega))]
  rfl
end Go.AM

namespace Go.AM
open Go.Proofs
set_option maxRecDepth 100000
set_option linter.unusedVariables false
set_option linter.unusedSimpArgs false
attribute [local go_sem] Function.comp_def argsT Opd.ev Tm.get put ares mapMo ares1 snilP bldParts bslParts putAt AV.cells AV.one astore aload loadCs callArgs abin abinInt aapp elems appMore appNone preLen aFa aFld apart aExt aPick aNot aLens aEqa cellsK fitsA LK.fitsA leavesA leafA nilD aNilc aCint aCid alive alen alenOk Rle lePs len_flat
/-! ### A loaded term is its nodes -/
theorem nd_ext {x y : Nd} (h1 : x.kind = y.kind) (h2 : x.name = y.name) (h3 : x.n = y.n) : x = y := by
 cases x
 cases y
 simp only at h1 h2 h3
 subst h1 h2 h3
 rfl
theorem node_ok {l : List Sg} {own : List ByteArray} {n : Nd} {A : List Int} {many : Int} (hm : mayBe l many (termL l own A n) = true) (hx : ndMay n = true) (hA : A.length = pN n) : ndT l (ownL own n) (termL l own A n) = (n, true) := by
 have hk := mayKind hx
 have hN := mayN hx
 have hmk := mayBe_kind hm
 have hAn : (A.length : Int) = partsN n := by unfold pN at hA; omega
 have hkk : n.kind = 2 ∨ n.kind = 3 ∨ n.kind = 6 ∨ (n.kind = 0 ∨ n.kind = 1 ∨ n.kind = 4 ∨ n.kind = 5) := by omega
 unfold ndMay at hx
 unfold partsN at hAn
 rcases hkk with k | k | k | k
 ·have h0 := hN.2.2.2 (by omega)
  rw [if_neg (by omega), h0] at hAn
  by_cases hi : ixN own n.name < 0
  ·have e1 : termL l own A n = ⟨2, own.length, 0, A⟩ := by simp [termL, k, hi]
   have e2 : ownL own n = own ++ [n.name] := by simp [ownL, k, hi]
   rw [e1, e2]
   unfold ndT
   rw [if_pos rfl, if_neg (by simp only [List.length_append, List.length_singleton]; omega)]
   simp only [giEnd]
   exact Prod.ext (nd_ext k.symm rfl (by simp only; omega)) rfl
  ·have e1 : termL l own A n = ⟨2, ixN own n.name, 0, A⟩ := by simp [termL, k, hi]
   have e2 : ownL own n = own := by simp [ownL, hi]
   have h1 := fst_at (p := fun x => decide (x = n.name)) (l := own) (by unfold ixN at hi; omega)
   have h2 := fst_lt (p := fun x => decide (x = n.name)) (l := own)
   rw [e1, e2]
   unfold ndT
   unfold ixN
   rw [if_pos rfl, if_neg (by simp only; omega)]
   refine Prod.ext (nd_ext k.symm (by simpa using h1) (by simp only; omega)) rfl
 ·have e1 : termL l own A n = ⟨3, fstAt (fun s => decide (s.name = n.name)) l, 0, A⟩ := by simp [termL, k]
  rw [e1] at hmk ⊢
  simp at hmk
  have h1 := fst_at (p := fun s : Sg => decide (s.name = n.name)) (l := l) hmk.1.1
  rw [if_neg (by omega)] at hAn
  unfold ndT
  simp only [if_neg (show ¬ (3 : Int) = 2 by omega), if_true]
  exact Prod.ext (nd_ext k.symm (by simpa using h1) (by simp only; omega)) rfl
 ·have e1 : termL l own A n = ⟨6, fstAt (fun s => decide (s.name = n.name)) l, n.n - 1, A⟩ := by simp [termL, k]
  rw [e1] at hmk ⊢
  simp at hmk
  have h1 := fst_at (p := fun s : Sg => decide (s.name = n.name)) (l := l) hmk.1.1
  unfold ndT
  simp only [if_neg (show ¬ (6 : Int) = 2 by omega), if_neg (show ¬ (6 : Int) = 3 by omega), if_true]
  exact Prod.ext (nd_ext k.symm (by simpa using h1) (by simp only; omega)) rfl
 ·have e1 : termL l own A n = ⟨n.kind, 0, 0, A⟩ := by
   simp only [termL]
   rw [if_neg (by omega), if_neg (by omega), if_neg (by omega)]
  have hnm : n.name = ⟨#[]⟩ := by
   rcases k with k | k | k | k <;> simp [k] at hx <;> exact hx.1
  rw [if_neg (by omega)] at hAn
  rw [e1]
  unfold ndT
  simp only
  rw [if_neg (by omega), if_neg (by omega), if_neg (by omega)]
  exact Prod.ext (nd_ext rfl hnm.symm hAn) rfl
/-- What a number on the stack stands for. -/
def Rep (l : List Sg) (s : Ls) (e : List Nd) (id : Int) (x : En) : Prop := ∃ n : Nat, id = n ∧ n < s.b.keys.length ∧ treeN l s.b s.own n = spanN e x ∧ Nmd l s.b s.own n
structure LInv (l : List Sg) (s0 : Ls) (e : List Nd) (i : Nat) (s : Ls) : Prop where
 right : storeRight l s.b = true
 pre : Pre s0.b s.b
 own : ∃ ns, s.own = s0.own ++ ns
 al : Al (Rep l s e) s.st.reverse (stk e i)
 few : s.b.keys.length ≤ s0.b.keys.length + i
theorem LInv.step {l : List Sg} (hr : sigRight l = true) {s0 s : Ls} {e : List Nd} (he : ndsMay e) {i : Nat} (hi : i < e.length) (hb : s0.b.keys.length + e.length ≤ 1000000) {limit : Int} (h : LInv l s0 e i s) (hz : (putL l limit s (gi e i)).2.2 = 0) : LInv l s0 e (i + 1) (stepL l limit s (gi e i)) := by
 obtain ⟨h1, h2⟩ := he i hi
 have hN := mayN h1
 have hpl : pN (gi e i) ≤ (stk e i).length := by unfold pN; omega
 have hal := h.al.len
 rw [List.length_reverse] at hal
 have hr2 : storeRight l (stepL l limit s (gi e i)).b = true := right_putT h.right _ _
 have hp2 : Pre s.b (stepL l limit s (gi e i)).b := putT_pre _ _ _ _
 have hl2 := putT_len l s.b (termL l s.own (argL s.st (gi e i)) (gi e i)) limit
 have hfew := h.few
 have hl3 : (stepL l limit s (gi e i)).b.keys.length ≤ s.b.keys.length + 1 := hl2
 have hsf := sf_of hr h.right (by omega)
 have hsf2 := sf_of hr hr2 (by omega)
 have hown : ∃ ns, (stepL l limit s (gi e i)).own = s.own ++ ns := by
  show ∃ ns, ownL s.own (gi e i) = s.own ++ ns
  unfold ownL
  split
  ·exact ⟨_, rfl⟩
  ·exact ⟨[], by simp⟩
 have hrep : ∀ id x, Rep l s e id x → Rep l (stepL l limit s (gi e i)) e id x := by
  rintro id x ⟨n, rfl, k1, k2, k3⟩
  obtain ⟨ns, hns⟩ := hown
  have := tree_more (ns := ns) hp2 hsf hsf2 n k1 k3
  rw [← hns] at this
  exact ⟨n, rfl, by have := hp2.len; omega, by rw [this.1, k2], this.2⟩
 have hst : (stepL l limit s (gi e i)).st.reverse = (putL l limit s (gi e i)).2.1 :: s.st.reverse.drop (pN (gi e i)) := by
  show (s.st.take (s.st.length - pN (gi e i)) ++ [(putL l limit s (gi e i)).2.1]).reverse = _
  rw [List.reverse_append, List.reverse_take]
  rw [show s.st.length - (s.st.length - pN (gi e i)) = pN (gi e i) by omega]
  rfl
 refine ⟨hr2, h.pre.trans hp2, ?_, ?_, by omega⟩
 ·obtain ⟨ns, h3⟩ := hown
  obtain ⟨ms, h4⟩ := h.own
  exact ⟨ms ++ ns, by rw [h3, h4, List.append_assoc]⟩
 rw [hst, stk]
 refine ⟨?_, (h.al.drop _).mono hrep⟩
 obtain ⟨n, k1, k2, k3⟩ := putT_at hz
 have hmb := (putT_ok hz).1
 have hA : argL s.st (gi e i) = (s.st.reverse.take (pN (gi e i))).reverse := by
  unfold argL
  rw [List.take_reverse, List.reverse_reverse]
 have hAl : (argL s.st (gi e i)).length = pN (gi e i) := by
  rw [hA, List.length_reverse, List.length_take, List.length_reverse]
  omega
 have hnd := node_ok hmb h1 hAl
 have hkid := (h.al.take (pN (gi e i))).mono hrep
 have harg : ∀ x ∈ argL s.st (gi e i), ∃ y : En, Rep l (stepL l limit s (gi e i)) e x y := fun x hx => by
  rw [hA, List.mem_reverse] at hx
  obtain ⟨y, _, hy⟩ := hkid.left x hx
  exact ⟨y, hy⟩
 have hch := stk_chain e i (fun j hj => by
  obtain ⟨q1, q2⟩ := he j (by omega)
  have := (mayN q1).1
  exact ⟨this, by unfold pN; omega⟩)
 have k2' : n < (stepL l limit s (gi e i)).b.keys.length := k2
 have k3' : termAt (stepL l limit s (gi e i)).b n = (termL l s.own (argL s.st (gi e i)) (gi e i), true) := k3
 have hta : (termL l s.own (argL s.st (gi e i)) (gi e i)).args = argL s.st (gi e i) := rfl
 have hnd' : ndT l (stepL l limit s (gi e i)).own (termL l s.own (argL s.st (gi e i)) (gi e i)) = (gi e i, true) := hnd
 have hfm : ∀ {A : List Int} {B : List En}, Al (Rep l (stepL l limit s (gi e i)) e) A B → A.reverse.flatMap (treeN l (stepL l limit s (gi e i)).b (stepL l limit s (gi e i)).own) = B.reverse.flatMap (spanN e) := by
  intro A
  induction A with
  | nil =>
   intro B hB
   cases B with
   | nil => rfl
   | cons _ _ => exact hB.elim
  | cons x A ih =>
   intro B hB
   cases B with
   | nil => exact hB.elim
   | cons y B =>
    obtain ⟨⟨m, rfl, _, q, _⟩, hB⟩ := hB
    rw [List.reverse_cons, List.flatMap_append, ih hB, List.reverse_cons, List.flatMap_append]
    simp only [List.flatMap_cons, List.flatMap_nil, List.append_nil, q]
 refine ⟨n, k1, k2', ?_, ?_⟩
 ·have hsp := span_kids (e := e) (pN (gi e i)) hch (by omega) hpl
  have hcd := (chain_drop (pN (gi e i)) hch hpl).2
  rw [treeN_eq hsf2.ain k2', k3', hta, hnd', hA, hfm (h.al.take (pN (gi e i))|>.mono hrep), hsp]
  show _ = (e.take (i + 1)).drop (if pN (gi e i) = 0 then i else (gi (stk e i) ((pN (gi e i) - 1 : Nat) : Int)).s)
  rw [List.take_succ_eq_append_getElem hi, List.drop_append_of_le_length (by simp; omega)]
  simp [gi, List.getD, hi]
 ·refine Nmd.mk hsf2.ain k2' ?_ (fun m hm => ?_)
  ·unfold unnamed
   rw [k3', hnd']
   rfl
  ·rw [k3', hta] at hm
   obtain ⟨y, q, hq, _, _, q2⟩ := harg _ hm
   have : m = q := by omega
   subst this
   exact q2
theorem LInv.all {l : List Sg} (hr : sigRight l = true) {s0 : Ls} (h0 : storeRight l s0.b = true) (hst : s0.st = []) {e : List Nd} (he : ndsMay e) (hb : s0.b.keys.length + e.length ≤ 1000000) {limit : Int} : ∀ i, i ≤ e.length → okN l limit s0 e i → LInv l s0 e i (stN l limit s0 e i)
 | 0, _, _ => ⟨h0, .refl _, ⟨[], by simp [stN]⟩, by simp [stN, hst, stk, Al], by simp [stN]⟩
 | i + 1, hi, ho => (LInv.all hr h0 hst he hb i (by omega) (fun j hj => ho j (by omega))).step hr he (by omega) hb (ho i (by omega))
end Go.AM

namespace Go.AM
open Go.Proofs
set_option maxRecDepth 100000
set_option linter.unusedVariables false
set_option linter.unusedSimpArgs false
attribute [local go_sem] Function.comp_def argsT Opd.ev Tm.get put ares mapMo ares1 snilP bldParts bslParts putAt AV.cells AV.one astore aload loadCs callArgs abin abinInt aapp elems appMore appNone preLen aFa aFld apart aExt aPick aNot aLens aEqa cellsK fitsA LK.fitsA leavesA leafA nilD aNilc aCint aCid alive alen alenOk Rle lePs len_flat
/-! ### load.Load's laws -/
theorem right_good {e : List Nd} (he : ndsMay e) : goodN e e.length := fun j hj => by
 obtain ⟨q1, q2⟩ := he j hj
 have := (mayN q1).1
 exact ⟨this, by unfold pN; omega⟩
theorem loadP_ok {l : List Sg} {a : Kd} {names : List ByteArray} {e : List Nd} {limit : Int} (h : (loadP l a names e limit).2.2.2 = 0) : okN l limit ⟨a, names, []⟩ e e.length ∧ loadP l a names e limit = ((stN l limit ⟨a, names, []⟩ e e.length).b, (stN l limit ⟨a, names, []⟩ e e.length).own, gi (stN l limit ⟨a, names, []⟩ e e.length).st 0, 0) := by
 unfold loadP at h ⊢
 by_cases hz : (runL l limit ⟨a, names, []⟩ e).2 = 0
 ·obtain ⟨h1, h2⟩ := run_end hz
  rw [if_pos hz, h2]
  exact ⟨h1, rfl⟩
 ·rw [if_neg hz] at h
  exact absurd h hz
theorem loadP_bad {l : List Sg} {a : Kd} {names : List ByteArray} {e : List Nd} {limit : Int} (h : (loadP l a names e limit).2.2.2 ≠ 0) : loadP l a names e limit = (a, names, 0, (loadP l a names e limit).2.2.2) := by
 unfold loadP at h ⊢
 by_cases hz : (runL l limit ⟨a, names, []⟩ e).2 = 0
 ·rw [if_pos hz] at h
  exact absurd rfl h
 ·rw [if_neg hz]
theorem load_ok {l : List Sg} {a : Kd} {names : List ByteArray} {e : List Nd} {limit : Int} (hr : sigRight l = true) (hs : storeRight l a = true) (hR : rightN e = true) (hb : a.keys.length + e.length ≤ 1000000) (h : (loadP l a names e limit).2.2.2 = 0) :
  ∃ n : Nat, loadP l a names e limit = ((stN l limit ⟨a, names, []⟩ e e.length).b, (stN l limit ⟨a, names, []⟩ e e.length).own, (n : Int), 0) ∧ okN l limit ⟨a, names, []⟩ e e.length ∧ LInv l ⟨a, names, []⟩ e e.length (stN l limit ⟨a, names, []⟩ e e.length) ∧ (stN l limit ⟨a, names, []⟩ e e.length).st = [(n : Int)] ∧ n < (stN l limit ⟨a, names, []⟩ e e.length).b.keys.length ∧ treeN l (stN l limit ⟨a, names, []⟩ e e.length).b (stN l limit ⟨a, names, []⟩ e e.length).own n = e ∧ Nmd l (stN l limit ⟨a, names, []⟩ e e.length).b (stN l limit ⟨a, names, []⟩ e e.length).own n := by
 obtain ⟨h1, h2⟩ := loadP_ok h
 obtain ⟨k1, k2, k3, k4⟩ := rightN_spec hR
 have hI := LInv.all hr (s0 := ⟨a, names, []⟩) hs rfl k1 hb (limit := limit) e.length (Nat.le_refl _) h1
 generalize stN l limit ⟨a, names, []⟩ e e.length = s at *
 have hch := stk_chain e e.length (right_good k1)
 have hal := hI.al
 obtain ⟨x, hx⟩ : ∃ x, stk e e.length = [x] := List.length_eq_one_iff.1 k2
 rw [hx] at hch hal
 have hl := hal.len
 rw [List.length_reverse] at hl
 obtain ⟨id, hid⟩ : ∃ id, s.st = [id] := List.length_eq_one_iff.1 hl
 rw [hid] at hal
 obtain ⟨⟨n, rfl, q1, q2, q3⟩, _⟩ := hal
 obtain ⟨c1, c2, c3⟩ := hch
 have c3 : x.s = 0 := c3
 refine ⟨n, by rw [h2, hid]; rfl, h1, hI, hid, q1, ?_, q3⟩
 rw [q2]
 unfold spanN
 rw [c1, c3, List.take_length, List.drop_zero]
theorem nodes_back {l : List Sg} {b : Kd} {own : List ByteArray} {e : List Nd} {n : Nat} (hsf : SF l b) (hn : n < b.keys.length) (ht : treeN l b own n = e) (hN : Nmd l b own n) (hR : rightN e = true) (h3 : e.length ≤ 300) : nodesP l b own n = (e, 0) := by
 unfold nodesP
 rw [if_neg (by omega), if_neg, ht, if_neg (by omega), if_neg (by simp [hR])]
 rintro ⟨k, h1, h2⟩
 have := (mem_belowP hsf.ain h1).2.2.2.2
 rw [Int.toNat_natCast] at this
 rw [hN k this] at h2
 cases h2
theorem text_back {l : List Sg} {b : Kd} {own : List ByteArray} {e : List Nd} {n : Nat} (hsf : SF l b) (hn : n < b.keys.length) (ht : treeN l b own n = e) (hN : Nmd l b own n) (hR : rightN e = true) (h3 : e.length ≤ 300) : textP l b own n = (enN e (e.length - 1)).t := by
 unfold textP
 rw [nodes_back hsf hn ht hN hR h3]
 rfl
/-! ### Loaded again -/
theorem mayBe_more {l : List Sg} {m m' : Int} (hm : m ≤ m') {t : Tm0} (h : mayBe l m t = true) : mayBe l m' t = true := by
 unfold mayBe at h ⊢
 rw [Bool.and_eq_true, decide_eq_true_eq] at h ⊢
 exact ⟨fun i hi => by have := h.1 i hi; omega, h.2⟩
theorem putT_have {l : List Sg} {c : Kd} (hh : hashRight c = true) {t : Tm0} {n : Nat} (hn : n < c.keys.length) (hk : gi c.keys (n : Int) = keyT t) (hm : mayBe l c.keys.length t = true) (limit : Int) : putT l c t limit = (c, (n : Int), 0) := by
 unfold hashRight at hh
 rw [Bool.and_eq_true, decide_eq_true_eq] at hh
 have h1 := hh.1 n hn
 rw [hk] at h1
 have hp : putK c (keyT t) = (c, (n : Int), false) := by
  unfold putK
  rw [h1, if_pos (by omega)]
 unfold putT
 rw [hp, hm]
 simp
theorem putT_key {l : List Sg} {a : Kd} {t : Tm0} {limit : Int} (h : (putT l a t limit).2.2 = 0) : ∃ n : Nat, (putT l a t limit).2.1 = n ∧ n < (putT l a t limit).1.keys.length ∧ gi (putT l a t limit).1.keys (n : Int) = keyT t := by
 obtain ⟨_, h2⟩ := putT_ok h
 rw [h2]
 exact putK_at a (keyT t)
theorem own_again {own ns : List ByteArray} {n : Nd} (hk : n.kind = 2) : ixN (ownL own n ++ ns) n.name = if ixN own n.name < 0 then (own.length : Int) else ixN own n.name := by
 by_cases hi : ixN own n.name < 0
 ·have e2 : ownL own n = own ++ [n.name] := by simp [ownL, hk, hi]
  rw [if_pos hi, e2]
  unfold ixN at hi ⊢
  have h1 := fst_end (p := fun x => decide (x = n.name)) (l := own) (x := n.name) hi (by simp)
  rw [fst_app (by omega), h1]
 ·have e2 : ownL own n = own := by simp [ownL, hi]
  rw [if_neg hi, e2]
  unfold ixN at hi ⊢
  rw [fst_app (by omega)]
theorem term_again {l : List Sg} {own ns : List ByteArray} {A : List Int} {n : Nd} : termL l (ownL own n ++ ns) A n = termL l own A n ∧ ownL (ownL own n ++ ns) n = ownL own n ++ ns := by
 by_cases hk : n.kind = 2
 ·have h1 := own_again (own := own) (ns := ns) hk
  have h0 : ¬ ixN (ownL own n ++ ns) n.name < 0 := by
   rw [h1]
   split <;> omega
  refine ⟨?_, ?_⟩
  ·unfold termL
   rw [if_neg h0, h1]
  ·show (if n.kind = 2 ∧ ixN (ownL own n ++ ns) n.name < 0 then _ else _) = _
   rw [if_neg (fun h => h0 h.2)]
 ·unfold termL ownL
  simp [hk]
theorem stN_own {l : List Sg} {limit : Int} {s0 : Ls} {e : List Nd} : ∀ i j, i ≤ j → ∃ ns, (stN l limit s0 e j).own = (stN l limit s0 e i).own ++ ns
 | i, 0, h => by
  have : i = 0 := by omega
  subst this
  exact ⟨[], by simp⟩
 | i, j + 1, h => by
  by_cases e1 : i = j + 1
  ·subst e1; exact ⟨[], by simp⟩
  ·obtain ⟨ns, h1⟩ := stN_own (l := l) (limit := limit) (s0 := s0) (e := e) i j (by omega)
   show ∃ ns, ownL (stN l limit s0 e j).own (gi e j) = _
   unfold ownL
   split
   ·exact ⟨ns ++ [(gi e j).name], by rw [h1, List.append_assoc]⟩
   ·exact ⟨ns, h1⟩
theorem stN_pre {l : List Sg} {limit : Int} {s0 : Ls} {e : List Nd} : ∀ i j, i ≤ j → Pre (stN l limit s0 e i).b (stN l limit s0 e j).b
 | i, 0, h => by
  have : i = 0 := by omega
  subst this
  exact .refl _
 | i, j + 1, h => by
  by_cases e1 : i = j + 1
  ·subst e1; exact .refl _
  ·exact (stN_pre i j (by omega)).trans (putT_pre _ _ _ _)
theorem reload {l : List Sg} {limit limit2 : Int} {s0 : Ls} {e : List Nd} {c : Kd} {own2 : List ByteArray} (ho : okN l limit s0 e e.length) (h0 : s0.st = []) (hp : Pre (stN l limit s0 e e.length).b c) (hn : ∃ ns, own2 = (stN l limit s0 e e.length).own ++ ns) (hh : hashRight c = true) :
  ∀ i, i ≤ e.length → okN l limit2 ⟨c, own2, []⟩ e i ∧ stN l limit2 ⟨c, own2, []⟩ e i = ⟨c, own2, (stN l limit s0 e i).st⟩
 | 0, _ => ⟨fun j hj => by omega, by simp [stN, h0]⟩
 | i + 1, hi => by
  obtain ⟨h1, h2⟩ := reload ho h0 hp hn hh i (by omega) (limit2 := limit2)
  have hz := ho i (by omega)
  have hpre : Pre (putL l limit (stN l limit s0 e i) (gi e i)).1 c := (stN_pre (l := l) (limit := limit) (s0 := s0) (e := e) (i + 1) e.length hi).trans hp
  have how : ∃ ns, own2 = ownL (stN l limit s0 e i).own (gi e i) ++ ns := by
   obtain ⟨ns, q1⟩ := hn
   obtain ⟨ms, q2⟩ := stN_own (l := l) (limit := limit) (s0 := s0) (e := e) (i + 1) e.length hi
   have q3 : (stN l limit s0 e (i + 1)).own = ownL (stN l limit s0 e i).own (gi e i) := rfl
   exact ⟨ms ++ ns, by rw [q1, q2, q3, List.append_assoc]⟩
  generalize hs : stN l limit s0 e i = s at *
  obtain ⟨ns, rfl⟩ := how
  obtain ⟨n, k1, k2, k3⟩ := putT_key hz
  have hmb := (putT_ok hz).1
  have hl1 := (putT_pre l s.b (termL l s.own (argL s.st (gi e i)) (gi e i)) limit).len
  have hl2 := hpre.len
  have hput : putL l limit2 ⟨c, ownL s.own (gi e i) ++ ns, s.st⟩ (gi e i) = (c, (n : Int), 0) := by
   unfold putL
   simp only [term_again.1]
   refine putT_have hh (n := n) (by have := (show n < (putL l limit s (gi e i)).1.keys.length from k2); omega) ?_ (mayBe_more (by have : s.b.keys.length ≤ (putL l limit s (gi e i)).1.keys.length := hl1; omega) hmb) _
   rw [hpre.key k2]
   exact k3
  refine ⟨all_next h1 (by rw [h2, hput]), ?_⟩
  show stepL l limit2 (stN l limit2 ⟨c, ownL s.own (gi e i) ++ ns, []⟩ e i) (gi e i) = ⟨c, ownL s.own (gi e i) ++ ns, (stN l limit s0 e (i + 1)).st⟩
  rw [h2]
  unfold stepL
  simp only [hput, term_again.2]
  show _ = Ls.mk _ _ (stepL l limit (stN l limit s0 e i) (gi e i)).st
  rw [hs]
  unfold stepL
  simp only [Ls.mk.injEq, true_and]
  rw [show (putL l limit s (gi e i)).2.1 = (n : Int) from k1]
  exact ⟨(term_again (l := l) (A := [])).2, rfl⟩
end Go.AM

namespace Go.AM
open Go.Proofs
set_option maxRecDepth 100000
set_option linter.unusedVariables false
set_option linter.unusedSimpArgs false
attribute [local go_sem] Function.comp_def argsT Opd.ev Tm.get put ares mapMo ares1 snilP bldParts bslParts putAt AV.cells AV.one astore aload loadCs callArgs abin abinInt aapp elems appMore appNone preLen aFa aFld apart aExt aPick aNot aLens aEqa cellsK fitsA LK.fitsA leavesA leafA nilD aNilc aCint aCid alive alen alenOk Rle lePs len_flat
/-! ### The laws' own example -/
def l0 : List Sg := [⟨⟨#[99]⟩, ⟨#[43]⟩⟩]
def e0 : List Nd := [⟨2, ⟨#[88]⟩, 0⟩, ⟨3, ⟨#[99]⟩, 1⟩]
theorem sig0 : sigRight l0 = true := by decide
theorem new0 : storeRight l0 newK = true := by kernel_rfl
theorem load0 : (loadP l0 newK [] e0 9).2 = ([⟨#[88]⟩], 3, 0) := by kernel_rfl
theorem load0k : (loadP l0 newK [] e0 9).1.keys.length = 4 := by kernel_rfl
theorem may0 : ndsMay e0 := fun i hi => by
 have : i = 0 ∨ i = 1 := by simp [e0] at hi; omega
 rcases this with rfl | rfl
 ·exact ⟨by kernel_rfl, by decide⟩
 ·exact ⟨by kernel_rfl, by decide⟩
theorem stk0 : (stk e0 e0.length).length = 1 := by kernel_rfl
theorem dep0 : (enN e0 (e0.length - 1)).d ≤ 40 := by decide
theorem txt0 : (enN e0 (e0.length - 1)).t = ⟨#[99, 40, 88, 41]⟩ := by kernel_rfl
theorem right0 : rightN e0 = true := by
 unfold rightN
 simp only [Bool.and_eq_true, decide_eq_true_eq]
 exact ⟨may0, stk0, dep0⟩
theorem nm0 : namesOk [⟨#[88]⟩] = true := by kernel_rfl
theorem text0 : textP l0 (loadP l0 newK [] e0 9).1 [⟨#[88]⟩] 3 = ⟨#[99, 40, 88, 41]⟩ := by
 have h0 : (loadP l0 newK [] e0 9).2.2.2 = 0 := by rw [load0]
 obtain ⟨n, h1, _, hI, _, h3, h4, h5⟩ := load_ok sig0 new0 right0 (by decide) h0
 have h2 := load0
 rw [h1] at h2 ⊢
 simp only [Prod.mk.injEq] at h2
 have hn : (3 : Int) = (n : Int) := h2.2.1.symm
 rw [hn, ← h2.1]
 have hk : newK.keys.length = 2 := rfl
 have hf := hI.few
 have he : e0.length = 2 := rfl
 rw [text_back (sf_of sig0 hI.right (by simp only [hk] at hf; omega)) h3 h4 h5 right0 (by decide), txt0]
theorem c9_ok : cFn Tryz.prog an0 Tryz.f9 = some c9 := by kernel_rfl
theorem shown_PF : PF Tryz.prog 9 [] (.bool true) := by
 refine PFk 9 hm Tryz.func9 c9_ok (Nat.le_of_ble_eq_true rfl) (by simp) (by simp) ?_
 have hl := load_PF (l := l0) (a := newK) (e := e0) (right_term new0).1 (right_good may0) (fun j hj h => by have := (mayN (may0 j hj).1).2.2.1 h; omega) (by rw [stk0]; omega) (by decide) [] (by decide) 9
 have ht := text0
 have h2 := load0
 have hk := load0k
 have hs : storeRight l0 (loadP l0 newK [] e0 9).1 = true := by
  have h0 : (loadP l0 newK [] e0 9).2.2.2 = 0 := by rw [load0]
  obtain ⟨n, h1, _, hI, _⟩ := load_ok sig0 new0 right0 (by decide) h0
  rw [h1]
  exact hI.right
 generalize loadP l0 newK [] e0 9 = p at *
 obtain ⟨b, p2⟩ := p
 simp only at h2 hk hs ht
 subst h2
 have ht2 := text16_PF (sf_of sig0 hs (by omega)) [⟨#[88]⟩] 3
 rw [ht] at ht2
 have hn := named10_PF [⟨#[88]⟩]
 rw [nm0] at hn
 simp (maxSteps := 3000000) [go_sem,-List.length_flatten,-List.map_drop,-List.map_take, c9]
 refine PF.call rnew_PF 9 (by simp [lePs]) ?_
 simp (maxSteps := 3000000) [go_sem,-List.length_flatten,-List.map_drop,-List.map_take, Kc]
 refine PF.call hl 9 (by simp [lePs, l0, e0]) ?_
 have hgi : gi [(⟨#[88]⟩ : ByteArray)] 0 = ⟨#[88]⟩ := rfl
 simp (maxSteps := 3000000) [go_sem,-List.length_flatten,-List.map_drop,-List.map_take, Kc, hk, hgi]
 intro _ _
 refine PF.call ht2 9 (by simp [lePs, l0]) ?_
 simp (maxSteps := 3000000) [go_sem,-List.length_flatten,-List.map_drop,-List.map_take, Kc]
 refine PF.call hn 9 (by simp [lePs]) ?_
 simp (maxSteps := 3000000) [go_sem,-List.length_flatten,-List.map_drop,-List.map_take, Kc]
end Go.AM

namespace Go.AM
open Go.Proofs
set_option maxRecDepth 100000
set_option linter.unusedVariables false
set_option linter.unusedSimpArgs false
attribute [local go_sem] Function.comp_def argsT Opd.ev Tm.get put ares mapMo ares1 snilP bldParts bslParts putAt AV.cells AV.one astore aload loadCs callArgs abin abinInt aapp elems appMore appNone preLen aFa aFld apart aExt aPick aNot aLens aEqa cellsK fitsA LK.fitsA leavesA leafA nilD aNilc aCint aCid alive alen alenOk Rle lePs len_flat
def c4b : AFn := ⟨141, .seq (.reg false [⟨some 1, .box (.tmp 0), none⟩, ⟨some 2, .mov (.lit (.bool false)), none⟩]) (.seq (.reg false [⟨some 18, .fa 0 (.tmp 1), none⟩, ⟨some 19, .load 1 false (.tmp 18), none⟩, ⟨some 3, .mov (.tmp 19), none⟩]) (.seq (.reg false [⟨some 20, .fa 1 (.tmp 1), none⟩, ⟨some 21, .load 2 true (.tmp 20), none⟩, ⟨some 4, .alloc [.nilS, .nilS], none⟩, ⟨none, .store 2 (.tmp 4) (.tmp 21), none⟩]) (.seq (.reg false [⟨some 22, .fa 3 (.tmp 1), none⟩, ⟨some 23, .load 1 false (.tmp 22), none⟩, ⟨some 5, .mov (.tmp 23), none⟩]) (.seq (.reg false [⟨some 24, .fa 4 (.tmp 1), none⟩, ⟨some 25, .load 1 false (.tmp 24), none⟩, ⟨some 6, .mov (.tmp 25), none⟩]) (.seq (.reg false [⟨some 26, .call (.lit (.fn (.func 9) [] [])) [], none⟩, ⟨some 7, .mov (.tmp 26), none⟩]) (.seq (.seq (.reg false [⟨some 27, .mov (.tmp 3), none⟩, ⟨some 28, .load 2 true (.tmp 4), none⟩, ⟨some 29, .mov (.tmp 5), none⟩, ⟨some 30, .call (.lit (.fn (.func 12) [] [])) [.tmp 27, .tmp 28, .tmp 29], none⟩, ⟨some 31, .not (.tmp 30), none⟩, ⟨some 32, .mov (.tmp 31), none⟩, ⟨some 33, .mov (.tmp 6), some ((32, false))⟩, ⟨some 34, .call (.lit (.fn (.func 18) [] [])) [.tmp 33], some ((32, false))⟩, ⟨some 35, .not (.tmp 34), some ((32, false))⟩, ⟨some 36, .pick (.tmp 32) (.lit (.bool true)) (.tmp 35), none⟩, ⟨some 37, .mov (.tmp 36), none⟩, ⟨some 38, .mov (.tmp 6), some ((37, false))⟩, ⟨some 39, .call (.lit (.fn (.func 19) [] [])) [.tmp 38], some ((37, false))⟩, ⟨some 40, .not (.tmp 39), some ((37, false))⟩, ⟨some 41, .pick (.tmp 37) (.lit (.bool true)) (.tmp 40), none⟩, ⟨some 42, .mov (.tmp 41), none⟩, ⟨some 43, .mov (.tmp 6), some ((42, false))⟩, ⟨some 44, .len (.tmp 43), some ((42, false))⟩, ⟨some 45, .bin .gtr (.tmp 44) (.lit (.int .i64 300)), some ((42, false))⟩, ⟨some 46, .pick (.tmp 42) (.lit (.bool true)) (.tmp 45), none⟩]) (.cond (.tmp 46) (.seq (.reg false [⟨some 47, .mov (.tmp 7), none⟩, ⟨some 2, .mov (.tmp 47), none⟩]) .ret) .skip)) (.seq (.reg false [⟨some 49, .mov (.tmp 3), none⟩, ⟨some 50, .load 2 true (.tmp 4), none⟩, ⟨some 51, .mov (.tmp 5), none⟩, ⟨some 52, .mov (.tmp 6), none⟩, ⟨some 53, .call (.lit (.fn (.func 20) [] [])) [.tmp 49, .tmp 50, .tmp 51, .tmp 52, .lit (.int .i64 5000)], none⟩, ⟨some 48, .mov (.tmp 53), none⟩, ⟨some 54, .ext (.tmp 48) 0, none⟩, ⟨some 55, .ext (.tmp 48) 1, none⟩, ⟨some 56, .ext (.tmp 48) 2, none⟩, ⟨some 57, .ext (.tmp 48) 3, none⟩, ⟨some 8, .alloc [.nilS, .nilS], none⟩, ⟨none, .store 2 (.tmp 8) (.tmp 54), none⟩, ⟨some 9, .mov (.tmp 55), none⟩, ⟨some 10, .mov (.tmp 56), none⟩, ⟨some 11, .mov (.tmp 57), none⟩]) (.seq (.seq (.reg false [⟨some 58, .mov (.tmp 11), none⟩, ⟨some 59, .bin .neq (.tmp 58) (.lit (.int .i64 0)), none⟩]) (.cond (.tmp 59) (.seq (.reg false [⟨some 60, .mov (.tmp 7), none⟩, ⟨some 61, .mov (.tmp 60), none⟩, ⟨some 62, .load 2 true (.tmp 4), some ((61, true))⟩, ⟨some 63, .load 2 true (.tmp 8), some ((61, true))⟩, ⟨some 64, .call (.lit (.fn (.func 21) [] [])) [.tmp 62, .tmp 63], some ((61, true))⟩, ⟨some 65, .pick (.tmp 61) (.tmp 64) (.lit (.bool false)), none⟩, ⟨some 66, .mov (.tmp 65), none⟩, ⟨some 67, .mov (.tmp 9), some ((66, true))⟩, ⟨some 68, .mov (.tmp 5), some ((66, true))⟩, ⟨some 69, .call (.lit (.fn (.func 22) [] [])) [.tmp 67, .tmp 68], some ((66, true))⟩, ⟨some 70, .pick (.tmp 66) (.tmp 69) (.lit (.bool false)), none⟩, ⟨some 71, .mov (.tmp 70), none⟩, ⟨some 72, .mov (.tmp 10), some ((71, true))⟩, ⟨some 73, .bin .eql (.tmp 72) (.lit (.int .i64 0)), some ((71, true))⟩, ⟨some 74, .pick (.tmp 71) (.tmp 73) (.lit (.bool false)), none⟩, ⟨some 2, .mov (.tmp 74), none⟩]) .ret) .skip)) (.seq (.seq (.reg false [⟨some 75, .mov (.tmp 3), none⟩, ⟨some 76, .load 2 true (.tmp 8), none⟩, ⟨some 77, .call (.lit (.fn (.func 23) [] [])) [.tmp 75, .tmp 76], none⟩, ⟨some 78, .not (.tmp 77), none⟩, ⟨some 79, .mov (.tmp 78), none⟩, ⟨some 80, .mov (.tmp 9), some ((79, false))⟩, ⟨some 81, .call (.lit (.fn (.func 11) [] [])) [.tmp 80], some ((79, false))⟩, ⟨some 82, .not (.tmp 81), some ((79, false))⟩, ⟨some 83, .pick (.tmp 79) (.lit (.bool true)) (.tmp 82), none⟩]) (.cond (.tmp 83) (.seq (.reg false [⟨some 2, .mov (.lit (.bool false)), none⟩]) .ret) .skip)) (.seq (.reg false [⟨some 85, .mov (.tmp 3), none⟩, ⟨some 86, .load 2 true (.tmp 8), none⟩, ⟨some 87, .mov (.tmp 9), none⟩, ⟨some 88, .mov (.tmp 10), none⟩, ⟨some 89, .call (.lit (.fn (.func 13) [] [])) [.tmp 85, .tmp 86, .tmp 87, .tmp 88], none⟩, ⟨some 84, .mov (.tmp 89), none⟩, ⟨some 90, .ext (.tmp 84) 0, none⟩, ⟨some 91, .ext (.tmp 84) 1, none⟩, ⟨some 12, .mov (.tmp 90), none⟩, ⟨some 13, .mov (.tmp 91), none⟩]) (.seq (.reg false [⟨some 93, .mov (.tmp 3), none⟩, ⟨some 94, .load 2 true (.tmp 8), none⟩, ⟨some 95, .mov (.tmp 9), none⟩, ⟨some 96, .mov (.tmp 6), none⟩, ⟨some 97, .call (.lit (.fn (.func 20) [] [])) [.tmp 93, .tmp 94, .tmp 95, .tmp 96, .lit (.int .i64 0)], none⟩, ⟨some 92, .mov (.tmp 97), none⟩, ⟨some 98, .ext (.tmp 92) 0, none⟩, ⟨some 99, .ext (.tmp 92) 1, none⟩, ⟨some 100, .ext (.tmp 92) 2, none⟩, ⟨some 101, .ext (.tmp 92) 3, none⟩, ⟨some 14, .alloc [.nilS, .nilS], none⟩, ⟨none, .store 2 (.tmp 14) (.tmp 98), none⟩, ⟨some 15, .mov (.tmp 99), none⟩, ⟨some 16, .mov (.tmp 100), none⟩, ⟨some 17, .mov (.tmp 101), none⟩]) (.seq (.reg false [⟨some 102, .mov (.tmp 7), none⟩, ⟨some 103, .mov (.tmp 102), none⟩, ⟨some 104, .mov (.tmp 13), some ((103, true))⟩, ⟨some 105, .bin .eql (.tmp 104) (.lit (.int .i64 0)), some ((103, true))⟩, ⟨some 106, .pick (.tmp 103) (.tmp 105) (.lit (.bool false)), none⟩, ⟨some 107, .mov (.tmp 106), none⟩, ⟨some 108, .mov (.tmp 12), some ((107, true))⟩, ⟨some 109, .mov (.tmp 6), some ((107, true))⟩, ⟨some 110, .call (.lit (.fn (.func 15) [] [])) [.tmp 108, .tmp 109], some ((107, true))⟩, ⟨some 111, .pick (.tmp 107) (.tmp 110) (.lit (.bool false)), none⟩, ⟨some 112, .mov (.tmp 111), none⟩, ⟨some 113, .mov (.tmp 3), some ((112, true))⟩, ⟨some 114, .load 2 true (.tmp 8), some ((112, true))⟩, ⟨some 115, .mov (.tmp 9), some ((112, true))⟩, ⟨some 116, .mov (.tmp 10), some ((112, true))⟩, ⟨some 117, .call (.lit (.fn (.func 16) [] [])) [.tmp 113, .tmp 114, .tmp 115, .tmp 116], some ((112, true))⟩, ⟨some 118, .mov (.tmp 6), some ((112, true))⟩, ⟨some 119, .call (.lit (.fn (.func 24) [] [])) [.tmp 118], some ((112, true))⟩, ⟨some 120, .bin .eql (.tmp 117) (.tmp 119), some ((112, true))⟩, ⟨some 121, .pick (.tmp 112) (.tmp 120) (.lit (.bool false)), none⟩, ⟨some 122, .mov (.tmp 121), none⟩, ⟨some 123, .mov (.tmp 17), some ((122, true))⟩, ⟨some 124, .bin .eql (.tmp 123) (.lit (.int .i64 0)), some ((122, true))⟩, ⟨some 125, .pick (.tmp 122) (.tmp 124) (.lit (.bool false)), none⟩, ⟨some 126, .mov (.tmp 125), none⟩, ⟨some 127, .mov (.tmp 16), some ((126, true))⟩, ⟨some 128, .mov (.tmp 10), some ((126, true))⟩, ⟨some 129, .bin .eql (.tmp 127) (.tmp 128), some ((126, true))⟩, ⟨some 130, .pick (.tmp 126) (.tmp 129) (.lit (.bool false)), none⟩, ⟨some 131, .mov (.tmp 130), none⟩, ⟨some 132, .load 2 true (.tmp 8), some ((131, true))⟩, ⟨some 133, .load 2 true (.tmp 14), some ((131, true))⟩, ⟨some 134, .call (.lit (.fn (.func 21) [] [])) [.tmp 132, .tmp 133], some ((131, true))⟩, ⟨some 135, .pick (.tmp 131) (.tmp 134) (.lit (.bool false)), none⟩, ⟨some 136, .mov (.tmp 135), none⟩, ⟨some 137, .mov (.tmp 9), some ((136, true))⟩, ⟨some 138, .mov (.tmp 15), some ((136, true))⟩, ⟨some 139, .call (.lit (.fn (.func 22) [] [])) [.tmp 137, .tmp 138], some ((136, true))⟩, ⟨some 140, .pick (.tmp 136) (.tmp 139) (.lit (.bool false)), none⟩, ⟨some 2, .mov (.tmp 140), none⟩]) .ret)))))))))))), [.tmp 2]⟩
/-! ### LoadTells -/
theorem of_parts {l : List Sg} {a : Kd} {names : List ByteArray} (h : ofN l a names = true) : l.length ≤ 64 ∧ names.length ≤ 100 ∧ sigRight l = true ∧ few a = true ∧ storeRight l a = true ∧ namesOk names = true := by
 simpa [ofN] using h
theorem psum_keys : ∀ (ks : List (List Int)) (n : Nat), n + ks.length ≤ psum n ks
 | [], n => by simp [psum]
 | k :: ks, n => by
  have := psum_keys ks (n + 1 + k.length)
  simp only [psum, List.foldl_cons, List.length_cons] at this ⊢
  omega
theorem few_keys {a : Kd} (h : few a = true) : a.keys.length ≤ 2000 := by
 have h1 := of_decide_eq_true h
 have := psum_keys a.keys a.slots.length
 omega
end Go.AM

namespace Go.AM
open Go.Proofs
set_option maxRecDepth 100000
set_option linter.unusedVariables false
set_option linter.unusedSimpArgs false
attribute [local go_sem] Function.comp_def argsT Opd.ev Tm.get put ares mapMo ares1 snilP bldParts bslParts putAt AV.cells AV.one astore aload loadCs callArgs abin abinInt aapp elems appMore appNone preLen aFa aFld apart aExt aPick aNot aLens aEqa cellsK fitsA LK.fitsA leavesA leafA nilD aNilc aCint aCid alive alen alenOk Rle lePs len_flat
/-! ### What comes in -/
def tyStrs : Ty := .slice .str
def tyNds : Ty := .slice (.struct [.int .i64, .str, .int .i64])
def strsFit (l : List ByteArray) : Prop := l.length ≤ lim ∧ ∀ s ∈ l, s.size ≤ lim
def ndsFit (l : List Nd) : Prop := l.length ≤ lim ∧ ∀ x ∈ l, (Lit.int .i64 x.kind).wf = true ∧ x.name.size ≤ lim ∧ (Lit.int .i64 x.n).wf = true
theorem is_strs {cs : List AV} (h : tyStrs.is cs) : ∃ l : List ByteArray, cs = [strs l] ∧ strsFit l := by
 simp only [tyStrs, Ty.is] at h
 obtain ⟨e1, rfl, hl1, hs1⟩ := h
 obtain ⟨l, rfl, hl⟩ := is_rows (f := fun s : ByteArray => [AV.str s]) (p := fun s => s.size ≤ lim) (fun u hu => hu) hs1
 exact ⟨l, rfl, by simpa using hl1, hl⟩
theorem is_nds {cs : List AV} (h : tyNds.is cs) : ∃ l : List Nd, cs = [nds l] ∧ ndsFit l := by
 simp only [tyNds, Ty.is, Ty.isL] at h
 obtain ⟨e1, rfl, hl1, hs1⟩ := h
 obtain ⟨l, rfl, hl⟩ := is_rows (f := fun x : Nd => x.cs) (p := fun x => (Lit.int .i64 x.kind).wf = true ∧ x.name.size ≤ lim ∧ (Lit.int .i64 x.n).wf = true) (fun z hz => by
  obtain ⟨_, _, rfl, ⟨k, rfl, h1⟩, _, _, rfl, ⟨s, rfl, h2⟩, _, _, rfl, ⟨n, rfl, h3⟩, rfl⟩ := hz
  exact ⟨⟨k, s, n⟩, rfl, h1, h2, h3⟩) hs1
 exact ⟨l, rfl, by simpa using hl1, hl⟩
end Go.AM

namespace Go.AM
open Go.Proofs
set_option maxRecDepth 100000
set_option linter.unusedVariables false
set_option linter.unusedSimpArgs false
attribute [local go_sem] Function.comp_def argsT Opd.ev Tm.get put ares mapMo ares1 snilP bldParts bslParts putAt AV.cells AV.one astore aload loadCs callArgs abin abinInt aapp elems appMore appNone preLen aFa aFld apart aExt aPick aNot aLens aEqa cellsK fitsA LK.fitsA leavesA leafA nilD aNilc aCint aCid alive alen alenOk Rle lePs len_flat
/-! ### LoadBack -/
theorem key_len {l : List Sg} {a : Kd} (h : SF l a) (i : Nat) (hi : i < a.keys.length) : (gi a.keys (i : Int)).length ≤ maxA := by
 obtain ⟨h1, _, h3⟩ := h.fit i hi
 rw [termAt_in (by omega) (by omega)] at h1 h3
 unfold termOf at h1 h3
 split at h1
 ·simp at h1
 ·rename_i hn
  rw [if_neg hn] at h3
  simp only [List.length_drop] at h3
  unfold maxA
  omega
theorem named_app {own : List ByteArray} {s : ByteArray} (h : namesOk own = true) (hv : varOk s = true) (hf : fstAt (fun x => decide (x = s)) own < 0) : namesOk (own ++ [s]) = true := by
 unfold namesOk at h ⊢
 rw [decide_eq_true_eq] at h ⊢
 intro i hi
 rw [List.length_append, List.length_singleton] at hi
 by_cases hl : i < own.length
 ·obtain ⟨h1, h2⟩ := h i hl
  rw [giApp hl, fst_app (by omega)]
  exact ⟨h1, h2⟩
 ·have e : i = own.length := by omega
  subst e
  rw [giEnd, fst_end hf (by simp)]
  exact ⟨hv, rfl⟩
theorem own_named {own : List ByteArray} {n : Nd} (h : namesOk own = true) (hm : ndMay n = true) : namesOk (ownL own n) = true := by
 unfold ownL
 split
 ·rename_i hk
  refine named_app h ?_ hk.2
  unfold ndMay at hm
  rw [if_neg (by omega), if_pos hk.1, Bool.and_eq_true] at hm
  exact hm.1
 ·exact h
theorem stN_named {l : List Sg} {limit : Int} {s0 : Ls} {e : List Nd} (h : namesOk s0.own = true) (he : ndsMay e) : ∀ i, i ≤ e.length → namesOk (stN l limit s0 e i).own = true
 | 0, _ => h
 | i + 1, hi => own_named (stN_named h he i (by omega)) (he i (by omega)).1
theorem again_ok {l : List Sg} {limit limit2 : Int} {a c : Kd} {names own2 : List ByteArray} {e : List Nd} {n : Int} (ho : okN l limit ⟨a, names, []⟩ e e.length) (hp : Pre (stN l limit ⟨a, names, []⟩ e e.length).b c) (hn : ∃ ns, own2 = (stN l limit ⟨a, names, []⟩ e e.length).own ++ ns) (hh : hashRight c = true) (hst : (stN l limit ⟨a, names, []⟩ e e.length).st = [n]) : loadP l c own2 e limit2 = (c, own2, n, 0) := by
 obtain ⟨h1, h2⟩ := reload ho rfl hp hn hh e.length (Nat.le_refl _) (limit2 := limit2)
 have hr := run_of h1 e.length (Nat.le_refl _)
 rw [List.drop_length, runL, h2, hst] at hr
 unfold loadP
 rw [hr]
 rfl
/-- load.Load at a right expression. -/
theorem load_PF' {l : List Sg} {a : Kd} {e : List Nd} (hh : hashRight a = true) (hR : rightN e = true) (hka : a.keys.length + e.length ≤ 1000000) (names : List ByteArray) (hna : names.length + e.length ≤ 1000000) (limit : Int) :
  PF Tryz.prog 20 [sigs l, .agg a.cs, strs names, nds e, i64 limit] (.tuple [.agg (loadP l a names e limit).1.cs, strs (loadP l a names e limit).2.1, i64 (loadP l a names e limit).2.2.1, i64 (loadP l a names e limit).2.2.2]) := by
 obtain ⟨k1, k2, k3, k4⟩ := rightN_spec hR
 exact load_PF hh (right_good k1) (fun j hj h => by have := (mayN (k1 j hj).1).2.2.1 h; omega) (by omega) hka names hna limit
theorem c4_ok : cFn Tryz.prog an0 Tryz.f4 = some c4b := by kernel_rfl
theorem law4_PF (l : List Sg) (a : Kd) (names : List ByteArray) (e : List Nd) (hs : ∀ i : Nat, i < l.length → (gi l i).args.size ≤ maxA) (hk : a.keys.length ≤ 1048576) (hks : ∀ i : Nat, i < a.keys.length → (gi a.keys i).length ≤ maxA) (he : e.length ≤ 1048576) (hes : ∀ i : Nat, i < e.length → (gi e i).name.size ≤ maxA) : PF Tryz.prog 4 [.agg [sigs l, intss a.keys, ints a.slots, strs names, nds e]] (.bool true) := by
 refine PFk 9 hm Tryz.func4 c4_ok (Nat.le_of_ble_eq_true rfl) (by simp) (by simp) ?_
 simp (maxSteps := 3000000) [go_sem,-List.length_flatten,-List.map_drop,-List.map_take, c4b]
 refine PF.call shown_PF 9 (by simp [lePs]) ?_
 simp (maxSteps := 3000000) [go_sem,-List.length_flatten,-List.map_drop,-List.map_take, Kc]
 refine PF.call (of12_PF l a names hs hk hks) 9 (by simp [lePs]) ?_
 cases ho : ofN l a names with
 | false => simp (maxSteps := 3000000) [go_sem,-List.length_flatten,-List.map_drop,-List.map_take, Kc]
 | true =>
 simp (maxSteps := 3000000) [go_sem,-List.length_flatten,-List.map_drop,-List.map_take, Kc]
 refine PF.call (ndFew_PF e (by unfold maxA; omega) hes) 9 (by simp [lePs]) ?_
 cases hf : ndFew e with
 | false => simp (maxSteps := 3000000) [go_sem,-List.length_flatten,-List.map_drop,-List.map_take, Kc]
 | true =>
 simp (maxSteps := 3000000) [go_sem,-List.length_flatten,-List.map_drop,-List.map_take, Kc]
 refine PF.call (right19_PF e he) 9 (by simp [lePs]) ?_
 cases hR : rightN e with
 | false => simp (maxSteps := 3000000) [go_sem,-List.length_flatten,-List.map_drop,-List.map_take, Kc]
 | true =>
 by_cases h3 : e.length ≤ 300
 ·have h3' : ¬ (300 : Int) < e.length := by omega
  obtain ⟨_, o0, o1, o2, o3, o4⟩ := of_parts ho
  have hka := few_keys o2
  have hl := load_PF' (l := l) (right_term o3).1 hR (by omega) names (by omega) 5000
  obtain ⟨k1, k2, k3, k4⟩ := rightN_spec hR
  simp (maxSteps := 3000000) [go_sem,-List.length_flatten,-List.map_drop,-List.map_take, Kc, h3']
  intros
  refine PF.call hl 9 (by simp [lePs]) ?_
  by_cases hb : (loadP l a names e 5000).2.2.2 = 0
  ·obtain ⟨n, q1, q2, q3, q4, q5, q6, q7⟩ := load_ok o1 o3 hR (by omega) hb
   have hnm := stN_named (l := l) (limit := 5000) (s0 := ⟨a, names, []⟩) o4 k1 e.length (Nat.le_refl _)
   have hol : (stN l 5000 ⟨a, names, []⟩ e e.length).own.length ≤ 100 + e.length := by
    have : ∀ i, (stN l 5000 ⟨a, names, []⟩ e i).own.length ≤ names.length + i := by
     intro i
     induction i with
     | zero => simp [stN]
     | succ i ih =>
      have := ownL_len (stN l 5000 ⟨a, names, []⟩ e i).own (gi e i)
      show (ownL _ _).length ≤ _
      omega
    have := this e.length
    omega
   have hag : loadP l (stN l 5000 ⟨a, names, []⟩ e e.length).b (stN l 5000 ⟨a, names, []⟩ e e.length).own e 0 = ((stN l 5000 ⟨a, names, []⟩ e e.length).b, (stN l 5000 ⟨a, names, []⟩ e e.length).own, (n : Int), 0) := again_ok q2 (.refl _) ⟨[], by simp⟩ (right_term q3.right).1 q4
   have hfew := q3.few
   simp only at hfew
   clear hl q2
   rw [q1]
   generalize stN l 5000 ⟨a, names, []⟩ e e.length = s at *
   have hsf := sf_of o1 q3.right (by omega)
   have c1 := storeRight_PF l s.b (by omega) (key_len hsf)
   rw [q3.right] at c1
   have c2 := rnamed_PF s.own
   rw [hnm] at c2
   have c3 := nodes_PF hsf s.own n
   rw [nodes_back hsf q5 q6 q7 hR h3] at c3
   have c4 := load_PF' (l := l) (right_term q3.right).1 hR (by omega) s.own (by omega) 0
   rw [hag] at c4
   have c5 := text16_PF hsf s.own n
   rw [text_back hsf q5 q6 q7 hR h3] at c5
   have c6 := rtext_PF (shp_of (by omega) k1) k4
   simp (maxSteps := 3000000) [go_sem,-List.length_flatten,-List.map_drop,-List.map_take, Kc]
   refine PF.call c1 9 (by simp [lePs]) ?_
   simp (maxSteps := 3000000) [go_sem,-List.length_flatten,-List.map_drop,-List.map_take, Kc]
   refine PF.call c2 9 (by simp [lePs]) ?_
   simp (maxSteps := 3000000) [go_sem,-List.length_flatten,-List.map_drop,-List.map_take, Kc]
   refine PF.call c3 9 (by simp [lePs]) ?_
   simp (maxSteps := 3000000) [go_sem,-List.length_flatten,-List.map_drop,-List.map_take, Kc]
   refine PF.call c4 9 (by simp [lePs]) ?_
   simp (maxSteps := 3000000) [go_sem,-List.length_flatten,-List.map_drop,-List.map_take, Kc]
   refine PF.call (ndSame_PF e e) 9 (by simp [lePs]) ?_
   simp (maxSteps := 3000000) [go_sem,-List.length_flatten,-List.map_drop,-List.map_take, Kc]
   refine PF.call c5 9 (by simp [lePs]) ?_
   simp (maxSteps := 3000000) [go_sem,-List.length_flatten,-List.map_drop,-List.map_take, Kc]
   refine PF.call c6 9 (by simp [lePs]) ?_
   simp (maxSteps := 3000000) [go_sem,-List.length_flatten,-List.map_drop,-List.map_take, Kc]
   refine PF.call (same_PF s.b s.b) 9 (by simp [lePs]) ?_
   simp (maxSteps := 3000000) [go_sem,-List.length_flatten,-List.map_drop,-List.map_take, Kc]
   refine PF.call (texts_PF s.own s.own) 9 (by simp [lePs]) ?_
   simp (maxSteps := 3000000) [go_sem,-List.length_flatten,-List.map_drop,-List.map_take, Kc]
  ·have hq := loadP_bad hb
   generalize (loadP l a names e 5000).2.2.2 = bad at *
   rw [hq]
   simp (maxSteps := 3000000) [go_sem,-List.length_flatten,-List.map_drop,-List.map_take, Kc, hb]
   refine PF.call (same_PF a a) 9 (by simp [lePs]) ?_
   simp (maxSteps := 3000000) [go_sem,-List.length_flatten,-List.map_drop,-List.map_take, Kc]
   refine PF.call (texts_PF names names) 9 (by simp [lePs]) ?_
   simp (maxSteps := 3000000) [go_sem,-List.length_flatten,-List.map_drop,-List.map_take, Kc]
 ·have h3' : (300 : Int) < e.length := by omega
  simp (maxSteps := 3000000) [go_sem,-List.length_flatten,-List.map_drop,-List.map_take, Kc, h3']
end Go.AM
