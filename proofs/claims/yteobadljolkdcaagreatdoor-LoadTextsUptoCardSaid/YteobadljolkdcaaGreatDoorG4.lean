/- Contracts of the program's functions. -/
import Derived.Test.YteobadljolkdcaaGreatDoorG3
import Derived.KernelRfl
namespace Go.AM
open Go.Proofs
set_option maxRecDepth 100000
set_option linter.unusedVariables false
set_option linter.unusedSimpArgs false
attribute [local go_sem] Function.comp_def argsT Opd.ev Tm.get put ares mapMo ares1 snilP bldParts bslParts putAt AV.cells AV.one astore aload loadCs callArgs abin abinInt aapp elems appMore appNone preLen aFa aFld apart aExt aPick aNot aLens aEqa cellsK fitsA LK.fitsA leavesA leafA nilD aNilc aCint aCid alive alen alenOk Rle lePs len_flat
noncomputable def textP (l : List Sg) (a : Kd) (names : List ByteArray) (id : Int) : ByteArray :=
 if (nodesP l a names id).2 = 0 then (enN (nodesP l a names id).1 ((nodesP l a names id).1.length - 1)).t else ⟨#[]⟩
theorem nodesP_ok {l : List Sg} {a : Kd} {names : List ByteArray} {id : Int} (h : (nodesP l a names id).2 = 0) : (nodesP l a names id).1.length ≤ 300 ∧ rightN (nodesP l a names id).1 = true ∧ (0 ≤ id ∧ id < a.keys.length) ∧ (nodesP l a names id).1 = treeN l a names id ∧ ∀ k ∈ belowP a id, unnamed l a names k = false := by
 unfold nodesP at h ⊢
 by_cases h1 : id < 0 ∨ a.keys.length ≤ id
 ·rw [if_pos h1] at h; simp at h
 rw [if_neg h1] at h ⊢
 by_cases h2 : ∃ k ∈ belowP a id, unnamed l a names k = true
 ·rw [if_pos h2] at h; simp at h
 rw [if_neg h2] at h ⊢
 by_cases h3 : 300 < (treeN l a names id).length
 ·rw [if_pos h3] at h; simp at h
 rw [if_neg h3] at h ⊢
 by_cases h4 : rightN (treeN l a names id) = false
 ·rw [if_pos h4] at h; simp at h
 rw [if_neg h4]
 refine ⟨by simp only; omega, by simpa using h4, by omega, rfl, fun k hk => ?_⟩
 cases hu : unnamed l a names k with
 | false => rfl
 | true => exact absurd ⟨k, hk, hu⟩ h2
theorem rightN_spec {l : List Nd} (h : rightN l = true) : ndsMay l ∧ (stk l l.length).length = 1 ∧ (enN l (l.length - 1)).d ≤ 40 ∧ 0 < l.length := by
 simp only [rightN, Bool.and_eq_true, decide_eq_true_eq] at h
 refine ⟨h.1, h.2.1, h.2.2, ?_⟩
 have := stk_le l l.length
 have := h.2.1
 omega
theorem c16_ok : cFn Tryz.prog an0 Tryz.f16 = some c16 := by kernel_rfl
theorem text16_PF {l : List Sg} {a : Kd} (hsf : SF l a) (names : List ByteArray) (id : Int) : PF Tryz.prog 16 [sigs l, .agg a.cs, strs names, i64 id] (.str (textP l a names id)) := by
 refine PFk 9 hm Tryz.func16 c16_ok (Nat.le_of_ble_eq_true rfl) (by simp) (by simp) ?_
 generalize hQ : Rle 9 (.str (textP l a names id)) = Q
 simp (maxSteps := 3000000) [go_sem,-List.length_flatten,-List.map_drop,-List.map_take, c16]
 refine PF.call (nodes_PF hsf names id) 9 (by simp [lePs]) ?_
 by_cases h : (nodesP l a names id).2 = 0
 ·obtain ⟨h1, h2, _⟩ := nodesP_ok h
  obtain ⟨k1, k2, k3, k4⟩ := rightN_spec h2
  have hr : textP l a names id = (enN (nodesP l a names id).1 ((nodesP l a names id).1.length - 1)).t := by unfold textP; rw [if_pos h]
  simp (maxSteps := 3000000) [go_sem,-List.length_flatten,-List.map_drop,-List.map_take, Kc, h]
  refine PF.call (text_PF (shp_of (by omega) k1) k4) 9 (by simp [lePs]) ?_
  simp (maxSteps := 3000000) [go_sem,-List.length_flatten,-List.map_drop,-List.map_take, Kc]
  rw [← hQ, hr]
  simp (maxSteps := 3000000) [go_sem,-List.length_flatten,-List.map_drop,-List.map_take]
 ·have hr : textP l a names id = ⟨#[]⟩ := by unfold textP; rw [if_neg h]
  simp (maxSteps := 3000000) [go_sem,-List.length_flatten,-List.map_drop,-List.map_take, Kc, h]
  rw [← hQ, hr]
  simp (maxSteps := 3000000) [go_sem,-List.length_flatten,-List.map_drop,-List.map_take]
/-! ### How many nodes: the document's answer -/
end Go.AM

namespace Go.AM
open Go.Proofs
set_option maxRecDepth 100000
set_option linter.unusedVariables false
set_option linter.unusedSimpArgs false
attribute [local go_sem] Function.comp_def argsT Opd.ev Tm.get put ares mapMo ares1 snilP bldParts bslParts putAt AV.cells AV.one astore aload loadCs callArgs abin abinInt aapp elems appMore appNone preLen aFa aFld apart aExt aPick aNot aLens aEqa cellsK fitsA LK.fitsA leavesA leafA nilD aNilc aCint aCid alive alen alenOk Rle lePs len_flat
end Go.AM

namespace Go.AM
open Go.Proofs
set_option maxRecDepth 100000
set_option linter.unusedVariables false
set_option linter.unusedSimpArgs false
attribute [local go_sem] Function.comp_def argsT Opd.ev Tm.get put ares mapMo ares1 snilP bldParts bslParts putAt AV.cells AV.one astore aload loadCs callArgs abin abinInt aapp elems appMore appNone preLen aFa aFld apart aExt aPick aNot aLens aEqa cellsK fitsA LK.fitsA leavesA leafA nilD aNilc aCint aCid alive alen alenOk Rle lePs len_flat
/-! ### A right store fits; a term's text (the document's) -/
theorem mayBe_args {l : List Sg} {many : Int} {t : Tm0} (h : mayBe l many t = true) : ∀ x ∈ t.args, 0 ≤ x ∧ x < many := by
 intro x hx
 unfold mayBe at h
 rw [Bool.and_eq_true, decide_eq_true_eq] at h
 obtain ⟨i, hi, rfl⟩ := List.getElem_of_mem hx
 have := h.1 i hi
 simpa [gi, List.getD, hi] using this
theorem mayBe_kind {l : List Sg} {many : Int} {t : Tm0} (h : mayBe l many t = true) :
 (if t.kind = 0 ∨ t.kind = 1 then decide (t.sym = 0 ∧ t.part = 0 ∧ t.args.length = 0)
 else if t.kind = 2 then decide (0 ≤ t.sym ∧ t.part = 0 ∧ t.args.length = 0)
 else if t.kind = 3 then decide ((0 ≤ t.sym ∧ t.sym < l.length) ∧ t.part = 0 ∧ t.args.length = (gi l t.sym).args.size)
 else if t.kind = 4 ∨ t.kind = 5 then decide (t.sym = 0 ∧ t.part = 0 ∧ t.args.length = 2)
 else if t.kind = 6 then decide ((0 ≤ t.sym ∧ t.sym < l.length) ∧ 0 ≤ t.part ∧ t.part < (gi l t.sym).args.size ∧ t.args.length = 1)
 else false) = true := by
 unfold mayBe at h
 rw [Bool.and_eq_true] at h
 exact h.2
theorem args8 {l : List Sg} (hr : sigRight l = true) {i : Int} (h0 : 0 ≤ i) (h1 : i < l.length) : (gi l i).args.size ≤ 8 := by
 unfold sigRight at hr
 rw [Bool.and_eq_true, decide_eq_true_eq] at hr
 obtain ⟨n, rfl⟩ : ∃ n : Nat, i = n := ⟨i.toNat, by omega⟩
 have h := (hr.1 n (by omega)).2.1
 unfold argsOk at h
 rw [Bool.and_eq_true, decide_eq_true_eq, decide_eq_true_eq] at h
 exact h.2
theorem mayBe_fit {l : List Sg} (hr : sigRight l = true) {many : Int} {t : Tm0} (h : mayBe l many t = true) : tmFit l t ∧ t.args.length ≤ 8 := by
 have hk := mayBe_kind h
 have h8 := fun i h0 h1 => args8 hr (i := i) h0 h1
 unfold tmFit
 by_cases k0 : t.kind = 0 ∨ t.kind = 1
 ·rw [if_pos k0, decide_eq_true_eq] at hk
  omega
 rw [if_neg k0] at hk
 by_cases k2 : t.kind = 2
 ·rw [if_pos k2, decide_eq_true_eq] at hk
  omega
 rw [if_neg k2] at hk
 by_cases k3 : t.kind = 3
 ·rw [if_pos k3, decide_eq_true_eq] at hk
  have := h8 _ hk.1.1 hk.1.2
  omega
 rw [if_neg k3] at hk
 by_cases k4 : t.kind = 4 ∨ t.kind = 5
 ·rw [if_pos k4, decide_eq_true_eq] at hk
  omega
 rw [if_neg k4] at hk
 by_cases k6 : t.kind = 6
 ·rw [if_pos k6, decide_eq_true_eq] at hk
  have := h8 _ hk.1.1 hk.1.2
  omega
 rw [if_neg k6] at hk
 cases hk
theorem right_term {l : List Sg} {a : Kd} (h : storeRight l a = true) : hashRight a = true ∧ 2 ≤ a.keys.length ∧ ∀ i : Nat, i < a.keys.length → termOk l a i := by
 unfold storeRight at h
 rw [Bool.and_eq_true, Bool.and_eq_true, decide_eq_true_eq, decide_eq_true_eq] at h
 exact ⟨h.1.1, h.1.2, h.2⟩
theorem sf_of {l : List Sg} {a : Kd} (hr : sigRight l = true) (hs : storeRight l a = true) (hk : a.keys.length ≤ 1048576) : SF l a := by
 obtain ⟨_, _, ht⟩ := right_term hs
 refine ⟨fun i hi x hx => mayBe_args (ht i hi).2.1 x hx, hk, fun i hi => ⟨(ht i hi).1, mayBe_fit hr (ht i hi).2.1⟩⟩
end Go.AM

namespace Go.AM
open Go.Proofs
set_option maxRecDepth 100000
set_option linter.unusedVariables false
set_option linter.unusedSimpArgs false
attribute [local go_sem] Function.comp_def argsT Opd.ev Tm.get put ares mapMo ares1 snilP bldParts bslParts putAt AV.cells AV.one astore aload loadCs callArgs abin abinInt aapp elems appMore appNone preLen aFa aFld apart aExt aPick aNot aLens aEqa cellsK fitsA LK.fitsA leavesA leafA nilD aNilc aCint aCid alive alen alenOk Rle lePs len_flat
/-! ### load.Load -/
theorem chunk_pre : ∀ (xs : List Int) (r : List AV), chunk 1 (i64s xs ++ r) xs.length = xs.map fun n => [AV.int .i64 n]
 | [], r => rfl
 | x :: xs, r => by
  have := chunk_pre xs r
  simp only [List.map_cons, List.cons_append, List.length_cons]
  simpa [chunk] using this
theorem cloneAt {H : AHeap} {i g off : Nat} {c : Bool} {cs : List AV} {xs : List Int} (hi : H[i]? = some (.cells g cs)) (hol : off + xs.length ≤ cs.length) (hx : (cs.drop off).take xs.length = i64s xs) (hA : xs.length ≤ 100000000) (hR : ∀ b ∈ H, RLB H.length b) : FT Tryz.prog 48 [.loc i g off xs.length 1 c] H (fun rv H' => rv = ints xs ∧ H' = H) := by
 have hm1 : xs.length ≤ maxA := by unfold maxA; omega
 have hch : chunk 1 (List.drop off cs) xs.length = xs.map fun n => [AV.int .i64 n] := by
  have h2 : List.drop off cs = i64s xs ++ (List.drop off cs).drop xs.length := by
   conv => lhs; rw [← List.take_append_drop xs.length (List.drop off cs), hx]
  rw [h2, chunk_pre]
 have hfl : ∀ l : List Int, (List.map (fun n => [AV.int IntKind.i64 n]) l).flatten = i64s l := by
  intro l
  induction l with
  | nil => rfl
  | cons x l ih => simp [ih]
 refine FT.wk (R' := fun rv H' => (rv = .nilS ∧ xs = [] ∧ H' = H) ∨ (rv = .rows true 1 [] ∧ xs = [] ∧ H' = H) ∨ rv = .loc H.length 0 0 xs.length 1 false ∧ H' = H ++ [.cells 0 (i64s xs)]) (FTk hm Tryz.func48 c48_ok (Nat.le_of_ble_eq_true rfl) ?_) ?_
 ·generalize hQ : (fun (rv : AV) (H' : AHeap) => (rv = .nilS ∧ xs = [] ∧ H' = H) ∨ (rv = .rows true 1 [] ∧ xs = [] ∧ H' = H) ∨ rv = .loc H.length 0 0 xs.length 1 false ∧ H' = H ++ [.cells 0 (i64s xs)]) = Q
  simp (maxSteps := 3000000) [go_sem,-List.length_flatten,-List.map_drop,-List.map_take, c48, hi, hol, hch]
  by_cases h0 : xs = []
  ·simp (maxSteps := 3000000) [go_sem,-List.length_flatten,-List.map_drop,-List.map_take, h0]
   rw [← hQ]
   simp [h0]
  ·simp (maxSteps := 3000000) [go_sem,-List.length_flatten,-List.map_drop,-List.map_take, h0, hm1, hfl]
   rw [← hQ]
   simp
 ·rintro rv H' (⟨rfl, rfl, rfl⟩ | ⟨rfl, rfl, rfl⟩ | ⟨rfl, rfl⟩)
  ·exact ⟨_, _, Wk.leT (T' := [(0, ints [])]) 2 (by simp [Tm.get, leP]), rfl, rfl⟩
  ·exact ⟨_, _, Wk.leT (T' := [(0, ints [])]) 2 (by simp [Tm.get, leP]), rfl, rfl⟩
  ·refine ⟨_, _, (Wk.freeze 0 (i := H.length) (g := 0) (off := 0) (len := xs.length) (sz := 1) (c := false) (cs := i64s xs) (by simp [Tm.get]) (by simp) (by simp)).trans (Wk.to H.length (Nat.le_refl _) (T' := [(0, ints xs)]) (H' := H) ?_ (by simp) (by simp) hR), rfl, rfl⟩
   have := chunk_one (f := fun n : Int => AV.int IntKind.i64 n) (l := xs)
   simp [Tm.get, this]
theorem c49_ok : cFn Tryz.prog an0 Tryz.f49 = some c49 := by kernel_rfl
abbrev strsC (l : List ByteArray) : AV := .rows true 1 (l.map fun s => [.str s])
theorem clip49_PF (l : List ByteArray) : PF Tryz.prog 49 [strs l] (strsC l) := by
 refine PFk 9 hm Tryz.func49 c49_ok (Nat.le_of_ble_eq_true rfl) (by simp) (by simp) ?_
 simp (maxSteps := 3000000) [go_sem,-List.length_flatten,-List.map_drop,-List.map_take, c49, aSlc]
 intro _
 have h : (0 : Int) ≤ l.length ∧ (l.length : Int) ≤ l.length := by omega
 have e : List.take l.length (List.map (fun s => [AV.str s]) l) = List.map (fun s => [AV.str s]) l := List.take_of_length_le (by simp)
 simp (maxSteps := 3000000) [go_sem,-List.length_flatten,-List.map_drop,-List.map_take, aint, h, e]
end Go.AM

namespace Go.AM
open Go.Proofs
set_option maxRecDepth 100000
set_option linter.unusedVariables false
set_option linter.unusedSimpArgs false
attribute [local go_sem] Function.comp_def argsT Opd.ev Tm.get put ares mapMo ares1 snilP bldParts bslParts putAt AV.cells AV.one astore aload loadCs callArgs abin abinInt aapp elems appMore appNone preLen aFa aFld apart aExt aPick aNot aLens aEqa cellsK fitsA LK.fitsA leavesA leafA nilD aNilc aCint aCid alive alen alenOk Rle lePs len_flat
/-! ### What load.Load computes -/
structure Ls where
 b : Kd
 own : List ByteArray
 st : List Int
def ixN (own : List ByteArray) (s : ByteArray) : Int := fstAt (fun x => decide (x = s)) own
def termL (l : List Sg) (own : List ByteArray) (args : List Int) (n : Nd) : Tm0 :=
 ⟨n.kind, if n.kind = 2 then (if ixN own n.name < 0 then (own.length : Int) else ixN own n.name) else if n.kind = 6 ∨ n.kind = 3 then fstAt (fun s => decide (s.name = n.name)) l else 0, if n.kind = 6 then n.n - 1 else 0, args⟩
def ownL (own : List ByteArray) (n : Nd) : List ByteArray := if n.kind = 2 ∧ ixN own n.name < 0 then own ++ [n.name] else own
def argL (st : List Int) (n : Nd) : List Int := st.drop (st.length - pN n)
def putL (l : List Sg) (limit : Int) (s : Ls) (n : Nd) : Kd × Int × Int := putT l s.b (termL l s.own (argL s.st n) n) limit
def stepL (l : List Sg) (limit : Int) (s : Ls) (n : Nd) : Ls := ⟨(putL l limit s n).1, ownL s.own n, s.st.take (s.st.length - pN n) ++ [(putL l limit s n).2.1]⟩
def runL (l : List Sg) (limit : Int) : Ls → List Nd → Ls × Int
 | s, [] => (s, 0)
 | s, n :: e => if (putL l limit s n).2.2 = 0 then runL l limit (stepL l limit s n) e else (s, (putL l limit s n).2.2)
def loadP (l : List Sg) (a : Kd) (names : List ByteArray) (e : List Nd) (limit : Int) : Kd × List ByteArray × Int × Int :=
 if (runL l limit ⟨a, names, []⟩ e).2 = 0 then ((runL l limit ⟨a, names, []⟩ e).1.b, (runL l limit ⟨a, names, []⟩ e).1.own, gi (runL l limit ⟨a, names, []⟩ e).1.st 0, 0)
 else (a, names, 0, (runL l limit ⟨a, names, []⟩ e).2)
/-! a right table stays right -/
theorem fst_app {α : Type} [Inhabited α] {p : α → Bool} {l m : List α} (h : 0 ≤ fstAt p l) : fstAt p (l ++ m) = fstAt p l := by
 unfold fstAt at h ⊢
 rw [List.findIdx?_append]
 cases hf : l.findIdx? p with
 | none => rw [hf] at h; simp at h
 | some i => simp
theorem fst_end {α : Type} [Inhabited α] {p : α → Bool} {l : List α} {x : α} (h : fstAt p l < 0) (hx : p x = true) : fstAt p (l ++ [x]) = l.length := by
 unfold fstAt at h ⊢
 rw [List.findIdx?_append]
 cases hf : l.findIdx? p with
 | none => simp [hx, List.findIdx?_cons]
 | some i => rw [hf] at h; simp at h; omega
theorem fst_lt {α : Type} {p : α → Bool} {l : List α} : fstAt p l < l.length := by
 unfold fstAt
 cases hf : l.findIdx? p with
 | none => simp only; omega
 | some i =>
  have := (List.findIdx?_eq_some_iff_findIdx_eq.1 hf).1
  simp only
  omega
theorem fst_at {α : Type} [Inhabited α] {p : α → Bool} {l : List α} (h : 0 ≤ fstAt p l) : p (gi l (fstAt p l)) = true := by
 unfold fstAt at h ⊢
 cases hf : l.findIdx? p with
 | none => rw [hf] at h; simp at h
 | some i =>
  obtain ⟨h1, h2, _⟩ := List.findIdx?_eq_some_iff_getElem.1 hf
  simpa [gi, List.getD, h1] using h2
theorem right_put {a : Kd} (h : hashRight a = true) (key : List Int) : hashRight (putK a key).1 = true := by
 unfold putK
 by_cases hf : 0 ≤ fstAt (fun x => decide (x = key)) a.keys
 ·rw [if_pos hf]; exact h
 rw [if_neg hf]
 unfold hashRight at h ⊢
 rw [Bool.and_eq_true, decide_eq_true_eq] at h
 simp only [decide_true, Bool.and_true, decide_eq_true_eq]
 intro i hi
 rw [List.length_append, List.length_singleton] at hi
 by_cases hl : i < a.keys.length
 ·rw [giApp hl, fst_app (by rw [h.1 i hl]; omega), h.1 i hl]
 ·have e : i = a.keys.length := by omega
  subst e
  rw [giEnd, fst_end (by omega) (by simp)]
theorem putK_len (a : Kd) (key : List Int) : (putK a key).1.keys.length ≤ a.keys.length + 1 := by
 unfold putK
 split
 ·simp
 ·simp
theorem putT_hash {l : List Sg} {a : Kd} (h : hashRight a = true) (t : Tm0) (limit : Int) : hashRight (putT l a t limit).1 = true := by
 unfold putT
 split
 ·exact h
 split
 ·exact h
 ·exact right_put h _
theorem putT_len (l : List Sg) (a : Kd) (t : Tm0) (limit : Int) : (putT l a t limit).1.keys.length ≤ a.keys.length + 1 := by
 unfold putT
 split
 ·simp
 split
 ·simp
 ·exact putK_len a _
theorem ownL_len (own : List ByteArray) (n : Nd) : (ownL own n).length ≤ own.length + 1 := by
 unfold ownL
 split <;> simp
theorem runL_next {l : List Sg} {limit : Int} {s : Ls} {e : List Nd} {i : Nat} (hi : i < e.length) : runL l limit s (e.drop i) = if (putL l limit s (gi e i)).2.2 = 0 then runL l limit (stepL l limit s (gi e i)) (e.drop (i + 1)) else (s, (putL l limit s (gi e i)).2.2) := by
 have e1 : e.drop i = gi e i :: e.drop (i + 1) := by
  rw [List.drop_eq_getElem_cons hi]
  simp [gi, List.getD, hi]
 rw [e1, runL]
end Go.AM

namespace Go.AM
open Go.Proofs
set_option maxRecDepth 100000
set_option linter.unusedVariables false
set_option linter.unusedSimpArgs false
attribute [local go_sem] Function.comp_def argsT Opd.ev Tm.get put ares mapMo ares1 snilP bldParts bslParts putAt AV.cells AV.one astore aload loadCs callArgs abin abinInt aapp elems appMore appNone preLen aFa aFld apart aExt aPick aNot aLens aEqa cellsK fitsA LK.fitsA leavesA leafA nilD aNilc aCint aCid alive alen alenOk Rle lePs len_flat
def c20b : AFn := ⟨111, .seq (.reg false [⟨some 6, .box (.tmp 1), none⟩, ⟨some 10, .alloc [.nilS, .nilS], none⟩, ⟨some 11, .mov (.lit .nilS), none⟩, ⟨some 12, .mov (.lit (.int .i64 0)), none⟩, ⟨some 13, .mov (.lit (.int .i64 0)), none⟩]) (.seq (.reg false [⟨some 24, .load 2 true (.tmp 6), none⟩, ⟨some 25, .mov (.tmp 2), none⟩, ⟨some 14, .alloc [.nilS, .nilS], none⟩, ⟨none, .store 2 (.tmp 14) (.tmp 24), none⟩, ⟨some 15, .mov (.tmp 25), none⟩]) (.seq (.reg false [⟨some 16, .mov (.lit .nilS), none⟩]) (.seq (.seq (.reg false [⟨some 26, .mov (.tmp 3), none⟩, ⟨some 27, .len (.tmp 26), none⟩, ⟨some 28, .mov (.lit (.int .i64 0)), none⟩]) (.block 0 (.loop (.seq (.reg false [⟨some 29, .bin .lss (.tmp 28) (.tmp 27), none⟩]) (.seq (.cond (.tmp 29) .skip (.exit 0)) (.seq (.block 1 (.seq (.reg false [⟨some 30, .ia 3 (.tmp 26) (.tmp 28), none⟩, ⟨some 31, .load 3 true (.tmp 30), none⟩, ⟨some 18, .alloc [.int .i64 0, .str ⟨#[]⟩, .int .i64 0], none⟩, ⟨none, .store 3 (.tmp 18) (.tmp 31), none⟩]) (.seq (.reg false [⟨some 32, .mov (.tmp 16), none⟩, ⟨some 33, .len (.tmp 32), none⟩, ⟨some 34, .load 3 true (.tmp 18), none⟩, ⟨some 35, .call (.lit (.fn (.func 47) [] [])) [.tmp 34], none⟩, ⟨some 36, .bin .sub (.tmp 33) (.tmp 35), none⟩, ⟨some 19, .mov (.tmp 36), none⟩]) (.seq (.reg true [⟨some 37, .fa 0 (.tmp 18), none⟩, ⟨some 38, .load 1 false (.tmp 37), none⟩, ⟨some 39, .mov (.tmp 16), none⟩, ⟨some 40, .mov (.tmp 19), none⟩, ⟨some 41, .slc 1 (.tmp 39) (some (.tmp 40)) none none, none⟩, ⟨some 42, .callh (.lit (.fn (.func 48) [] [])) [.tmp 41], none⟩, ⟨some 43, .build [.int .i64 0, .int .i64 0, .int .i64 0, .nilS] [(0, 1, .tmp 38), (3, 1, .tmp 42)], none⟩, ⟨some 20, .alloc [.int .i64 0, .int .i64 0, .int .i64 0, .nilS], none⟩, ⟨none, .store 4 (.tmp 20) (.tmp 43), none⟩]) (.seq (.reg false [⟨some 44, .mov (.tmp 16), none⟩, ⟨some 45, .mov (.tmp 19), none⟩, ⟨some 46, .slc 1 (.tmp 44) none (some (.tmp 45)) none, none⟩, ⟨some 16, .mov (.tmp 46), none⟩]) (.seq (.seq (.reg false [⟨some 47, .fa 0 (.tmp 18), none⟩, ⟨some 48, .load 1 false (.tmp 47), none⟩]) (.block 2 (.seq (.reg false [⟨some 50, .bin .eql (.tmp 48) (.lit (.int .i64 2)), none⟩, ⟨some 49, .mov (.tmp 50), none⟩]) (.cond (.tmp 49) (.seq (.reg false [⟨some 51, .mov (.tmp 15), none⟩, ⟨some 52, .fa 1 (.tmp 18), none⟩, ⟨some 53, .load 1 false (.tmp 52), none⟩, ⟨some 54, .call (.lit (.fn (.func 31) [] [])) [.tmp 51, .tmp 53], none⟩, ⟨some 55, .fa 1 (.tmp 20), none⟩, ⟨none, .store 1 (.tmp 55) (.tmp 54), none⟩]) (.seq (.reg false [⟨some 56, .fa 1 (.tmp 20), none⟩, ⟨some 57, .load 1 false (.tmp 56), none⟩, ⟨some 58, .bin .lss (.tmp 57) (.lit (.int .i64 0)), none⟩]) (.cond (.tmp 58) (.seq (.reg false [⟨some 59, .mov (.tmp 15), none⟩, ⟨some 60, .len (.tmp 59), none⟩, ⟨some 61, .fa 1 (.tmp 20), none⟩, ⟨none, .store 1 (.tmp 61) (.tmp 60), none⟩]) (.reg true [⟨some 62, .mov (.tmp 15), none⟩, ⟨some 63, .call (.lit (.fn (.func 49) [] [])) [.tmp 62], none⟩, ⟨some 64, .fa 1 (.tmp 18), none⟩, ⟨some 65, .load 1 false (.tmp 64), none⟩, ⟨some 66, .bslice 1 1 [.str ⟨#[]⟩] [(0, .tmp 65)], none⟩, ⟨some 67, .appc 1 16 (.tmp 63) (.tmp 66), none⟩, ⟨some 15, .mov (.tmp 67), none⟩])) .skip))) (.seq (.reg false [⟨some 69, .bin .eql (.tmp 48) (.lit (.int .i64 6)), none⟩, ⟨some 68, .mov (.tmp 69), none⟩]) (.cond (.tmp 68) (.regD [⟨some 70, .mov (.tmp 0), none⟩, ⟨some 71, .fa 1 (.tmp 18), none⟩, ⟨some 72, .load 1 false (.tmp 71), none⟩, ⟨some 73, .call (.lit (.fn (.func 50) [] [])) [.tmp 70, .tmp 72], none⟩, ⟨some 74, .fa 2 (.tmp 18), none⟩, ⟨some 75, .load 1 false (.tmp 74), none⟩, ⟨some 76, .bin .sub (.tmp 75) (.lit (.int .i64 1)), none⟩, ⟨some 77, .fa 1 (.tmp 20), none⟩, ⟨none, .store 1 (.tmp 77) (.tmp 73), none⟩, ⟨some 78, .fa 2 (.tmp 20), none⟩, ⟨none, .store 1 (.tmp 78) (.tmp 76), none⟩] [(⟨some 74, .fa 2 (.tmp 18), none⟩, ⟨none, .store 1 (.tmp 77) (.tmp 73), none⟩), (⟨some 75, .load 1 false (.tmp 74), none⟩, ⟨none, .store 1 (.tmp 77) (.tmp 73), none⟩)]) (.seq (.reg false [⟨some 80, .bin .eql (.tmp 48) (.lit (.int .i64 3)), none⟩, ⟨some 79, .mov (.tmp 80), none⟩]) (.cond (.tmp 79) (.reg false [⟨some 81, .mov (.tmp 0), none⟩, ⟨some 82, .fa 1 (.tmp 18), none⟩, ⟨some 83, .load 1 false (.tmp 82), none⟩, ⟨some 84, .call (.lit (.fn (.func 50) [] [])) [.tmp 81, .tmp 83], none⟩, ⟨some 85, .fa 1 (.tmp 20), none⟩, ⟨none, .store 1 (.tmp 85) (.tmp 84), none⟩]) .skip)))))))) (.seq (.reg false [⟨some 87, .mov (.tmp 0), none⟩, ⟨some 88, .load 2 true (.tmp 14), none⟩, ⟨some 89, .load 4 true (.tmp 20), none⟩, ⟨some 90, .mov (.tmp 4), none⟩, ⟨some 91, .call (.lit (.fn (.func 51) [] [])) [.tmp 87, .tmp 88, .tmp 89, .tmp 90], none⟩, ⟨some 86, .mov (.tmp 91), none⟩, ⟨some 92, .ext (.tmp 86) 0, none⟩, ⟨some 93, .ext (.tmp 86) 1, none⟩, ⟨some 94, .ext (.tmp 86) 2, none⟩, ⟨some 21, .alloc [.nilS, .nilS], none⟩, ⟨none, .store 2 (.tmp 21) (.tmp 92), none⟩, ⟨some 22, .mov (.tmp 93), none⟩, ⟨some 23, .mov (.tmp 94), none⟩]) (.seq (.seq (.reg false [⟨some 95, .mov (.tmp 23), none⟩, ⟨some 96, .bin .neq (.tmp 95) (.lit (.int .i64 0)), none⟩]) (.cond (.tmp 96) (.seq (.reg false [⟨some 97, .load 2 true (.tmp 6), none⟩, ⟨some 98, .mov (.tmp 2), none⟩, ⟨some 99, .mov (.tmp 23), none⟩, ⟨none, .store 2 (.tmp 10) (.tmp 97), none⟩, ⟨some 11, .mov (.tmp 98), none⟩, ⟨some 12, .mov (.lit (.int .i64 0)), none⟩, ⟨some 13, .mov (.tmp 99), none⟩]) .ret) .skip)) (.seq (.reg false [⟨some 100, .load 2 true (.tmp 21), none⟩, ⟨none, .store 2 (.tmp 14) (.tmp 100), none⟩]) (.reg false [⟨some 101, .mov (.tmp 16), none⟩, ⟨some 102, .mov (.tmp 22), none⟩, ⟨some 103, .bslice 1 1 [.int .i64 0] [(0, .tmp 102)], none⟩, ⟨some 104, .app 1 8 (.tmp 101) (.tmp 103), none⟩, ⟨some 16, .mov (.tmp 104), none⟩])))))))))) (.reg false [⟨some 105, .bin .add (.tmp 28) (.lit (.int .i64 1)), none⟩, ⟨some 28, .mov (.tmp 105), none⟩]))))))) (.seq (.regD [⟨some 106, .load 2 true (.tmp 14), none⟩, ⟨some 107, .mov (.tmp 15), none⟩, ⟨some 108, .mov (.tmp 16), none⟩, ⟨some 109, .ia 1 (.tmp 108) (.lit (.int .i64 0)), none⟩, ⟨some 110, .load 1 false (.tmp 109), none⟩, ⟨none, .store 2 (.tmp 10) (.tmp 106), none⟩, ⟨some 11, .mov (.tmp 107), none⟩, ⟨some 12, .mov (.tmp 110), none⟩, ⟨some 13, .mov (.lit (.int .i64 0)), none⟩] [(⟨some 109, .ia 1 (.tmp 108) (.lit (.int .i64 0)), none⟩, ⟨none, .store 2 (.tmp 10) (.tmp 106), none⟩), (⟨some 110, .load 1 false (.tmp 109), none⟩, ⟨none, .store 2 (.tmp 10) (.tmp 106), none⟩)]) .ret)))), [.cell 10 2 true, .tmp 11, .tmp 12, .tmp 13]⟩

/-! ### load.Load, walked -/
def an20 : An := ⟨[2000042, 1000067], []⟩
theorem c20_ok : cFn Tryz.prog an20 Tryz.f20 = some c20b := by kernel_rfl
set_option maxHeartbeats 8000000 in
theorem load_PF {l : List Sg} {a : Kd} {e : List Nd} (hh : hashRight a = true) (hg : goodN e e.length) (hm8 : ∀ j : Nat, j < e.length → (gi e j).kind = 6 → 1 ≤ (gi e j).n ∧ (gi e j).n ≤ 8) (h1 : 0 < (stk e e.length).length) (hka : a.keys.length + e.length ≤ 1000000) (names : List ByteArray) (hna : names.length + e.length ≤ 1000000) (limit : Int) :
  PF Tryz.prog 20 [sigs l, .agg a.cs, strs names, nds e, i64 limit] (.tuple [.agg (loadP l a names e limit).1.cs, strs (loadP l a names e limit).2.1, i64 (loadP l a names e limit).2.2.1, i64 (loadP l a names e limit).2.2.2]) := by
 refine PFk 9 hm Tryz.func20 c20_ok (Nat.le_of_ble_eq_true rfl) (by simp) (by simp) ?_
 generalize hQ : Rle 9 (.tuple [.agg (loadP l a names e limit).1.cs, strs (loadP l a names e limit).2.1, i64 (loadP l a names e limit).2.2.1, i64 (loadP l a names e limit).2.2.2]) = Q
 simp (maxSteps := 3000000) [go_sem,-List.length_flatten,-List.map_drop,-List.map_take, c20b]
 intro hA
 refine run_loopK (fun m T H => ∃ (i : Nat) (s : Ls) (g : Nat), m = e.length - i ∧ i ≤ e.length ∧ hashRight s.b = true ∧ s.b.keys.length ≤ a.keys.length + i ∧ s.own.length ≤ names.length + i ∧ s.st.length = (stk e i).length ∧ runL l limit ⟨a, names, []⟩ e = runL l limit s (e.drop i) ∧ T = [(28, i64 i), (16, .loc 3 g 0 s.st.length 1 false), (15, strs s.own), (26, nds e), (27, i64 e.length), (0, sigs l), (2, strs names), (4, i64 limit), (6, .ptr 0 0 0), (10, .ptr 1 0 0), (14, .ptr 2 0 0)] ∧ H = [.cells 0 a.cs, .cells 0 [.nilS, .nilS], .cells 0 s.b.cs, .cells g (i64s s.st)]) e.length
  [(28, i64 (0 : Nat)), (16, .loc 3 0 0 0 1 false), (15, strs names), (26, nds e), (27, i64 e.length), (0, sigs l), (2, strs names), (4, i64 limit), (6, .ptr 0 0 0), (10, .ptr 1 0 0), (14, .ptr 2 0 0)] [.cells 0 a.cs, .cells 0 [.nilS, .nilS], .cells 0 a.cs, .cells 0 []]
  ((Wk.nil 16 1 (by simp [Tm.get])).trans (Wk.tell 4 (by omega) (by simp [Tm.get]) (by simp) (by simp) (by simp [RLB]))) ⟨0, ⟨a, names, []⟩, 0, rfl, by omega, hh, by simp, by simp, rfl, rfl, rfl, rfl⟩ ?_
 rintro m T H ⟨i, s, g, rfl, hi, hhs, hkb, how, hsl, hrun, rfl, rfl⟩ KK kx kr kn
 by_cases h : i < e.length
 ·have hgi := hg i h
  rw [← hsl] at hgi
  have hpe : partsN (gi e i) = (pN (gi e i) : Int) := by unfold pN; omega
  have hpx := many47_PF (gi e i)
  rw [hpe] at hpx
  have hnx := runL_next (l := l) (limit := limit) (s := s) h
  have h8 := hm8 i h
  have hsle := stk_le e i
  rw [← hsl] at hsle
  obtain ⟨k, hk⟩ : ∃ k : Nat, k = s.st.length - pN (gi e i) := ⟨_, rfl⟩
  have hw : IntKind.i64.wrap ((s.st.length : Int) - (pN (gi e i) : Int)) = (k : Int) := by rw [w64 (by omega) (by omega)]; omega
  simp (maxSteps := 3000000) [go_sem,-List.length_flatten,-List.map_drop,-List.map_take, h]
  intro hsA
  refine PF.call hpx 9 (by simp [lePs]) ?_
  simp (maxSteps := 3000000) [go_sem,-List.length_flatten,-List.map_drop,-List.map_take, Kc, hw]
  have hal : (argL s.st (gi e i)).length = s.st.length - k := by unfold argL; rw [← hk, List.length_drop]
  have hcl := FT.more (cloneAt (H := [.cells 0 a.cs, .cells 0 [.nilS, .nilS], .cells 0 s.b.cs, .cells g (i64s s.st), .cells 0 [i64 (gi e i).kind, .str (gi e i).name, i64 (gi e i).n]]) (i := 3) (g := g) (off := k) (c := false) (cs := i64s s.st) (xs := argL s.st (gi e i)) rfl (by rw [hal]; simp; omega) (by rw [hal]; unfold argL; rw [← hk, i64s, ← List.map_drop, List.take_of_length_le (by simp)]) (by omega) (by simp [RLB])) (by simp [RL]) (by simp [RLB])
  rw [hal] at hcl
  have hat : (argL s.st (gi e i)).length ≤ 1048576 := by omega
  have hpt := fun t : Tm0 => putT_PF l hhs (by omega) t (limit := limit)
  refine ⟨by omega, _, hcl, ?_⟩
  generalize hA2 : argL s.st (gi e i) = A at *
  have hkle : k ≤ s.st.length := by omega
  have hbad : (putL l limit s (gi e i)).2.2 ≠ 0 → loadP l a names e limit = (a, names, 0, (putL l limit s (gi e i)).2.2) := fun hb => by
   unfold loadP
   rw [hrun, hnx, if_neg hb]
   simp only [if_neg hb]
  have hgood : (putL l limit s (gi e i)).2.2 = 0 → runL l limit ⟨a, names, []⟩ e = runL l limit ⟨(putL l limit s (gi e i)).1, ownL s.own (gi e i), s.st.take k ++ [(putL l limit s (gi e i)).2.1]⟩ (e.drop (i + 1)) := fun hb => by
   rw [hrun, hnx, if_pos hb, hk]
   rfl
  have hpl : putL l limit s (gi e i) = putT l s.b (termL l s.own A (gi e i)) limit := by rw [← hA2]; rfl
  have hch : hashRight (putL l limit s (gi e i)).1 = true := by rw [hpl]; exact putT_hash hhs _ _
  have hcl2 : (putL l limit s (gi e i)).1.keys.length ≤ a.keys.length + (i + 1) := by rw [hpl]; have := putT_len l s.b (termL l s.own A (gi e i)) limit; omega
  have hol := ownL_len s.own (gi e i)
  have hst := stk_len e i (by omega)
  rw [← hsl, ← hk] at hst
  have htl : (s.st.take k).length = k := by simp; omega
  have hwi : IntKind.i64.wrap ((i : Int) + 1) = ((i + 1 : Nat) : Int) := nxt h hA
  have hkA : k + 1 ≤ maxA := by unfold maxA; omega
  have hap : ∀ id : Int, List.take k (i64s s.st) ++ [i64 id] = i64s (s.st.take k ++ [id]) := fun id => by simp [i64s, List.map_take]
  clear hpt hnx hcl
  by_cases k2 : (gi e i).kind = 2
  ·by_cases hx : ixN s.own (gi e i).name < 0
   ·have ht : termL l s.own A (gi e i) = ⟨2, s.own.length, 0, A⟩ := by simp [termL, k2, hx]
    have ho : ownL s.own (gi e i) = s.own ++ [(gi e i).name] := by simp [ownL, k2, hx]
    have hq := putT_PF l hhs (by omega) ⟨2, s.own.length, 0, A⟩ (by omega) (limit := limit)
    rw [← ht, ← hpl] at hq
    rw [ht] at hq
    simp (maxSteps := 3000000) [go_sem,-List.length_flatten,-List.map_drop,-List.map_take, k2, hkle]
    refine PF.call (index_PF s.own (gi e i).name) 9 (by simp [lePs]) ?_
    unfold ixN at hx
    simp (maxSteps := 3000000) [go_sem,-List.length_flatten,-List.map_drop,-List.map_take, Kc, hkle, hx]
    intro _
    refine ⟨_, clip49_PF s.own, ?_⟩
    have hoA : s.own.length + 1 ≤ maxA := by unfold maxA; omega
    simp (maxSteps := 3000000) [go_sem,-List.length_flatten,-List.map_drop,-List.map_take, Kc, hkle, hoA, aappc]
    refine PF.call hq 9 (by simp [lePs]) ?_
    rw [ho] at hgood hol
    clear hq hpl
    generalize putL l limit s (gi e i) = p at *
    obtain ⟨c, id, bad⟩ := p
    by_cases hb : bad = 0
    ·subst hb
     simp (maxSteps := 3000000) [go_sem,-List.length_flatten,-List.map_drop,-List.map_take, Kc]
     intro _ _
     have hfn : ((List.map (fun s => [AV.str s]) s.own).flatten ++ [AV.str (gi e i).name]) = ((s.own ++ [(gi e i).name]).map fun s => [AV.str s]).flatten := by simp
     have hfc := chunk_flat (sz := 1) (f := fun s : ByteArray => [AV.str s]) (l := s.own ++ [(gi e i).name]) (by simp)
     rw [← hfn, List.length_append, List.length_singleton] at hfc
     have hfl : ((List.map (fun s => [AV.str s]) s.own).flatten ++ [AV.str (gi e i).name]).length = s.own.length + 1 := by rw [hfn, len_flat (f := fun s : ByteArray => [AV.str s]) (sz := 1) (by simp)]; simp
     refine ⟨⟨hkle, hkA⟩, kn _ _ ⟨e.length - (i + 1), _, _, by omega, (Wk.freeze 15 (i := 6) (g := 0) (off := 0) (len := s.own.length + 1) (sz := 1) (c := false) (cs := (List.map (fun s => [AV.str s]) s.own).flatten ++ [AV.str (gi e i).name]) (by simp [Tm.get]) rfl (by rw [hfl]; omega)).trans (Wk.tell 4 (by omega) (by simp [Tm.get, hwi, hkle, hfc, -List.length_flatten]) (by simp; rintro x (⟨k, _, rfl⟩ | rfl) y hy <;> (simp at hy; subst hy; simp)) (by simp) (by exact ⟨rlb_kd, by simp [RLB], rlb_kd, rlb_i64s, trivial⟩)), ⟨i + 1, ⟨c, s.own ++ [(gi e i).name], s.st.take k ++ [id]⟩, g + 1, rfl, h, hch, hcl2, by simp only at hol ⊢; omega, by simp only [List.length_append, List.length_singleton, htl, hst], hgood rfl, rfl, rfl⟩⟩⟩
    ·simp (maxSteps := 3000000) [go_sem,-List.length_flatten,-List.map_drop,-List.map_take, Kc, hb, kr]
     rw [← hQ, hbad hb]
     simp (maxSteps := 3000000) [go_sem,-List.length_flatten,-List.map_drop,-List.map_take]
   ·have hx' : 0 ≤ ixN s.own (gi e i).name := by omega
    have ht : termL l s.own A (gi e i) = ⟨2, ixN s.own (gi e i).name, 0, A⟩ := by simp [termL, k2, hx]
    have ho : ownL s.own (gi e i) = s.own := by simp [ownL, k2, hx]
    have hq := putT_PF l hhs (by omega) ⟨2, ixN s.own (gi e i).name, 0, A⟩ (by omega) (limit := limit)
    rw [← ht, ← hpl] at hq
    rw [ht] at hq
    simp (maxSteps := 3000000) [go_sem,-List.length_flatten,-List.map_drop,-List.map_take, k2, hkle]
    refine PF.call (index_PF s.own (gi e i).name) 9 (by simp [lePs]) ?_
    unfold ixN at hx hq
    simp (maxSteps := 3000000) [go_sem,-List.length_flatten,-List.map_drop,-List.map_take, Kc, hkle, hx]
    refine PF.call hq 9 (by simp [lePs]) ?_
    rw [ho] at hgood hol
    clear hq hpl
    generalize putL l limit s (gi e i) = p at *
    obtain ⟨c, id, bad⟩ := p
    by_cases hb : bad = 0
    ·subst hb
     simp (maxSteps := 3000000) [go_sem,-List.length_flatten,-List.map_drop,-List.map_take, Kc]
     intro _ _
     refine ⟨⟨hkle, hkA⟩, kn _ _ (Kl_next (e.length - (i + 1)) 4 (by omega) ⟨i + 1, ⟨c, s.own, s.st.take k ++ [id]⟩, g + 1, rfl, h, hch, hcl2, by simp only at hol ⊢; omega, by simp only [List.length_append, List.length_singleton, htl, hst], hgood rfl, rfl, rfl⟩ (by simp [Tm.get, hwi, hkle]) (by simp) (by simp) ⟨rlb_kd, by simp [RLB], rlb_kd, rlb_i64s, trivial⟩ (by omega))⟩
    ·simp (maxSteps := 3000000) [go_sem,-List.length_flatten,-List.map_drop,-List.map_take, Kc, hb, kr]
     rw [← hQ, hbad hb]
     simp (maxSteps := 3000000) [go_sem,-List.length_flatten,-List.map_drop,-List.map_take]
  by_cases k6 : (gi e i).kind = 6
  ·have hw6 : IntKind.i64.wrap ((gi e i).n - 1) = (gi e i).n - 1 := by have := h8 k6; exact w64 (by omega) (by omega)
   have ht : termL l s.own A (gi e i) = ⟨6, fstAt (fun s => decide (s.name = (gi e i).name)) l, (gi e i).n - 1, A⟩ := by simp [termL, k6]
   have ho : ownL s.own (gi e i) = s.own := by simp [ownL, k6]
   have hq := putT_PF l hhs (by omega) ⟨6, fstAt (fun s => decide (s.name = (gi e i).name)) l, (gi e i).n - 1, A⟩ (by omega) (limit := limit)
   rw [← ht, ← hpl] at hq
   rw [ht] at hq
   simp (maxSteps := 3000000) [go_sem,-List.length_flatten,-List.map_drop,-List.map_take, k2, k6, hkle]
   refine ⟨_, sfind_PF l (gi e i).name, ?_⟩
   simp (maxSteps := 3000000) [go_sem,-List.length_flatten,-List.map_drop,-List.map_take, Kc, hkle, disP_cons, indB, apartB, apartS, refA, aliveRd, hw6]
   refine PF.call hq 9 (by simp [lePs]) ?_
   rw [ho] at hgood hol
   clear hq hpl
   generalize putL l limit s (gi e i) = p at *
   obtain ⟨c, id, bad⟩ := p
   by_cases hb : bad = 0
   ·subst hb
    simp (maxSteps := 3000000) [go_sem,-List.length_flatten,-List.map_drop,-List.map_take, Kc]
    intro _ _
    refine ⟨⟨hkle, hkA⟩, kn _ _ (Kl_next (e.length - (i + 1)) 4 (by omega) ⟨i + 1, ⟨c, s.own, s.st.take k ++ [id]⟩, g + 1, rfl, h, hch, hcl2, by simp only at hol ⊢; omega, by simp only [List.length_append, List.length_singleton, htl, hst], hgood rfl, rfl, rfl⟩ (by simp [Tm.get, hwi, hkle]) (by simp) (by simp) ⟨rlb_kd, by simp [RLB], rlb_kd, rlb_i64s, trivial⟩ (by omega))⟩
   ·simp (maxSteps := 3000000) [go_sem,-List.length_flatten,-List.map_drop,-List.map_take, Kc, hb, kr]
    rw [← hQ, hbad hb]
    simp (maxSteps := 3000000) [go_sem,-List.length_flatten,-List.map_drop,-List.map_take]
  by_cases k3 : (gi e i).kind = 3
  ·have ht : termL l s.own A (gi e i) = ⟨3, fstAt (fun s => decide (s.name = (gi e i).name)) l, 0, A⟩ := by simp [termL, k3]
   have ho : ownL s.own (gi e i) = s.own := by simp [ownL, k3]
   have hq := putT_PF l hhs (by omega) ⟨3, fstAt (fun s => decide (s.name = (gi e i).name)) l, 0, A⟩ (by omega) (limit := limit)
   rw [← ht, ← hpl] at hq
   rw [ht] at hq
   simp (maxSteps := 3000000) [go_sem,-List.length_flatten,-List.map_drop,-List.map_take, k2, k6, k3, hkle]
   refine PF.call (sfind_PF l (gi e i).name) 9 (by simp [lePs]) ?_
   simp (maxSteps := 3000000) [go_sem,-List.length_flatten,-List.map_drop,-List.map_take, Kc, hkle]
   refine PF.call hq 9 (by simp [lePs]) ?_
   rw [ho] at hgood hol
   clear hq hpl
   generalize putL l limit s (gi e i) = p at *
   obtain ⟨c, id, bad⟩ := p
   by_cases hb : bad = 0
   ·subst hb
    simp (maxSteps := 3000000) [go_sem,-List.length_flatten,-List.map_drop,-List.map_take, Kc]
    intro _ _
    refine ⟨⟨hkle, hkA⟩, kn _ _ (Kl_next (e.length - (i + 1)) 4 (by omega) ⟨i + 1, ⟨c, s.own, s.st.take k ++ [id]⟩, g + 1, rfl, h, hch, hcl2, by simp only at hol ⊢; omega, by simp only [List.length_append, List.length_singleton, htl, hst], hgood rfl, rfl, rfl⟩ (by simp [Tm.get, hwi, hkle]) (by simp) (by simp) ⟨rlb_kd, by simp [RLB], rlb_kd, rlb_i64s, trivial⟩ (by omega))⟩
   ·simp (maxSteps := 3000000) [go_sem,-List.length_flatten,-List.map_drop,-List.map_take, Kc, hb, kr]
    rw [← hQ, hbad hb]
    simp (maxSteps := 3000000) [go_sem,-List.length_flatten,-List.map_drop,-List.map_take]
  have ht : termL l s.own A (gi e i) = ⟨(gi e i).kind, 0, 0, A⟩ := by simp [termL, k2, k6, k3]
  have ho : ownL s.own (gi e i) = s.own := by simp [ownL, k2]
  have hq := putT_PF l hhs (by omega) ⟨(gi e i).kind, 0, 0, A⟩ (by omega) (limit := limit)
  rw [← ht, ← hpl] at hq
  rw [ht] at hq
  simp (maxSteps := 3000000) [go_sem,-List.length_flatten,-List.map_drop,-List.map_take, k2, k6, k3, hkle]
  refine PF.call hq 9 (by simp [lePs]) ?_
  rw [ho] at hgood hol
  clear hq hpl
  generalize putL l limit s (gi e i) = p at *
  obtain ⟨c, id, bad⟩ := p
  by_cases hb : bad = 0
  ·subst hb
   simp (maxSteps := 3000000) [go_sem,-List.length_flatten,-List.map_drop,-List.map_take, Kc]
   intro _ _
   refine ⟨⟨hkle, hkA⟩, kn _ _ (Kl_next (e.length - (i + 1)) 4 (by omega) ⟨i + 1, ⟨c, s.own, s.st.take k ++ [id]⟩, g + 1, rfl, h, hch, hcl2, by simp only at hol ⊢; omega, by simp only [List.length_append, List.length_singleton, htl, hst], hgood rfl, rfl, rfl⟩ (by simp [Tm.get, hwi, hkle]) (by simp) (by simp) ⟨rlb_kd, by simp [RLB], rlb_kd, rlb_i64s, trivial⟩ (by omega))⟩
  ·simp (maxSteps := 3000000) [go_sem,-List.length_flatten,-List.map_drop,-List.map_take, Kc, hb, kr]
   rw [← hQ, hbad hb]
   simp (maxSteps := 3000000) [go_sem,-List.length_flatten,-List.map_drop,-List.map_take]
 ·--END
  have ei : i = e.length := by omega
  subst ei
  have hs0 : 0 < s.st.length := by omega
  have hr : loadP l a names e limit = (s.b, s.own, gi s.st 0, 0) := by
   unfold loadP
   rw [hrun, List.drop_length, runL]
   rfl
  obtain ⟨x, st, hst⟩ : ∃ x st, s.st = x :: st := by
   cases hc : s.st with
   | nil => rw [hc] at hs0; simp at hs0
   | cons x st => exact ⟨x, st, rfl⟩
  rw [hst] at hr ⊢
  simp (maxSteps := 3000000) [go_sem,-List.length_flatten,-List.map_drop,-List.map_take, h, kx, disP_cons, indB, apartB, apartS, refA, aliveRd]
  rw [← hQ, hr]
  simp (maxSteps := 3000000) [go_sem,-List.length_flatten,-List.map_drop,-List.map_take, gi]
end Go.AM

namespace Go.AM
open Go.Proofs
set_option maxRecDepth 100000
set_option linter.unusedVariables false
set_option linter.unusedSimpArgs false
attribute [local go_sem] Function.comp_def argsT Opd.ev Tm.get put ares mapMo ares1 snilP bldParts bslParts putAt AV.cells AV.one astore aload loadCs callArgs abin abinInt aapp elems appMore appNone preLen aFa aFld apart aExt aPick aNot aLens aEqa cellsK fitsA LK.fitsA leavesA leafA nilD aNilc aCint aCid alive alen alenOk Rle lePs len_flat
/-! ### Stores that grow -/
def Pre (a b : Kd) : Prop := ∃ ks, b.keys = a.keys ++ ks
theorem Pre.refl (a : Kd) : Pre a a := ⟨[], by simp⟩
theorem Pre.trans {a b c : Kd} : Pre a b → Pre b c → Pre a c := fun ⟨x, h⟩ ⟨y, k⟩ => ⟨x ++ y, by rw [k, h, List.append_assoc]⟩
theorem Pre.len {a b : Kd} : Pre a b → a.keys.length ≤ b.keys.length := fun ⟨x, h⟩ => by rw [h]; simp
theorem Pre.key {a b : Kd} (h : Pre a b) {i : Nat} (hi : i < a.keys.length) : gi b.keys (i : Int) = gi a.keys (i : Int) := by
 obtain ⟨x, h⟩ := h
 rw [h, giApp hi]
theorem Pre.term {a b : Kd} (h : Pre a b) {i : Nat} (hi : i < a.keys.length) : termAt b (i : Int) = termAt a (i : Int) := by
 have := h.len
 rw [termAt_in (by omega) (by omega), termAt_in (by omega) (by omega), h.key hi]
theorem termOf_key (t : Tm0) : termOf (keyT t) = (t, true) := by
 have : ¬ (keyT t).length < 3 := by simp [keyT]
 unfold termOf
 rw [if_neg this]
 cases t
 simp [keyT, gi, List.getD]
theorem putK_pre (a : Kd) (key : List Int) : Pre a (putK a key).1 := by
 unfold putK
 split
 ·exact .refl _
 ·exact ⟨[key], rfl⟩
theorem putK_at (a : Kd) (key : List Int) : ∃ n : Nat, (putK a key).2.1 = n ∧ n < (putK a key).1.keys.length ∧ gi (putK a key).1.keys (n : Int) = key := by
 unfold putK
 by_cases h : 0 ≤ fstAt (fun x => decide (x = key)) a.keys
 ·rw [if_pos h]
  have h1 := fst_at h
  have h2 := fst_lt (p := fun x => decide (x = key)) (l := a.keys)
  refine ⟨(fstAt (fun x => decide (x = key)) a.keys).toNat, by simp only; omega, by simp only; omega, ?_⟩
  rw [show (((fstAt (fun x => decide (x = key)) a.keys).toNat : Nat) : Int) = fstAt (fun x => decide (x = key)) a.keys by omega]
  simpa using h1
 ·rw [if_neg h]
  exact ⟨a.keys.length, rfl, by simp, giEnd⟩
theorem putT_pre (l : List Sg) (a : Kd) (t : Tm0) (limit : Int) : Pre a (putT l a t limit).1 := by
 unfold putT
 split
 ·exact .refl _
 split
 ·exact .refl _
 ·exact putK_pre a _
theorem putT_ok {l : List Sg} {a : Kd} {t : Tm0} {limit : Int} (h : (putT l a t limit).2.2 = 0) : mayBe l a.keys.length t = true ∧ putT l a t limit = ((putK a (keyT t)).1, (putK a (keyT t)).2.1, 0) := by
 unfold putT at h ⊢
 by_cases h1 : mayBe l a.keys.length t = false
 ·rw [if_pos h1] at h; simp at h
 rw [if_neg h1] at h ⊢
 by_cases h2 : (putK a (keyT t)).2.2 = true ∧ limit ≤ a.keys.length
 ·rw [if_pos h2] at h; simp at h
 rw [if_neg h2]
 exact ⟨by simpa using h1, rfl⟩
theorem putT_at {l : List Sg} {a : Kd} {t : Tm0} {limit : Int} (h : (putT l a t limit).2.2 = 0) : ∃ n : Nat, (putT l a t limit).2.1 = n ∧ n < (putT l a t limit).1.keys.length ∧ termAt (putT l a t limit).1 (n : Int) = (t, true) := by
 obtain ⟨_, h2⟩ := putT_ok h
 obtain ⟨n, k1, k2, k3⟩ := putK_at a (keyT t)
 rw [h2]
 refine ⟨n, k1, k2, ?_⟩
 simp only
 rw [termAt_in (by omega) (by omega), k3, termOf_key]
theorem right_putK {l : List Sg} {a : Kd} {t : Tm0} (hs : storeRight l a = true) (hm : mayBe l a.keys.length t = true) : storeRight l (putK a (keyT t)).1 = true := by
 obtain ⟨h1, h2, h3⟩ := right_term hs
 have hh := right_put h1 (keyT t)
 have hp := putK_pre a (keyT t)
 have hl := hp.len
 unfold storeRight
 rw [Bool.and_eq_true, Bool.and_eq_true, decide_eq_true_eq, decide_eq_true_eq]
 refine ⟨⟨hh, by omega⟩, fun i hi => ?_⟩
 by_cases hia : i < a.keys.length
 ·have := h3 i hia
  unfold termOk at this ⊢
  rw [hp.term hia]
  exact this
 ·have hk := putK_len a (keyT t)
  have e : i = a.keys.length := by omega
  subst e
  have ht : termAt (putK a (keyT t)).1 (a.keys.length : Int) = (t, true) := by
   rw [termAt_in (by omega) (by omega)]
   have : gi (putK a (keyT t)).1.keys (a.keys.length : Int) = keyT t := by
    unfold putK at hi ⊢
    by_cases h : 0 ≤ fstAt (fun x => decide (x = keyT t)) a.keys
    ·rw [if_pos h] at hi; exact absurd hi (Nat.lt_irrefl _)
    ·rw [if_neg h]; exact giEnd
   rw [this, termOf_key]
  unfold termOk
  rw [ht]
  exact ⟨rfl, hm, fun h => by omega⟩
theorem right_putT {l : List Sg} {a : Kd} (hs : storeRight l a = true) (t : Tm0) (limit : Int) : storeRight l (putT l a t limit).1 = true := by
 unfold putT
 by_cases h1 : mayBe l a.keys.length t = false
 ·rw [if_pos h1]; exact hs
 rw [if_neg h1]
 by_cases h2 : (putK a (keyT t)).2.2 = true ∧ limit ≤ a.keys.length
 ·rw [if_pos h2]; exact hs
 rw [if_neg h2]
 exact right_putK hs (by simpa using h1)
/-! ### Terms whose variables all have names -/
def Nmd (l : List Sg) (a : Kd) (names : List ByteArray) (n : Nat) : Prop := ∀ x, Rch a n x → unnamed l a names x = false
theorem rch_step {a : Kd} {n m : Nat} (hm : (m : Int) ∈ (termAt a n).1.args) {y : Int} (h : Rch a m y) : Rch a n y := by
 induction h with
 | self => exact .arg .self hm
 | arg _ hx ih => exact .arg ih hx
theorem rch_cases {a : Kd} (ha : argsIn a) {n : Nat} (hn : n < a.keys.length) {y : Int} (h : Rch a n y) : y = n ∨ ∃ m : Nat, (m : Int) ∈ (termAt a n).1.args ∧ Rch a m y := by
 induction h with
 | self => exact .inl rfl
 | arg hz hx ih =>
  rename_i z x
  rcases ih with rfl | ⟨m, h1, h2⟩
  ·have := ha n hn x hx
   obtain ⟨m, rfl⟩ : ∃ m : Nat, x = m := ⟨x.toNat, by omega⟩
   exact .inr ⟨m, hx, .self⟩
  ·exact .inr ⟨m, h1, .arg h2 hx⟩
theorem Nmd.args {l : List Sg} {a : Kd} {names : List ByteArray} {n m : Nat} (h : Nmd l a names n) (hm : (m : Int) ∈ (termAt a n).1.args) : Nmd l a names m := fun x hx => h x (rch_step hm hx)
theorem Nmd.mk {l : List Sg} {a : Kd} {names : List ByteArray} {n : Nat} (ha : argsIn a) (hn : n < a.keys.length) (h0 : unnamed l a names n = false) (h : ∀ m : Nat, (m : Int) ∈ (termAt a n).1.args → Nmd l a names m) : Nmd l a names n := fun x hx => by
 rcases rch_cases ha hn hx with rfl | ⟨m, h1, h2⟩
 ·exact h0
 ·exact h m h1 x h2
theorem ndT_more {l : List Sg} {names ns : List ByteArray} {t : Tm0} (hf : t.kind = 2 → 0 ≤ t.sym) (h : (ndT l names t).2 = true) : ndT l (names ++ ns) t = ndT l names t := by
 unfold ndT at h ⊢
 by_cases k : t.kind = 2
 ·simp only [if_pos k] at h ⊢
  by_cases hn : (names.length : Int) ≤ t.sym
  ·rw [if_pos hn] at h; simp at h
  ·have := hf k
   obtain ⟨n, hn2⟩ : ∃ n : Nat, t.sym = n := ⟨t.sym.toNat, by omega⟩
   rw [if_neg hn, if_neg (by rw [List.length_append]; omega), hn2, giApp (by omega)]
 ·simp only [if_neg k]
theorem tree_more {l : List Sg} {a b : Kd} {names ns : List ByteArray} (hp : Pre a b) (ha : SF l a) (hb : SF l b) : ∀ n : Nat, n < a.keys.length → Nmd l a names n → treeN l b (names ++ ns) n = treeN l a names n ∧ Nmd l b (names ++ ns) n := by
 intro n
 induction n using Nat.strongRecOn with
 | _ n ih =>
  intro hn hN
  have hl := hp.len
  have ht := hp.term hn
  have h0 := hN n .self
  have hnd : ndT l (names ++ ns) (termAt a n).1 = ndT l names (termAt a n).1 := ndT_more (ha.fit n hn).2.1.1 (by simpa [unnamed] using h0)
  have hin := ha.ain n hn
  have key : ∀ m : Nat, (m : Int) ∈ (termAt a n).1.args → treeN l b (names ++ ns) m = treeN l a names m ∧ Nmd l b (names ++ ns) m := fun m hm => by
   have := hin m hm
   exact ih m (by omega) (by omega) (hN.args hm)
  constructor
  ·rw [treeN_eq hb.ain (by omega), treeN_eq ha.ain hn, ht, hnd]
   congr 1
   refine flatMap_cong fun x hx => ?_
   have := hin x hx
   obtain ⟨m, rfl⟩ : ∃ m : Nat, x = m := ⟨x.toNat, by omega⟩
   exact (key m hx).1
  ·refine Nmd.mk hb.ain (by omega) ?_ (fun m hm => ?_)
   ·unfold unnamed at h0 ⊢
    rw [ht, hnd]
    exact h0
   ·rw [ht] at hm
    exact (key m hm).2
end Go.AM

namespace Go.AM
open Go.Proofs
set_option maxRecDepth 100000
set_option linter.unusedVariables false
set_option linter.unusedSimpArgs false
attribute [local go_sem] Function.comp_def argsT Opd.ev Tm.get put ares mapMo ares1 snilP bldParts bslParts putAt AV.cells AV.one astore aload loadCs callArgs abin abinInt aapp elems appMore appNone preLen aFa aFld apart aExt aPick aNot aLens aEqa cellsK fitsA LK.fitsA leavesA leafA nilD aNilc aCint aCid alive alen alenOk Rle lePs len_flat
/-! ### Loading, step by step -/
def Al {α β : Type} (R : α → β → Prop) : List α → List β → Prop
 | [], [] => True
 | x :: l, y :: m => R x y ∧ Al R l m
 | _, _ => False
theorem Al.len {α β : Type} {R : α → β → Prop} : ∀ {l : List α} {m : List β}, Al R l m → l.length = m.length
 | [], [], _ => rfl
 | x :: l, y :: m, h => by simp [Al.len h.2]
 | [], y :: m, h => h.elim
 | x :: l, [], h => h.elim
theorem Al.mono {α β : Type} {R S : α → β → Prop} (hR : ∀ x y, R x y → S x y) : ∀ {l : List α} {m : List β}, Al R l m → Al S l m
 | [], [], _ => trivial
 | x :: l, y :: m, h => ⟨hR _ _ h.1, Al.mono hR h.2⟩
 | [], y :: m, h => h.elim
 | x :: l, [], h => h.elim
theorem Al.take {α β : Type} {R : α → β → Prop} : ∀ (p : Nat) {l : List α} {m : List β}, Al R l m → Al R (l.take p) (m.take p)
 | 0, l, m, h => by simp [Al]
 | p + 1, [], [], _ => by simp [Al]
 | p + 1, x :: l, y :: m, h => ⟨h.1, Al.take p h.2⟩
 | p + 1, [], y :: m, h => h.elim
 | p + 1, x :: l, [], h => h.elim
theorem Al.drop {α β : Type} {R : α → β → Prop} : ∀ (p : Nat) {l : List α} {m : List β}, Al R l m → Al R (l.drop p) (m.drop p)
 | 0, l, m, h => by simpa using h
 | p + 1, [], [], _ => by simp [Al]
 | p + 1, x :: l, y :: m, h => by simpa using Al.drop p h.2
 | p + 1, [], y :: m, h => h.elim
 | p + 1, x :: l, [], h => h.elim
theorem Al.left {α β : Type} {R : α → β → Prop} : ∀ {l : List α} {m : List β}, Al R l m → ∀ x ∈ l, ∃ y ∈ m, R x y
 | x :: l, y :: m, h, z, hz => by
  rcases List.mem_cons.1 hz with rfl | hz
  ·exact ⟨y, by simp, h.1⟩
  ·obtain ⟨w, h1, h2⟩ := Al.left h.2 z hz
   exact ⟨w, by simp [h1], h2⟩
 | [], y :: m, h, _, _ => h.elim
 | x :: l, [], h, _, _ => h.elim
def spanN (e : List Nd) (x : En) : List Nd := (e.take (x.r + 1)).drop x.s
theorem span_app {e : List Nd} {i j k : Nat} (h1 : i ≤ j) (h2 : j ≤ k) (hk : k ≤ e.length) : (e.take j).drop i ++ (e.take k).drop j = (e.take k).drop i := by
 have e1 : (e.take k).drop i = ((e.take k).take j ++ (e.take k).drop j).drop i := by rw [List.take_append_drop]
 rw [e1, List.drop_append_of_le_length (by simp; omega), List.take_take, Nat.min_eq_left h2]
theorem span_kids {e : List Nd} : ∀ {st : List En} {j : Nat} (p : Nat), chain j st → j ≤ e.length → p ≤ st.length → ((st.take p).reverse.flatMap (spanN e)) = (e.take j).drop (if p = 0 then j else (gi st ((p - 1 : Nat) : Int)).s)
 | st, j, 0, h, hj, _ => by simp
 | [], j, p + 1, h, hj, hp => by simp at hp
 | x :: st, j, p + 1, h, hj, hp => by
  obtain ⟨h1, h2, h3⟩ := h
  have hp' : p ≤ st.length := by simpa using hp
  have ih := span_kids (e := e) p h3 (by omega) hp'
  have hc := (chain_drop p h3 hp').2
  have e1 : (if p + 1 = 0 then j else (gi (x :: st) ((p + 1 - 1 : Nat) : Int)).s) = (if p = 0 then x.s else (gi st ((p - 1 : Nat) : Int)).s) := by
   cases p with
   | zero => simp [gi]
   | succ p => simp [gi]
  rw [e1, List.take_succ_cons, List.reverse_cons, List.flatMap_append, ih]
  simp only [List.flatMap_cons, List.flatMap_nil, List.append_nil, spanN]
  rw [h1, span_app hc (by omega) hj]
/-- The state behind so many nodes. -/
def stN (l : List Sg) (limit : Int) (s0 : Ls) (e : List Nd) : Nat → Ls
 | 0 => s0
 | i + 1 => stepL l limit (stN l limit s0 e i) (gi e i)
def okN (l : List Sg) (limit : Int) (s0 : Ls) (e : List Nd) (i : Nat) : Prop := ∀ j : Nat, j < i → (putL l limit (stN l limit s0 e j) (gi e j)).2.2 = 0
theorem run_ok {l : List Sg} {limit : Int} {s0 : Ls} {e : List Nd} (h : (runL l limit s0 e).2 = 0) : ∀ i, i ≤ e.length → okN l limit s0 e i ∧ runL l limit s0 e = runL l limit (stN l limit s0 e i) (e.drop i)
 | 0, _ => ⟨fun j hj => by omega, rfl⟩
 | i + 1, hi => by
  obtain ⟨h1, h2⟩ := run_ok h i (by omega)
  have h3 := h
  rw [h2, runL_next (by omega)] at h3
  by_cases hz : (putL l limit (stN l limit s0 e i) (gi e i)).2.2 = 0
  ·refine ⟨all_next h1 hz, ?_⟩
   rw [h2, runL_next (by omega), if_pos hz]
   rfl
  ·rw [if_neg hz] at h3
   exact absurd h3 hz
theorem run_end {l : List Sg} {limit : Int} {s0 : Ls} {e : List Nd} (h : (runL l limit s0 e).2 = 0) : okN l limit s0 e e.length ∧ runL l limit s0 e = (stN l limit s0 e e.length, 0) := by
 obtain ⟨h1, h2⟩ := run_ok h e.length (Nat.le_refl _)
 rw [List.drop_length, runL] at h2
 exact ⟨h1, h2⟩
theorem run_of {l : List Sg} {limit : Int} {s0 : Ls} {e : List Nd} (h : okN l limit s0 e e.length) : ∀ i, i ≤ e.length → runL l limit s0 e = runL l limit (stN l limit s0 e i) (e.drop i)
 | 0, _ => rfl
 | i + 1, hi => by
  rw [run_of h i (by omega), runL_next (by omega), if_pos (h i (by omega))]
  rfl
end Go.AM

namespace Go.AM
open Go.Proofs
set_option maxRecDepth 100000
set_option linter.unusedVariables false
set_option linter.unusedSimpArgs false
attribute [local go_sem] Function.comp_def argsT Opd.ev Tm.get put ares mapMo ares1 snilP bldParts bslParts putAt AV.cells AV.one astore aload loadCs callArgs abin abinInt aapp elems appMore appNone preLen aFa aFld apart aExt aPick aNot aLens aEqa cellsK fitsA LK.fitsA leavesA leafA nilD aNilc aCint aCid alive alen alenOk Rle lePs len_flat
/-! ### A loaded term is its nodes -/
theorem nd_ext {x y : Nd} (h1 : x.kind = y.kind) (h2 : x.name = y.name) (h3 : x.n = y.n) : x = y := by
 cases x
 cases y
 simp only at h1 h2 h3
 subst h1 h2 h3
 rfl
theorem node_ok {l : List Sg} {own : List ByteArray} {n : Nd} {A : List Int} {many : Int} (hm : mayBe l many (termL l own A n) = true) (hx : ndMay n = true) (hA : A.length = pN n) : ndT l (ownL own n) (termL l own A n) = (n, true) := by
 have hk := mayKind hx
 have hN := mayN hx
 have hmk := mayBe_kind hm
 have hAn : (A.length : Int) = partsN n := by unfold pN at hA; omega
 have hkk : n.kind = 2 ∨ n.kind = 3 ∨ n.kind = 6 ∨ (n.kind = 0 ∨ n.kind = 1 ∨ n.kind = 4 ∨ n.kind = 5) := by omega
 unfold ndMay at hx
 unfold partsN at hAn
 rcases hkk with k | k | k | k
 ·have h0 := hN.2.2.2 (by omega)
  rw [if_neg (by omega), h0] at hAn
  by_cases hi : ixN own n.name < 0
  ·have e1 : termL l own A n = ⟨2, own.length, 0, A⟩ := by simp [termL, k, hi]
   have e2 : ownL own n = own ++ [n.name] := by simp [ownL, k, hi]
   rw [e1, e2]
   unfold ndT
   rw [if_pos rfl, if_neg (by simp only [List.length_append, List.length_singleton]; omega)]
   simp only [giEnd]
   exact Prod.ext (nd_ext k.symm rfl (by simp only; omega)) rfl
  ·have e1 : termL l own A n = ⟨2, ixN own n.name, 0, A⟩ := by simp [termL, k, hi]
   have e2 : ownL own n = own := by simp [ownL, hi]
   have h1 := fst_at (p := fun x => decide (x = n.name)) (l := own) (by unfold ixN at hi; omega)
   have h2 := fst_lt (p := fun x => decide (x = n.name)) (l := own)
   rw [e1, e2]
   unfold ndT
   unfold ixN
   rw [if_pos rfl, if_neg (by simp only; omega)]
   refine Prod.ext (nd_ext k.symm (by simpa using h1) (by simp only; omega)) rfl
 ·have e1 : termL l own A n = ⟨3, fstAt (fun s => decide (s.name = n.name)) l, 0, A⟩ := by simp [termL, k]
  rw [e1] at hmk ⊢
  simp at hmk
  have h1 := fst_at (p := fun s : Sg => decide (s.name = n.name)) (l := l) hmk.1.1
  rw [if_neg (by omega)] at hAn
  unfold ndT
  simp only [if_neg (show ¬ (3 : Int) = 2 by omega), if_true]
  exact Prod.ext (nd_ext k.symm (by simpa using h1) (by simp only; omega)) rfl
 ·have e1 : termL l own A n = ⟨6, fstAt (fun s => decide (s.name = n.name)) l, n.n - 1, A⟩ := by simp [termL, k]
  rw [e1] at hmk ⊢
  simp at hmk
  have h1 := fst_at (p := fun s : Sg => decide (s.name = n.name)) (l := l) hmk.1.1
  unfold ndT
  simp only [if_neg (show ¬ (6 : Int) = 2 by omega), if_neg (show ¬ (6 : Int) = 3 by omega), if_true]
  exact Prod.ext (nd_ext k.symm (by simpa using h1) (by simp only; omega)) rfl
 ·have e1 : termL l own A n = ⟨n.kind, 0, 0, A⟩ := by
   simp only [termL]
   rw [if_neg (by omega), if_neg (by omega), if_neg (by omega)]
  have hnm : n.name = ⟨#[]⟩ := by
   rcases k with k | k | k | k <;> simp [k] at hx <;> exact hx.1
  rw [if_neg (by omega)] at hAn
  rw [e1]
  unfold ndT
  simp only
  rw [if_neg (by omega), if_neg (by omega), if_neg (by omega)]
  exact Prod.ext (nd_ext rfl hnm.symm hAn) rfl
/-- What a number on the stack stands for. -/
def Rep (l : List Sg) (s : Ls) (e : List Nd) (id : Int) (x : En) : Prop := ∃ n : Nat, id = n ∧ n < s.b.keys.length ∧ treeN l s.b s.own n = spanN e x ∧ Nmd l s.b s.own n
structure LInv (l : List Sg) (s0 : Ls) (e : List Nd) (i : Nat) (s : Ls) : Prop where
 right : storeRight l s.b = true
 pre : Pre s0.b s.b
 own : ∃ ns, s.own = s0.own ++ ns
 al : Al (Rep l s e) s.st.reverse (stk e i)
 few : s.b.keys.length ≤ s0.b.keys.length + i
theorem LInv.step {l : List Sg} (hr : sigRight l = true) {s0 s : Ls} {e : List Nd} (he : ndsMay e) {i : Nat} (hi : i < e.length) (hb : s0.b.keys.length + e.length ≤ 1000000) {limit : Int} (h : LInv l s0 e i s) (hz : (putL l limit s (gi e i)).2.2 = 0) : LInv l s0 e (i + 1) (stepL l limit s (gi e i)) := by
 obtain ⟨h1, h2⟩ := he i hi
 have hN := mayN h1
 have hpl : pN (gi e i) ≤ (stk e i).length := by unfold pN; omega
 have hal := h.al.len
 rw [List.length_reverse] at hal
 have hr2 : storeRight l (stepL l limit s (gi e i)).b = true := right_putT h.right _ _
 have hp2 : Pre s.b (stepL l limit s (gi e i)).b := putT_pre _ _ _ _
 have hl2 := putT_len l s.b (termL l s.own (argL s.st (gi e i)) (gi e i)) limit
 have hfew := h.few
 have hl3 : (stepL l limit s (gi e i)).b.keys.length ≤ s.b.keys.length + 1 := hl2
 have hsf := sf_of hr h.right (by omega)
 have hsf2 := sf_of hr hr2 (by omega)
 have hown : ∃ ns, (stepL l limit s (gi e i)).own = s.own ++ ns := by
  show ∃ ns, ownL s.own (gi e i) = s.own ++ ns
  unfold ownL
  split
  ·exact ⟨_, rfl⟩
  ·exact ⟨[], by simp⟩
 have hrep : ∀ id x, Rep l s e id x → Rep l (stepL l limit s (gi e i)) e id x := by
  rintro id x ⟨n, rfl, k1, k2, k3⟩
  obtain ⟨ns, hns⟩ := hown
  have := tree_more (ns := ns) hp2 hsf hsf2 n k1 k3
  rw [← hns] at this
  exact ⟨n, rfl, by have := hp2.len; omega, by rw [this.1, k2], this.2⟩
 have hst : (stepL l limit s (gi e i)).st.reverse = (putL l limit s (gi e i)).2.1 :: s.st.reverse.drop (pN (gi e i)) := by
  show (s.st.take (s.st.length - pN (gi e i)) ++ [(putL l limit s (gi e i)).2.1]).reverse = _
  rw [List.reverse_append, List.reverse_take]
  rw [show s.st.length - (s.st.length - pN (gi e i)) = pN (gi e i) by omega]
  rfl
 refine ⟨hr2, h.pre.trans hp2, ?_, ?_, by omega⟩
 ·obtain ⟨ns, h3⟩ := hown
  obtain ⟨ms, h4⟩ := h.own
  exact ⟨ms ++ ns, by rw [h3, h4, List.append_assoc]⟩
 rw [hst, stk]
 refine ⟨?_, (h.al.drop _).mono hrep⟩
 obtain ⟨n, k1, k2, k3⟩ := putT_at hz
 have hmb := (putT_ok hz).1
 have hA : argL s.st (gi e i) = (s.st.reverse.take (pN (gi e i))).reverse := by
  unfold argL
  rw [List.take_reverse, List.reverse_reverse]
 have hAl : (argL s.st (gi e i)).length = pN (gi e i) := by
  rw [hA, List.length_reverse, List.length_take, List.length_reverse]
  omega
 have hnd := node_ok hmb h1 hAl
 have hkid := (h.al.take (pN (gi e i))).mono hrep
 have harg : ∀ x ∈ argL s.st (gi e i), ∃ y : En, Rep l (stepL l limit s (gi e i)) e x y := fun x hx => by
  rw [hA, List.mem_reverse] at hx
  obtain ⟨y, _, hy⟩ := hkid.left x hx
  exact ⟨y, hy⟩
 have hch := stk_chain e i (fun j hj => by
  obtain ⟨q1, q2⟩ := he j (by omega)
  have := (mayN q1).1
  exact ⟨this, by unfold pN; omega⟩)
 have k2' : n < (stepL l limit s (gi e i)).b.keys.length := k2
 have k3' : termAt (stepL l limit s (gi e i)).b n = (termL l s.own (argL s.st (gi e i)) (gi e i), true) := k3
 have hta : (termL l s.own (argL s.st (gi e i)) (gi e i)).args = argL s.st (gi e i) := rfl
 have hnd' : ndT l (stepL l limit s (gi e i)).own (termL l s.own (argL s.st (gi e i)) (gi e i)) = (gi e i, true) := hnd
 have hfm : ∀ {A : List Int} {B : List En}, Al (Rep l (stepL l limit s (gi e i)) e) A B → A.reverse.flatMap (treeN l (stepL l limit s (gi e i)).b (stepL l limit s (gi e i)).own) = B.reverse.flatMap (spanN e) := by
  intro A
  induction A with
  | nil =>
   intro B hB
   cases B with
   | nil => rfl
   | cons _ _ => exact hB.elim
  | cons x A ih =>
   intro B hB
   cases B with
   | nil => exact hB.elim
   | cons y B =>
    obtain ⟨⟨m, rfl, _, q, _⟩, hB⟩ := hB
    rw [List.reverse_cons, List.flatMap_append, ih hB, List.reverse_cons, List.flatMap_append]
    simp only [List.flatMap_cons, List.flatMap_nil, List.append_nil, q]
 refine ⟨n, k1, k2', ?_, ?_⟩
 ·have hsp := span_kids (e := e) (pN (gi e i)) hch (by omega) hpl
  have hcd := (chain_drop (pN (gi e i)) hch hpl).2
  rw [treeN_eq hsf2.ain k2', k3', hta, hnd', hA, hfm (h.al.take (pN (gi e i))|>.mono hrep), hsp]
  show _ = (e.take (i + 1)).drop (if pN (gi e i) = 0 then i else (gi (stk e i) ((pN (gi e i) - 1 : Nat) : Int)).s)
  rw [List.take_succ_eq_append_getElem hi, List.drop_append_of_le_length (by simp; omega)]
  simp [gi, List.getD, hi]
 ·refine Nmd.mk hsf2.ain k2' ?_ (fun m hm => ?_)
  ·unfold unnamed
   rw [k3', hnd']
   rfl
  ·rw [k3', hta] at hm
   obtain ⟨y, q, hq, _, _, q2⟩ := harg _ hm
   have : m = q := by omega
   subst this
   exact q2
theorem LInv.all {l : List Sg} (hr : sigRight l = true) {s0 : Ls} (h0 : storeRight l s0.b = true) (hst : s0.st = []) {e : List Nd} (he : ndsMay e) (hb : s0.b.keys.length + e.length ≤ 1000000) {limit : Int} : ∀ i, i ≤ e.length → okN l limit s0 e i → LInv l s0 e i (stN l limit s0 e i)
 | 0, _, _ => ⟨h0, .refl _, ⟨[], by simp [stN]⟩, by simp [stN, hst, stk, Al], by simp [stN]⟩
 | i + 1, hi, ho => (LInv.all hr h0 hst he hb i (by omega) (fun j hj => ho j (by omega))).step hr he (by omega) hb (ho i (by omega))
end Go.AM

namespace Go.AM
open Go.Proofs
set_option maxRecDepth 100000
set_option linter.unusedVariables false
set_option linter.unusedSimpArgs false
attribute [local go_sem] Function.comp_def argsT Opd.ev Tm.get put ares mapMo ares1 snilP bldParts bslParts putAt AV.cells AV.one astore aload loadCs callArgs abin abinInt aapp elems appMore appNone preLen aFa aFld apart aExt aPick aNot aLens aEqa cellsK fitsA LK.fitsA leavesA leafA nilD aNilc aCint aCid alive alen alenOk Rle lePs len_flat
/-! ### load.Load's laws -/
theorem right_good {e : List Nd} (he : ndsMay e) : goodN e e.length := fun j hj => by
 obtain ⟨q1, q2⟩ := he j hj
 have := (mayN q1).1
 exact ⟨this, by unfold pN; omega⟩
theorem loadP_ok {l : List Sg} {a : Kd} {names : List ByteArray} {e : List Nd} {limit : Int} (h : (loadP l a names e limit).2.2.2 = 0) : okN l limit ⟨a, names, []⟩ e e.length ∧ loadP l a names e limit = ((stN l limit ⟨a, names, []⟩ e e.length).b, (stN l limit ⟨a, names, []⟩ e e.length).own, gi (stN l limit ⟨a, names, []⟩ e e.length).st 0, 0) := by
 unfold loadP at h ⊢
 by_cases hz : (runL l limit ⟨a, names, []⟩ e).2 = 0
 ·obtain ⟨h1, h2⟩ := run_end hz
  rw [if_pos hz, h2]
  exact ⟨h1, rfl⟩
 ·rw [if_neg hz] at h
  exact absurd h hz
theorem loadP_bad {l : List Sg} {a : Kd} {names : List ByteArray} {e : List Nd} {limit : Int} (h : (loadP l a names e limit).2.2.2 ≠ 0) : loadP l a names e limit = (a, names, 0, (loadP l a names e limit).2.2.2) := by
 unfold loadP at h ⊢
 by_cases hz : (runL l limit ⟨a, names, []⟩ e).2 = 0
 ·rw [if_pos hz] at h
  exact absurd rfl h
 ·rw [if_neg hz]
theorem load_ok {l : List Sg} {a : Kd} {names : List ByteArray} {e : List Nd} {limit : Int} (hr : sigRight l = true) (hs : storeRight l a = true) (hR : rightN e = true) (hb : a.keys.length + e.length ≤ 1000000) (h : (loadP l a names e limit).2.2.2 = 0) :
  ∃ n : Nat, loadP l a names e limit = ((stN l limit ⟨a, names, []⟩ e e.length).b, (stN l limit ⟨a, names, []⟩ e e.length).own, (n : Int), 0) ∧ okN l limit ⟨a, names, []⟩ e e.length ∧ LInv l ⟨a, names, []⟩ e e.length (stN l limit ⟨a, names, []⟩ e e.length) ∧ (stN l limit ⟨a, names, []⟩ e e.length).st = [(n : Int)] ∧ n < (stN l limit ⟨a, names, []⟩ e e.length).b.keys.length ∧ treeN l (stN l limit ⟨a, names, []⟩ e e.length).b (stN l limit ⟨a, names, []⟩ e e.length).own n = e ∧ Nmd l (stN l limit ⟨a, names, []⟩ e e.length).b (stN l limit ⟨a, names, []⟩ e e.length).own n := by
 obtain ⟨h1, h2⟩ := loadP_ok h
 obtain ⟨k1, k2, k3, k4⟩ := rightN_spec hR
 have hI := LInv.all hr (s0 := ⟨a, names, []⟩) hs rfl k1 hb (limit := limit) e.length (Nat.le_refl _) h1
 generalize stN l limit ⟨a, names, []⟩ e e.length = s at *
 have hch := stk_chain e e.length (right_good k1)
 have hal := hI.al
 obtain ⟨x, hx⟩ : ∃ x, stk e e.length = [x] := List.length_eq_one_iff.1 k2
 rw [hx] at hch hal
 have hl := hal.len
 rw [List.length_reverse] at hl
 obtain ⟨id, hid⟩ : ∃ id, s.st = [id] := List.length_eq_one_iff.1 hl
 rw [hid] at hal
 obtain ⟨⟨n, rfl, q1, q2, q3⟩, _⟩ := hal
 obtain ⟨c1, c2, c3⟩ := hch
 have c3 : x.s = 0 := c3
 refine ⟨n, by rw [h2, hid]; rfl, h1, hI, hid, q1, ?_, q3⟩
 rw [q2]
 unfold spanN
 rw [c1, c3, List.take_length, List.drop_zero]
theorem nodes_back {l : List Sg} {b : Kd} {own : List ByteArray} {e : List Nd} {n : Nat} (hsf : SF l b) (hn : n < b.keys.length) (ht : treeN l b own n = e) (hN : Nmd l b own n) (hR : rightN e = true) (h3 : e.length ≤ 300) : nodesP l b own n = (e, 0) := by
 unfold nodesP
 rw [if_neg (by omega), if_neg, ht, if_neg (by omega), if_neg (by simp [hR])]
 rintro ⟨k, h1, h2⟩
 have := (mem_belowP hsf.ain h1).2.2.2.2
 rw [Int.toNat_natCast] at this
 rw [hN k this] at h2
 cases h2
theorem text_back {l : List Sg} {b : Kd} {own : List ByteArray} {e : List Nd} {n : Nat} (hsf : SF l b) (hn : n < b.keys.length) (ht : treeN l b own n = e) (hN : Nmd l b own n) (hR : rightN e = true) (h3 : e.length ≤ 300) : textP l b own n = (enN e (e.length - 1)).t := by
 unfold textP
 rw [nodes_back hsf hn ht hN hR h3]
 rfl
/-! ### Loaded again -/
theorem mayBe_more {l : List Sg} {m m' : Int} (hm : m ≤ m') {t : Tm0} (h : mayBe l m t = true) : mayBe l m' t = true := by
 unfold mayBe at h ⊢
 rw [Bool.and_eq_true, decide_eq_true_eq] at h ⊢
 exact ⟨fun i hi => by have := h.1 i hi; omega, h.2⟩
theorem putT_have {l : List Sg} {c : Kd} (hh : hashRight c = true) {t : Tm0} {n : Nat} (hn : n < c.keys.length) (hk : gi c.keys (n : Int) = keyT t) (hm : mayBe l c.keys.length t = true) (limit : Int) : putT l c t limit = (c, (n : Int), 0) := by
 unfold hashRight at hh
 rw [Bool.and_eq_true, decide_eq_true_eq] at hh
 have h1 := hh.1 n hn
 rw [hk] at h1
 have hp : putK c (keyT t) = (c, (n : Int), false) := by
  unfold putK
  rw [h1, if_pos (by omega)]
 unfold putT
 rw [hp, hm]
 simp
theorem putT_key {l : List Sg} {a : Kd} {t : Tm0} {limit : Int} (h : (putT l a t limit).2.2 = 0) : ∃ n : Nat, (putT l a t limit).2.1 = n ∧ n < (putT l a t limit).1.keys.length ∧ gi (putT l a t limit).1.keys (n : Int) = keyT t := by
 obtain ⟨_, h2⟩ := putT_ok h
 rw [h2]
 exact putK_at a (keyT t)
theorem own_again {own ns : List ByteArray} {n : Nd} (hk : n.kind = 2) : ixN (ownL own n ++ ns) n.name = if ixN own n.name < 0 then (own.length : Int) else ixN own n.name := by
 by_cases hi : ixN own n.name < 0
 ·have e2 : ownL own n = own ++ [n.name] := by simp [ownL, hk, hi]
  rw [if_pos hi, e2]
  unfold ixN at hi ⊢
  have h1 := fst_end (p := fun x => decide (x = n.name)) (l := own) (x := n.name) hi (by simp)
  rw [fst_app (by omega), h1]
 ·have e2 : ownL own n = own := by simp [ownL, hi]
  rw [if_neg hi, e2]
  unfold ixN at hi ⊢
  rw [fst_app (by omega)]
theorem term_again {l : List Sg} {own ns : List ByteArray} {A : List Int} {n : Nd} : termL l (ownL own n ++ ns) A n = termL l own A n ∧ ownL (ownL own n ++ ns) n = ownL own n ++ ns := by
 by_cases hk : n.kind = 2
 ·have h1 := own_again (own := own) (ns := ns) hk
  have h0 : ¬ ixN (ownL own n ++ ns) n.name < 0 := by
   rw [h1]
   split <;> omega
  refine ⟨?_, ?_⟩
  ·unfold termL
   rw [if_neg h0, h1]
  ·show (if n.kind = 2 ∧ ixN (ownL own n ++ ns) n.name < 0 then _ else _) = _
   rw [if_neg (fun h => h0 h.2)]
 ·unfold termL ownL
  simp [hk]
theorem stN_own {l : List Sg} {limit : Int} {s0 : Ls} {e : List Nd} : ∀ i j, i ≤ j → ∃ ns, (stN l limit s0 e j).own = (stN l limit s0 e i).own ++ ns
 | i, 0, h => by
  have : i = 0 := by omega
  subst this
  exact ⟨[], by simp⟩
 | i, j + 1, h => by
  by_cases e1 : i = j + 1
  ·subst e1; exact ⟨[], by simp⟩
  ·obtain ⟨ns, h1⟩ := stN_own (l := l) (limit := limit) (s0 := s0) (e := e) i j (by omega)
   show ∃ ns, ownL (stN l limit s0 e j).own (gi e j) = _
   unfold ownL
   split
   ·exact ⟨ns ++ [(gi e j).name], by rw [h1, List.append_assoc]⟩
   ·exact ⟨ns, h1⟩
theorem stN_pre {l : List Sg} {limit : Int} {s0 : Ls} {e : List Nd} : ∀ i j, i ≤ j → Pre (stN l limit s0 e i).b (stN l limit s0 e j).b
 | i, 0, h => by
  have : i = 0 := by omega
  subst this
  exact .refl _
 | i, j + 1, h => by
  by_cases e1 : i = j + 1
  ·subst e1; exact .refl _
  ·exact (stN_pre i j (by omega)).trans (putT_pre _ _ _ _)
theorem reload {l : List Sg} {limit limit2 : Int} {s0 : Ls} {e : List Nd} {c : Kd} {own2 : List ByteArray} (ho : okN l limit s0 e e.length) (h0 : s0.st = []) (hp : Pre (stN l limit s0 e e.length).b c) (hn : ∃ ns, own2 = (stN l limit s0 e e.length).own ++ ns) (hh : hashRight c = true) :
  ∀ i, i ≤ e.length → okN l limit2 ⟨c, own2, []⟩ e i ∧ stN l limit2 ⟨c, own2, []⟩ e i = ⟨c, own2, (stN l limit s0 e i).st⟩
 | 0, _ => ⟨fun j hj => by omega, by simp [stN, h0]⟩
 | i + 1, hi => by
  obtain ⟨h1, h2⟩ := reload ho h0 hp hn hh i (by omega) (limit2 := limit2)
  have hz := ho i (by omega)
  have hpre : Pre (putL l limit (stN l limit s0 e i) (gi e i)).1 c := (stN_pre (l := l) (limit := limit) (s0 := s0) (e := e) (i + 1) e.length hi).trans hp
  have how : ∃ ns, own2 = ownL (stN l limit s0 e i).own (gi e i) ++ ns := by
   obtain ⟨ns, q1⟩ := hn
   obtain ⟨ms, q2⟩ := stN_own (l := l) (limit := limit) (s0 := s0) (e := e) (i + 1) e.length hi
   have q3 : (stN l limit s0 e (i + 1)).own = ownL (stN l limit s0 e i).own (gi e i) := rfl
   exact ⟨ms ++ ns, by rw [q1, q2, q3, List.append_assoc]⟩
  generalize hs : stN l limit s0 e i = s at *
  obtain ⟨ns, rfl⟩ := how
  obtain ⟨n, k1, k2, k3⟩ := putT_key hz
  have hmb := (putT_ok hz).1
  have hl1 := (putT_pre l s.b (termL l s.own (argL s.st (gi e i)) (gi e i)) limit).len
  have hl2 := hpre.len
  have hput : putL l limit2 ⟨c, ownL s.own (gi e i) ++ ns, s.st⟩ (gi e i) = (c, (n : Int), 0) := by
   unfold putL
   simp only [term_again.1]
   refine putT_have hh (n := n) (by have := (show n < (putL l limit s (gi e i)).1.keys.length from k2); omega) ?_ (mayBe_more (by have : s.b.keys.length ≤ (putL l limit s (gi e i)).1.keys.length := hl1; omega) hmb) _
   rw [hpre.key k2]
   exact k3
  refine ⟨all_next h1 (by rw [h2, hput]), ?_⟩
  show stepL l limit2 (stN l limit2 ⟨c, ownL s.own (gi e i) ++ ns, []⟩ e i) (gi e i) = ⟨c, ownL s.own (gi e i) ++ ns, (stN l limit s0 e (i + 1)).st⟩
  rw [h2]
  unfold stepL
  simp only [hput, term_again.2]
  show _ = Ls.mk _ _ (stepL l limit (stN l limit s0 e i) (gi e i)).st
  rw [hs]
  unfold stepL
  simp only [Ls.mk.injEq, true_and]
  rw [show (putL l limit s (gi e i)).2.1 = (n : Int) from k1]
  exact ⟨(term_again (l := l) (A := [])).2, rfl⟩
end Go.AM

namespace Go.AM
open Go.Proofs
set_option maxRecDepth 100000
set_option linter.unusedVariables false
set_option linter.unusedSimpArgs false
attribute [local go_sem] Function.comp_def argsT Opd.ev Tm.get put ares mapMo ares1 snilP bldParts bslParts putAt AV.cells AV.one astore aload loadCs callArgs abin abinInt aapp elems appMore appNone preLen aFa aFld apart aExt aPick aNot aLens aEqa cellsK fitsA LK.fitsA leavesA leafA nilD aNilc aCint aCid alive alen alenOk Rle lePs len_flat
/-! ### The laws' own example -/
def l0 : List Sg := [⟨⟨#[99]⟩, ⟨#[43]⟩⟩]
def e0 : List Nd := [⟨2, ⟨#[88]⟩, 0⟩, ⟨3, ⟨#[99]⟩, 1⟩]
theorem sig0 : sigRight l0 = true := by decide
theorem new0 : storeRight l0 newK = true := by kernel_rfl
theorem load0 : (loadP l0 newK [] e0 9).2 = ([⟨#[88]⟩], 3, 0) := by kernel_rfl
theorem load0k : (loadP l0 newK [] e0 9).1.keys.length = 4 := by kernel_rfl
theorem may0 : ndsMay e0 := fun i hi => by
 have : i = 0 ∨ i = 1 := by simp [e0] at hi; omega
 rcases this with rfl | rfl
 ·exact ⟨by kernel_rfl, by decide⟩
 ·exact ⟨by kernel_rfl, by decide⟩
theorem stk0 : (stk e0 e0.length).length = 1 := by kernel_rfl
theorem dep0 : (enN e0 (e0.length - 1)).d ≤ 40 := by decide
theorem txt0 : (enN e0 (e0.length - 1)).t = ⟨#[99, 40, 88, 41]⟩ := by kernel_rfl
theorem right0 : rightN e0 = true := by
 unfold rightN
 simp only [Bool.and_eq_true, decide_eq_true_eq]
 exact ⟨may0, stk0, dep0⟩
theorem nm0 : namesOk [⟨#[88]⟩] = true := by kernel_rfl
theorem text0 : textP l0 (loadP l0 newK [] e0 9).1 [⟨#[88]⟩] 3 = ⟨#[99, 40, 88, 41]⟩ := by
 have h0 : (loadP l0 newK [] e0 9).2.2.2 = 0 := by rw [load0]
 obtain ⟨n, h1, _, hI, _, h3, h4, h5⟩ := load_ok sig0 new0 right0 (by decide) h0
 have h2 := load0
 rw [h1] at h2 ⊢
 simp only [Prod.mk.injEq] at h2
 have hn : (3 : Int) = (n : Int) := h2.2.1.symm
 rw [hn, ← h2.1]
 have hk : newK.keys.length = 2 := rfl
 have hf := hI.few
 have he : e0.length = 2 := rfl
 rw [text_back (sf_of sig0 hI.right (by simp only [hk] at hf; omega)) h3 h4 h5 right0 (by decide), txt0]
theorem c9_ok : cFn Tryz.prog an0 Tryz.f9 = some c9 := by kernel_rfl
theorem shown_PF : PF Tryz.prog 9 [] (.bool true) := by
 refine PFk 9 hm Tryz.func9 c9_ok (Nat.le_of_ble_eq_true rfl) (by simp) (by simp) ?_
 have hl := load_PF (l := l0) (a := newK) (e := e0) (right_term new0).1 (right_good may0) (fun j hj h => by have := (mayN (may0 j hj).1).2.2.1 h; omega) (by rw [stk0]; omega) (by decide) [] (by decide) 9
 have ht := text0
 have h2 := load0
 have hk := load0k
 have hs : storeRight l0 (loadP l0 newK [] e0 9).1 = true := by
  have h0 : (loadP l0 newK [] e0 9).2.2.2 = 0 := by rw [load0]
  obtain ⟨n, h1, _, hI, _⟩ := load_ok sig0 new0 right0 (by decide) h0
  rw [h1]
  exact hI.right
 generalize loadP l0 newK [] e0 9 = p at *
 obtain ⟨b, p2⟩ := p
 simp only at h2 hk hs ht
 subst h2
 have ht2 := text16_PF (sf_of sig0 hs (by omega)) [⟨#[88]⟩] 3
 rw [ht] at ht2
 have hn := named10_PF [⟨#[88]⟩]
 rw [nm0] at hn
 simp (maxSteps := 3000000) [go_sem,-List.length_flatten,-List.map_drop,-List.map_take, c9]
 refine PF.call rnew_PF 9 (by simp [lePs]) ?_
 simp (maxSteps := 3000000) [go_sem,-List.length_flatten,-List.map_drop,-List.map_take, Kc]
 refine PF.call hl 9 (by simp [lePs, l0, e0]) ?_
 have hgi : gi [(⟨#[88]⟩ : ByteArray)] 0 = ⟨#[88]⟩ := rfl
 simp (maxSteps := 3000000) [go_sem,-List.length_flatten,-List.map_drop,-List.map_take, Kc, hk, hgi]
 intro _ _
 refine PF.call ht2 9 (by simp [lePs, l0]) ?_
 simp (maxSteps := 3000000) [go_sem,-List.length_flatten,-List.map_drop,-List.map_take, Kc]
 refine PF.call hn 9 (by simp [lePs]) ?_
 simp (maxSteps := 3000000) [go_sem,-List.length_flatten,-List.map_drop,-List.map_take, Kc]
end Go.AM

namespace Go.AM
open Go.Proofs
set_option maxRecDepth 100000
set_option linter.unusedVariables false
set_option linter.unusedSimpArgs false
attribute [local go_sem] Function.comp_def argsT Opd.ev Tm.get put ares mapMo ares1 snilP bldParts bslParts putAt AV.cells AV.one astore aload loadCs callArgs abin abinInt aapp elems appMore appNone preLen aFa aFld apart aExt aPick aNot aLens aEqa cellsK fitsA LK.fitsA leavesA leafA nilD aNilc aCint aCid alive alen alenOk Rle lePs len_flat
def c5b : AFn := ⟨110, .seq (.reg false [⟨some 1, .box (.tmp 0), none⟩, ⟨some 2, .mov (.lit (.bool false)), none⟩]) (.seq (.reg false [⟨some 14, .fa 0 (.tmp 1), none⟩, ⟨some 15, .load 1 false (.tmp 14), none⟩, ⟨some 3, .mov (.tmp 15), none⟩]) (.seq (.reg false [⟨some 16, .fa 1 (.tmp 1), none⟩, ⟨some 17, .load 2 true (.tmp 16), none⟩, ⟨some 4, .alloc [.nilS, .nilS], none⟩, ⟨none, .store 2 (.tmp 4) (.tmp 17), none⟩]) (.seq (.reg false [⟨some 18, .fa 3 (.tmp 1), none⟩, ⟨some 19, .load 1 false (.tmp 18), none⟩, ⟨some 5, .mov (.tmp 19), none⟩]) (.seq (.reg false [⟨some 20, .fa 4 (.tmp 1), none⟩, ⟨some 21, .load 1 false (.tmp 20), none⟩, ⟨some 6, .mov (.tmp 21), none⟩]) (.seq (.reg false [⟨some 22, .call (.lit (.fn (.func 9) [] [])) [], none⟩, ⟨some 7, .mov (.tmp 22), none⟩]) (.seq (.seq (.reg false [⟨some 23, .mov (.tmp 3), none⟩, ⟨some 24, .load 2 true (.tmp 4), none⟩, ⟨some 25, .mov (.tmp 5), none⟩, ⟨some 26, .call (.lit (.fn (.func 12) [] [])) [.tmp 23, .tmp 24, .tmp 25], none⟩, ⟨some 27, .not (.tmp 26), none⟩, ⟨some 28, .mov (.tmp 27), none⟩, ⟨some 29, .mov (.tmp 6), some ((28, false))⟩, ⟨some 30, .call (.lit (.fn (.func 18) [] [])) [.tmp 29], some ((28, false))⟩, ⟨some 31, .not (.tmp 30), some ((28, false))⟩, ⟨some 32, .pick (.tmp 28) (.lit (.bool true)) (.tmp 31), none⟩, ⟨some 33, .mov (.tmp 32), none⟩, ⟨some 34, .mov (.tmp 6), some ((33, false))⟩, ⟨some 35, .call (.lit (.fn (.func 19) [] [])) [.tmp 34], some ((33, false))⟩, ⟨some 36, .not (.tmp 35), some ((33, false))⟩, ⟨some 37, .pick (.tmp 33) (.lit (.bool true)) (.tmp 36), none⟩]) (.cond (.tmp 37) (.seq (.reg false [⟨some 38, .mov (.tmp 7), none⟩, ⟨some 2, .mov (.tmp 38), none⟩]) .ret) .skip)) (.seq (.reg false [⟨some 40, .mov (.tmp 3), none⟩, ⟨some 41, .load 2 true (.tmp 4), none⟩, ⟨some 42, .mov (.tmp 5), none⟩, ⟨some 43, .mov (.tmp 6), none⟩, ⟨some 44, .call (.lit (.fn (.func 20) [] [])) [.tmp 40, .tmp 41, .tmp 42, .tmp 43, .lit (.int .i64 5000)], none⟩, ⟨some 39, .mov (.tmp 44), none⟩, ⟨some 45, .ext (.tmp 39) 0, none⟩, ⟨some 46, .ext (.tmp 39) 1, none⟩, ⟨some 47, .ext (.tmp 39) 2, none⟩, ⟨some 48, .ext (.tmp 39) 3, none⟩, ⟨some 8, .alloc [.nilS, .nilS], none⟩, ⟨none, .store 2 (.tmp 8) (.tmp 45), none⟩, ⟨some 9, .mov (.tmp 46), none⟩, ⟨some 10, .mov (.tmp 47), none⟩, ⟨some 11, .mov (.tmp 48), none⟩]) (.seq (.seq (.reg false [⟨some 49, .fa 0 (.tmp 8), none⟩, ⟨some 50, .load 1 false (.tmp 49), none⟩, ⟨some 51, .len (.tmp 50), none⟩, ⟨some 52, .fa 0 (.tmp 4), none⟩, ⟨some 53, .load 1 false (.tmp 52), none⟩, ⟨some 54, .len (.tmp 53), none⟩, ⟨some 55, .bin .lss (.tmp 51) (.tmp 54), none⟩, ⟨some 56, .mov (.tmp 55), none⟩, ⟨some 57, .mov (.tmp 9), some ((56, false))⟩, ⟨some 58, .len (.tmp 57), some ((56, false))⟩, ⟨some 59, .mov (.tmp 5), some ((56, false))⟩, ⟨some 60, .len (.tmp 59), some ((56, false))⟩, ⟨some 61, .bin .lss (.tmp 58) (.tmp 60), some ((56, false))⟩, ⟨some 62, .pick (.tmp 56) (.lit (.bool true)) (.tmp 61), none⟩]) (.cond (.tmp 62) (.seq (.reg false [⟨some 2, .mov (.lit (.bool false)), none⟩]) .ret) .skip)) (.seq (.seq (.reg false [⟨some 12, .mov (.lit (.int .i64 0)), none⟩]) (.block 0 (.loop (.seq (.seq (.reg false [⟨some 63, .mov (.tmp 12), none⟩, ⟨some 64, .fa 0 (.tmp 4), none⟩, ⟨some 65, .load 1 false (.tmp 64), none⟩, ⟨some 66, .len (.tmp 65), none⟩, ⟨some 67, .bin .lss (.tmp 63) (.tmp 66), none⟩]) (.cond (.tmp 67) .skip (.exit 0))) (.seq (.block 1 (.seq (.reg true [⟨some 70, .fa 0 (.tmp 4), none⟩, ⟨some 71, .load 1 false (.tmp 70), none⟩, ⟨some 72, .mov (.tmp 12), none⟩, ⟨some 73, .ia 1 (.tmp 71) (.tmp 72), none⟩, ⟨some 74, .load 1 false (.tmp 73), none⟩, ⟨some 75, .fa 0 (.tmp 8), none⟩, ⟨some 76, .load 1 false (.tmp 75), none⟩, ⟨some 77, .mov (.tmp 12), none⟩, ⟨some 78, .ia 1 (.tmp 76) (.tmp 77), none⟩, ⟨some 79, .load 1 false (.tmp 78), none⟩, ⟨some 80, .call (.lit (.fn (.func 25) [] [])) [.tmp 74, .tmp 79], none⟩, ⟨some 81, .not (.tmp 80), none⟩]) (.cond (.tmp 81) (.seq (.reg false [⟨some 2, .mov (.lit (.bool false)), none⟩]) .ret) .skip))) (.reg false [⟨some 68, .mov (.tmp 12), none⟩, ⟨some 69, .bin .add (.tmp 68) (.lit (.int .i64 1)), none⟩, ⟨some 12, .mov (.tmp 69), none⟩])))))) (.seq (.seq (.reg false [⟨some 13, .mov (.lit (.int .i64 0)), none⟩]) (.block 2 (.loop (.seq (.seq (.reg false [⟨some 82, .mov (.tmp 13), none⟩, ⟨some 83, .mov (.tmp 5), none⟩, ⟨some 84, .len (.tmp 83), none⟩, ⟨some 85, .bin .lss (.tmp 82) (.tmp 84), none⟩]) (.cond (.tmp 85) .skip (.exit 2))) (.seq (.block 3 (.seq (.reg true [⟨some 88, .mov (.tmp 9), none⟩, ⟨some 89, .mov (.tmp 13), none⟩, ⟨some 90, .ia 1 (.tmp 88) (.tmp 89), none⟩, ⟨some 91, .load 1 false (.tmp 90), none⟩, ⟨some 92, .mov (.tmp 5), none⟩, ⟨some 93, .mov (.tmp 13), none⟩, ⟨some 94, .ia 1 (.tmp 92) (.tmp 93), none⟩, ⟨some 95, .load 1 false (.tmp 94), none⟩, ⟨some 96, .bin .neq (.tmp 91) (.tmp 95), none⟩]) (.cond (.tmp 96) (.seq (.reg false [⟨some 2, .mov (.lit (.bool false)), none⟩]) .ret) .skip))) (.reg false [⟨some 86, .mov (.tmp 13), none⟩, ⟨some 87, .bin .add (.tmp 86) (.lit (.int .i64 1)), none⟩, ⟨some 13, .mov (.tmp 87), none⟩])))))) (.seq (.reg false [⟨some 97, .mov (.tmp 7), none⟩, ⟨some 98, .mov (.tmp 97), none⟩, ⟨some 99, .fa 0 (.tmp 8), some ((98, true))⟩, ⟨some 100, .load 1 false (.tmp 99), some ((98, true))⟩, ⟨some 101, .len (.tmp 100), some ((98, true))⟩, ⟨some 102, .fa 0 (.tmp 4), some ((98, true))⟩, ⟨some 103, .load 1 false (.tmp 102), some ((98, true))⟩, ⟨some 104, .len (.tmp 103), some ((98, true))⟩, ⟨some 105, .mov (.tmp 6), some ((98, true))⟩, ⟨some 106, .len (.tmp 105), some ((98, true))⟩, ⟨some 107, .bin .add (.tmp 104) (.tmp 106), some ((98, true))⟩, ⟨some 108, .bin .leq (.tmp 101) (.tmp 107), some ((98, true))⟩, ⟨some 109, .pick (.tmp 98) (.tmp 108) (.lit (.bool false)), none⟩, ⟨some 2, .mov (.tmp 109), none⟩]) .ret))))))))))), [.tmp 2]⟩
def c6b : AFn := ⟨110, .seq (.reg false [⟨some 6, .mov (.lit (.bool false)), none⟩]) (.seq (.reg false [⟨some 16, .call (.lit (.fn (.func 9) [] [])) [], none⟩, ⟨some 7, .mov (.tmp 16), none⟩]) (.seq (.seq (.reg false [⟨some 17, .mov (.tmp 0), none⟩, ⟨some 18, .len (.tmp 17), none⟩, ⟨some 19, .bin .gtr (.tmp 18) (.lit (.int .i64 64)), none⟩, ⟨some 20, .mov (.tmp 19), none⟩, ⟨some 21, .mov (.tmp 0), some ((20, false))⟩, ⟨some 22, .call (.lit (.fn (.func 26) [] [])) [.tmp 21], some ((20, false))⟩, ⟨some 23, .not (.tmp 22), some ((20, false))⟩, ⟨some 24, .pick (.tmp 20) (.lit (.bool true)) (.tmp 23), none⟩, ⟨some 25, .mov (.tmp 24), none⟩, ⟨some 26, .mov (.tmp 1), some ((25, false))⟩, ⟨some 27, .call (.lit (.fn (.func 18) [] [])) [.tmp 26], some ((25, false))⟩, ⟨some 28, .not (.tmp 27), some ((25, false))⟩, ⟨some 29, .pick (.tmp 25) (.lit (.bool true)) (.tmp 28), none⟩, ⟨some 30, .mov (.tmp 29), none⟩, ⟨some 31, .mov (.tmp 2), some ((30, false))⟩, ⟨some 32, .call (.lit (.fn (.func 18) [] [])) [.tmp 31], some ((30, false))⟩, ⟨some 33, .not (.tmp 32), some ((30, false))⟩, ⟨some 34, .pick (.tmp 30) (.lit (.bool true)) (.tmp 33), none⟩, ⟨some 35, .mov (.tmp 34), none⟩, ⟨some 36, .mov (.tmp 1), some ((35, false))⟩, ⟨some 37, .call (.lit (.fn (.func 19) [] [])) [.tmp 36], some ((35, false))⟩, ⟨some 38, .not (.tmp 37), some ((35, false))⟩, ⟨some 39, .pick (.tmp 35) (.lit (.bool true)) (.tmp 38), none⟩, ⟨some 40, .mov (.tmp 39), none⟩, ⟨some 41, .mov (.tmp 2), some ((40, false))⟩, ⟨some 42, .call (.lit (.fn (.func 19) [] [])) [.tmp 41], some ((40, false))⟩, ⟨some 43, .not (.tmp 42), some ((40, false))⟩, ⟨some 44, .pick (.tmp 40) (.lit (.bool true)) (.tmp 43), none⟩, ⟨some 45, .mov (.tmp 44), none⟩, ⟨some 46, .mov (.tmp 1), some ((45, false))⟩, ⟨some 47, .len (.tmp 46), some ((45, false))⟩, ⟨some 48, .mov (.tmp 2), some ((45, false))⟩, ⟨some 49, .len (.tmp 48), some ((45, false))⟩, ⟨some 50, .bin .add (.tmp 47) (.tmp 49), some ((45, false))⟩, ⟨some 51, .bin .gtr (.tmp 50) (.lit (.int .i64 300)), some ((45, false))⟩, ⟨some 52, .pick (.tmp 45) (.lit (.bool true)) (.tmp 51), none⟩]) (.cond (.tmp 52) (.seq (.reg false [⟨some 53, .mov (.tmp 7), none⟩, ⟨some 6, .mov (.tmp 53), none⟩]) .ret) .skip)) (.seq (.reg false [⟨some 55, .mov (.tmp 0), none⟩, ⟨some 56, .call (.lit (.fn (.func 27) [] [])) [], none⟩, ⟨some 57, .mov (.tmp 1), none⟩, ⟨some 58, .call (.lit (.fn (.func 20) [] [])) [.tmp 55, .tmp 56, .lit .nilS, .tmp 57, .lit (.int .i64 5000)], none⟩, ⟨some 54, .mov (.tmp 58), none⟩, ⟨some 59, .ext (.tmp 54) 0, none⟩, ⟨some 60, .ext (.tmp 54) 1, none⟩, ⟨some 61, .ext (.tmp 54) 2, none⟩, ⟨some 62, .ext (.tmp 54) 3, none⟩, ⟨some 8, .alloc [.nilS, .nilS], none⟩, ⟨none, .store 2 (.tmp 8) (.tmp 59), none⟩, ⟨some 9, .mov (.tmp 60), none⟩, ⟨some 10, .mov (.tmp 61), none⟩, ⟨some 11, .mov (.tmp 62), none⟩]) (.seq (.reg false [⟨some 64, .mov (.tmp 0), none⟩, ⟨some 65, .load 2 true (.tmp 8), none⟩, ⟨some 66, .mov (.tmp 9), none⟩, ⟨some 67, .mov (.tmp 2), none⟩, ⟨some 68, .call (.lit (.fn (.func 20) [] [])) [.tmp 64, .tmp 65, .tmp 66, .tmp 67, .lit (.int .i64 5000)], none⟩, ⟨some 63, .mov (.tmp 68), none⟩, ⟨some 69, .ext (.tmp 63) 0, none⟩, ⟨some 70, .ext (.tmp 63) 1, none⟩, ⟨some 71, .ext (.tmp 63) 2, none⟩, ⟨some 72, .ext (.tmp 63) 3, none⟩, ⟨some 12, .alloc [.nilS, .nilS], none⟩, ⟨none, .store 2 (.tmp 12) (.tmp 69), none⟩, ⟨some 13, .mov (.tmp 70), none⟩, ⟨some 14, .mov (.tmp 71), none⟩, ⟨some 15, .mov (.tmp 72), none⟩]) (.seq (.seq (.reg false [⟨some 73, .mov (.tmp 11), none⟩, ⟨some 74, .bin .neq (.tmp 73) (.lit (.int .i64 0)), none⟩, ⟨some 75, .mov (.tmp 74), none⟩, ⟨some 76, .mov (.tmp 15), some ((75, false))⟩, ⟨some 77, .bin .neq (.tmp 76) (.lit (.int .i64 0)), some ((75, false))⟩, ⟨some 78, .pick (.tmp 75) (.lit (.bool true)) (.tmp 77), none⟩]) (.cond (.tmp 78) (.seq (.reg false [⟨some 79, .mov (.tmp 7), none⟩, ⟨some 6, .mov (.tmp 79), none⟩]) .ret) .skip)) (.seq (.reg false [⟨some 80, .mov (.tmp 7), none⟩, ⟨some 81, .mov (.tmp 80), none⟩, ⟨some 82, .mov (.tmp 0), some ((81, true))⟩, ⟨some 83, .load 2 true (.tmp 12), some ((81, true))⟩, ⟨some 84, .mov (.tmp 13), some ((81, true))⟩, ⟨some 85, .mov (.tmp 10), some ((81, true))⟩, ⟨some 86, .call (.lit (.fn (.func 16) [] [])) [.tmp 82, .tmp 83, .tmp 84, .tmp 85], some ((81, true))⟩, ⟨some 87, .mov (.tmp 1), some ((81, true))⟩, ⟨some 88, .call (.lit (.fn (.func 24) [] [])) [.tmp 87], some ((81, true))⟩, ⟨some 89, .bin .eql (.tmp 86) (.tmp 88), some ((81, true))⟩, ⟨some 90, .pick (.tmp 81) (.tmp 89) (.lit (.bool false)), none⟩, ⟨some 91, .mov (.tmp 90), none⟩, ⟨some 92, .mov (.tmp 0), some ((91, true))⟩, ⟨some 93, .load 2 true (.tmp 12), some ((91, true))⟩, ⟨some 94, .mov (.tmp 13), some ((91, true))⟩, ⟨some 95, .mov (.tmp 14), some ((91, true))⟩, ⟨some 96, .call (.lit (.fn (.func 16) [] [])) [.tmp 92, .tmp 93, .tmp 94, .tmp 95], some ((91, true))⟩, ⟨some 97, .mov (.tmp 2), some ((91, true))⟩, ⟨some 98, .call (.lit (.fn (.func 24) [] [])) [.tmp 97], some ((91, true))⟩, ⟨some 99, .bin .eql (.tmp 96) (.tmp 98), some ((91, true))⟩, ⟨some 100, .pick (.tmp 91) (.tmp 99) (.lit (.bool false)), none⟩, ⟨some 101, .mov (.tmp 100), none⟩, ⟨some 102, .mov (.tmp 10), some ((101, true))⟩, ⟨some 103, .mov (.tmp 14), some ((101, true))⟩, ⟨some 104, .bin .eql (.tmp 102) (.tmp 103), some ((101, true))⟩, ⟨some 105, .mov (.tmp 1), some ((101, true))⟩, ⟨some 106, .mov (.tmp 2), some ((101, true))⟩, ⟨some 107, .call (.lit (.fn (.func 15) [] [])) [.tmp 105, .tmp 106], some ((101, true))⟩, ⟨some 108, .eqa false false [.bool] (.tmp 104) (.tmp 107), some ((101, true))⟩, ⟨some 109, .pick (.tmp 101) (.tmp 108) (.lit (.bool false)), none⟩, ⟨some 6, .mov (.tmp 109), none⟩]) .ret)))))), [.tmp 6]⟩
def c7b : AFn := ⟨85, .seq (.reg false [⟨some 6, .mov (.lit (.bool false)), none⟩]) (.seq (.reg false [⟨some 15, .call (.lit (.fn (.func 9) [] [])) [], none⟩, ⟨some 7, .mov (.tmp 15), none⟩]) (.seq (.seq (.reg false [⟨some 16, .mov (.tmp 0), none⟩, ⟨some 17, .call (.lit (.fn (.func 27) [] [])) [], none⟩, ⟨some 18, .mov (.tmp 1), none⟩, ⟨some 19, .call (.lit (.fn (.func 12) [] [])) [.tmp 16, .tmp 17, .tmp 18], none⟩, ⟨some 20, .not (.tmp 19), none⟩, ⟨some 21, .mov (.tmp 20), none⟩, ⟨some 22, .mov (.tmp 2), some ((21, false))⟩, ⟨some 23, .call (.lit (.fn (.func 18) [] [])) [.tmp 22], some ((21, false))⟩, ⟨some 24, .not (.tmp 23), some ((21, false))⟩, ⟨some 25, .pick (.tmp 21) (.lit (.bool true)) (.tmp 24), none⟩, ⟨some 26, .mov (.tmp 25), none⟩, ⟨some 27, .mov (.tmp 2), some ((26, false))⟩, ⟨some 28, .call (.lit (.fn (.func 19) [] [])) [.tmp 27], some ((26, false))⟩, ⟨some 29, .not (.tmp 28), some ((26, false))⟩, ⟨some 30, .pick (.tmp 26) (.lit (.bool true)) (.tmp 29), none⟩]) (.cond (.tmp 30) (.seq (.reg false [⟨some 31, .mov (.tmp 7), none⟩, ⟨some 6, .mov (.tmp 31), none⟩]) .ret) .skip)) (.seq (.reg false [⟨some 33, .mov (.tmp 0), none⟩, ⟨some 34, .call (.lit (.fn (.func 27) [] [])) [], none⟩, ⟨some 35, .mov (.tmp 1), none⟩, ⟨some 36, .mov (.tmp 2), none⟩, ⟨some 37, .call (.lit (.fn (.func 20) [] [])) [.tmp 33, .tmp 34, .tmp 35, .tmp 36, .lit (.int .i64 5000)], none⟩, ⟨some 32, .mov (.tmp 37), none⟩, ⟨some 38, .ext (.tmp 32) 0, none⟩, ⟨some 39, .ext (.tmp 32) 1, none⟩, ⟨some 40, .ext (.tmp 32) 2, none⟩, ⟨some 41, .ext (.tmp 32) 3, none⟩, ⟨some 8, .alloc [.nilS, .nilS], none⟩, ⟨none, .store 2 (.tmp 8) (.tmp 38), none⟩, ⟨some 9, .mov (.tmp 39), none⟩, ⟨some 10, .mov (.tmp 40), none⟩, ⟨some 11, .mov (.tmp 41), none⟩]) (.seq (.seq (.reg false [⟨some 42, .mov (.tmp 11), none⟩, ⟨some 43, .bin .neq (.tmp 42) (.lit (.int .i64 0)), none⟩]) (.cond (.tmp 43) (.seq (.reg false [⟨some 44, .mov (.tmp 7), none⟩, ⟨some 45, .mov (.tmp 44), none⟩, ⟨some 46, .mov (.tmp 9), some ((45, true))⟩, ⟨some 47, .mov (.tmp 1), some ((45, true))⟩, ⟨some 48, .call (.lit (.fn (.func 22) [] [])) [.tmp 46, .tmp 47], some ((45, true))⟩, ⟨some 49, .pick (.tmp 45) (.tmp 48) (.lit (.bool false)), none⟩, ⟨some 6, .mov (.tmp 49), none⟩]) .ret) .skip)) (.seq (.reg false [⟨some 50, .mov (.tmp 2), none⟩, ⟨some 51, .call (.lit (.fn (.func 28) [] [])) [.tmp 50], none⟩, ⟨some 12, .mov (.tmp 51), none⟩]) (.seq (.reg false [⟨some 52, .bslice 1 0 [.str ⟨#[]⟩] [], none⟩, ⟨some 53, .mov (.tmp 1), none⟩, ⟨some 54, .app 1 16 (.tmp 52) (.tmp 53), none⟩, ⟨some 13, .mov (.tmp 54), none⟩]) (.seq (.seq (.reg false [⟨some 14, .mov (.lit (.int .i64 0)), none⟩]) (.block 0 (.loop (.seq (.seq (.reg false [⟨some 55, .mov (.tmp 14), none⟩, ⟨some 56, .mov (.tmp 12), none⟩, ⟨some 57, .len (.tmp 56), none⟩, ⟨some 58, .bin .lss (.tmp 55) (.tmp 57), none⟩]) (.cond (.tmp 58) .skip (.exit 0))) (.seq (.block 1 (.seq (.reg false [⟨some 61, .mov (.tmp 1), none⟩, ⟨some 62, .mov (.tmp 12), none⟩, ⟨some 63, .mov (.tmp 14), none⟩, ⟨some 64, .ia 1 (.tmp 62) (.tmp 63), none⟩, ⟨some 65, .load 1 false (.tmp 64), none⟩, ⟨some 66, .call (.lit (.fn (.func 29) [] [])) [.tmp 61, .tmp 65], none⟩, ⟨some 67, .bin .lss (.tmp 66) (.lit (.int .i64 0)), none⟩]) (.cond (.tmp 67) (.reg false [⟨some 68, .mov (.tmp 13), none⟩, ⟨some 69, .mov (.tmp 12), none⟩, ⟨some 70, .mov (.tmp 14), none⟩, ⟨some 71, .ia 1 (.tmp 69) (.tmp 70), none⟩, ⟨some 72, .load 1 false (.tmp 71), none⟩, ⟨some 73, .bslice 1 1 [.str ⟨#[]⟩] [(0, .tmp 72)], none⟩, ⟨some 74, .app 1 16 (.tmp 68) (.tmp 73), none⟩, ⟨some 13, .mov (.tmp 74), none⟩]) .skip))) (.reg false [⟨some 59, .mov (.tmp 14), none⟩, ⟨some 60, .bin .add (.tmp 59) (.lit (.int .i64 1)), none⟩, ⟨some 14, .mov (.tmp 60), none⟩])))))) (.seq (.reg false [⟨some 75, .mov (.tmp 7), none⟩, ⟨some 76, .mov (.tmp 75), none⟩, ⟨some 77, .mov (.tmp 9), some ((76, true))⟩, ⟨some 78, .mov (.tmp 13), some ((76, true))⟩, ⟨some 79, .call (.lit (.fn (.func 22) [] [])) [.tmp 77, .tmp 78], some ((76, true))⟩, ⟨some 80, .pick (.tmp 76) (.tmp 79) (.lit (.bool false)), none⟩, ⟨some 81, .mov (.tmp 80), none⟩, ⟨some 82, .mov (.tmp 9), some ((81, true))⟩, ⟨some 83, .call (.lit (.fn (.func 11) [] [])) [.tmp 82], some ((81, true))⟩, ⟨some 84, .pick (.tmp 81) (.tmp 83) (.lit (.bool false)), none⟩, ⟨some 6, .mov (.tmp 84), none⟩]) .ret)))))))), [.tmp 6]⟩
def c8b : AFn := ⟨96, .seq (.reg false [⟨some 1, .box (.tmp 0), none⟩, ⟨some 2, .mov (.lit (.bool false)), none⟩]) (.seq (.reg false [⟨some 15, .fa 0 (.tmp 1), none⟩, ⟨some 16, .load 1 false (.tmp 15), none⟩, ⟨some 3, .mov (.tmp 16), none⟩]) (.seq (.reg false [⟨some 17, .fa 1 (.tmp 1), none⟩, ⟨some 18, .load 2 true (.tmp 17), none⟩, ⟨some 4, .alloc [.nilS, .nilS], none⟩, ⟨none, .store 2 (.tmp 4) (.tmp 18), none⟩]) (.seq (.reg false [⟨some 19, .fa 3 (.tmp 1), none⟩, ⟨some 20, .load 1 false (.tmp 19), none⟩, ⟨some 5, .mov (.tmp 20), none⟩]) (.seq (.reg false [⟨some 21, .fa 4 (.tmp 1), none⟩, ⟨some 22, .load 1 false (.tmp 21), none⟩, ⟨some 6, .mov (.tmp 22), none⟩]) (.seq (.reg false [⟨some 23, .fa 5 (.tmp 1), none⟩, ⟨some 24, .load 1 false (.tmp 23), none⟩, ⟨some 7, .mov (.tmp 24), none⟩]) (.seq (.reg false [⟨some 25, .call (.lit (.fn (.func 9) [] [])) [], none⟩, ⟨some 8, .mov (.tmp 25), none⟩]) (.seq (.seq (.reg false [⟨some 26, .mov (.tmp 3), none⟩, ⟨some 27, .load 2 true (.tmp 4), none⟩, ⟨some 28, .mov (.tmp 5), none⟩, ⟨some 29, .call (.lit (.fn (.func 12) [] [])) [.tmp 26, .tmp 27, .tmp 28], none⟩, ⟨some 30, .not (.tmp 29), none⟩]) (.cond (.tmp 30) (.seq (.reg false [⟨some 31, .mov (.tmp 8), none⟩, ⟨some 2, .mov (.tmp 31), none⟩]) .ret) .skip)) (.seq (.reg false [⟨some 33, .mov (.tmp 3), none⟩, ⟨some 34, .load 2 true (.tmp 4), none⟩, ⟨some 35, .mov (.tmp 5), none⟩, ⟨some 36, .mov (.tmp 6), none⟩, ⟨some 37, .call (.lit (.fn (.func 13) [] [])) [.tmp 33, .tmp 34, .tmp 35, .tmp 36], none⟩, ⟨some 32, .mov (.tmp 37), none⟩, ⟨some 38, .ext (.tmp 32) 0, none⟩, ⟨some 39, .ext (.tmp 32) 1, none⟩, ⟨some 9, .mov (.tmp 38), none⟩, ⟨some 10, .mov (.tmp 39), none⟩]) (.seq (.reg false [⟨some 41, .mov (.tmp 3), none⟩, ⟨some 42, .load 2 true (.tmp 4), none⟩, ⟨some 43, .mov (.tmp 5), none⟩, ⟨some 44, .mov (.tmp 7), none⟩, ⟨some 45, .call (.lit (.fn (.func 13) [] [])) [.tmp 41, .tmp 42, .tmp 43, .tmp 44], none⟩, ⟨some 40, .mov (.tmp 45), none⟩, ⟨some 46, .ext (.tmp 40) 0, none⟩, ⟨some 47, .ext (.tmp 40) 1, none⟩, ⟨some 11, .mov (.tmp 46), none⟩, ⟨some 12, .mov (.tmp 47), none⟩]) (.seq (.reg false [⟨some 48, .mov (.tmp 3), none⟩, ⟨some 49, .load 2 true (.tmp 4), none⟩, ⟨some 50, .mov (.tmp 5), none⟩, ⟨some 51, .mov (.tmp 6), none⟩, ⟨some 52, .call (.lit (.fn (.func 16) [] [])) [.tmp 48, .tmp 49, .tmp 50, .tmp 51], none⟩, ⟨some 13, .mov (.tmp 52), none⟩]) (.seq (.reg false [⟨some 53, .mov (.tmp 3), none⟩, ⟨some 54, .load 2 true (.tmp 4), none⟩, ⟨some 55, .mov (.tmp 5), none⟩, ⟨some 56, .mov (.tmp 7), none⟩, ⟨some 57, .call (.lit (.fn (.func 16) [] [])) [.tmp 53, .tmp 54, .tmp 55, .tmp 56], none⟩, ⟨some 14, .mov (.tmp 57), none⟩]) (.seq (.seq (.reg false [⟨some 58, .mov (.tmp 13), none⟩, ⟨some 59, .bin .eql (.tmp 58) (.lit (.str ⟨#[]⟩)), none⟩, ⟨some 60, .mov (.tmp 10), none⟩, ⟨some 61, .bin .neq (.tmp 60) (.lit (.int .i64 0)), none⟩, ⟨some 62, .eqa true false [.bool] (.tmp 59) (.tmp 61), none⟩, ⟨some 63, .mov (.tmp 62), none⟩, ⟨some 64, .mov (.tmp 14), some ((63, false))⟩, ⟨some 65, .bin .eql (.tmp 64) (.lit (.str ⟨#[]⟩)), some ((63, false))⟩, ⟨some 66, .mov (.tmp 12), some ((63, false))⟩, ⟨some 67, .bin .neq (.tmp 66) (.lit (.int .i64 0)), some ((63, false))⟩, ⟨some 68, .eqa true false [.bool] (.tmp 65) (.tmp 67), some ((63, false))⟩, ⟨some 69, .pick (.tmp 63) (.lit (.bool true)) (.tmp 68), none⟩]) (.cond (.tmp 69) (.seq (.reg false [⟨some 2, .mov (.lit (.bool false)), none⟩]) .ret) .skip)) (.seq (.seq (.reg false [⟨some 70, .mov (.tmp 10), none⟩, ⟨some 71, .bin .neq (.tmp 70) (.lit (.int .i64 0)), none⟩, ⟨some 72, .mov (.tmp 71), none⟩, ⟨some 73, .mov (.tmp 12), some ((72, false))⟩, ⟨some 74, .bin .neq (.tmp 73) (.lit (.int .i64 0)), some ((72, false))⟩, ⟨some 75, .pick (.tmp 72) (.lit (.bool true)) (.tmp 74), none⟩]) (.cond (.tmp 75) (.seq (.reg false [⟨some 76, .mov (.tmp 8), none⟩, ⟨some 2, .mov (.tmp 76), none⟩]) .ret) .skip)) (.seq (.reg false [⟨some 77, .mov (.tmp 8), none⟩, ⟨some 78, .mov (.tmp 77), none⟩, ⟨some 79, .mov (.tmp 13), some ((78, true))⟩, ⟨some 80, .mov (.tmp 14), some ((78, true))⟩, ⟨some 81, .bin .eql (.tmp 79) (.tmp 80), some ((78, true))⟩, ⟨some 82, .mov (.tmp 6), some ((78, true))⟩, ⟨some 83, .mov (.tmp 7), some ((78, true))⟩, ⟨some 84, .bin .eql (.tmp 82) (.tmp 83), some ((78, true))⟩, ⟨some 85, .eqa false false [.bool] (.tmp 81) (.tmp 84), some ((78, true))⟩, ⟨some 86, .pick (.tmp 78) (.tmp 85) (.lit (.bool false)), none⟩, ⟨some 87, .mov (.tmp 86), none⟩, ⟨some 88, .mov (.tmp 9), some ((87, true))⟩, ⟨some 89, .mov (.tmp 11), some ((87, true))⟩, ⟨some 90, .call (.lit (.fn (.func 15) [] [])) [.tmp 88, .tmp 89], some ((87, true))⟩, ⟨some 91, .mov (.tmp 6), some ((87, true))⟩, ⟨some 92, .mov (.tmp 7), some ((87, true))⟩, ⟨some 93, .bin .eql (.tmp 91) (.tmp 92), some ((87, true))⟩, ⟨some 94, .eqa false false [.bool] (.tmp 90) (.tmp 93), some ((87, true))⟩, ⟨some 95, .pick (.tmp 87) (.tmp 94) (.lit (.bool false)), none⟩, ⟨some 2, .mov (.tmp 95), none⟩]) .ret)))))))))))))), [.tmp 2]⟩

/-! ### LoadTells -/
theorem of_parts {l : List Sg} {a : Kd} {names : List ByteArray} (h : ofN l a names = true) : l.length ≤ 64 ∧ names.length ≤ 100 ∧ sigRight l = true ∧ few a = true ∧ storeRight l a = true ∧ namesOk names = true := by
 simpa [ofN] using h
theorem psum_keys : ∀ (ks : List (List Int)) (n : Nat), n + ks.length ≤ psum n ks
 | [], n => by simp [psum]
 | k :: ks, n => by
  have := psum_keys ks (n + 1 + k.length)
  simp only [psum, List.foldl_cons, List.length_cons] at this ⊢
  omega
theorem few_keys {a : Kd} (h : few a = true) : a.keys.length ≤ 2000 := by
 have h1 := of_decide_eq_true h
 have := psum_keys a.keys a.slots.length
 omega
end Go.AM

namespace Go.AM
open Go.Proofs
set_option maxRecDepth 100000
set_option linter.unusedVariables false
set_option linter.unusedSimpArgs false
attribute [local go_sem] Function.comp_def argsT Opd.ev Tm.get put ares mapMo ares1 snilP bldParts bslParts putAt AV.cells AV.one astore aload loadCs callArgs abin abinInt aapp elems appMore appNone preLen aFa aFld apart aExt aPick aNot aLens aEqa cellsK fitsA LK.fitsA leavesA leafA nilD aNilc aCint aCid alive alen alenOk Rle lePs len_flat
/-! ### What comes in -/
def tyStrs : Ty := .slice .str
def tyNds : Ty := .slice (.struct [.int .i64, .str, .int .i64])
def strsFit (l : List ByteArray) : Prop := l.length ≤ lim ∧ ∀ s ∈ l, s.size ≤ lim
def ndsFit (l : List Nd) : Prop := l.length ≤ lim ∧ ∀ x ∈ l, (Lit.int .i64 x.kind).wf = true ∧ x.name.size ≤ lim ∧ (Lit.int .i64 x.n).wf = true
theorem is_strs {cs : List AV} (h : tyStrs.is cs) : ∃ l : List ByteArray, cs = [strs l] ∧ strsFit l := by
 simp only [tyStrs, Ty.is] at h
 obtain ⟨e1, rfl, hl1, hs1⟩ := h
 obtain ⟨l, rfl, hl⟩ := is_rows (f := fun s : ByteArray => [AV.str s]) (p := fun s => s.size ≤ lim) (fun u hu => hu) hs1
 exact ⟨l, rfl, by simpa using hl1, hl⟩
theorem is_nds {cs : List AV} (h : tyNds.is cs) : ∃ l : List Nd, cs = [nds l] ∧ ndsFit l := by
 simp only [tyNds, Ty.is, Ty.isL] at h
 obtain ⟨e1, rfl, hl1, hs1⟩ := h
 obtain ⟨l, rfl, hl⟩ := is_rows (f := fun x : Nd => x.cs) (p := fun x => (Lit.int .i64 x.kind).wf = true ∧ x.name.size ≤ lim ∧ (Lit.int .i64 x.n).wf = true) (fun z hz => by
  obtain ⟨_, _, rfl, ⟨k, rfl, h1⟩, _, _, rfl, ⟨s, rfl, h2⟩, _, _, rfl, ⟨n, rfl, h3⟩, rfl⟩ := hz
  exact ⟨⟨k, s, n⟩, rfl, h1, h2, h3⟩) hs1
 exact ⟨l, rfl, by simpa using hl1, hl⟩
end Go.AM

namespace Go.AM
open Go.Proofs
set_option maxRecDepth 100000
set_option linter.unusedVariables false
set_option linter.unusedSimpArgs false
attribute [local go_sem] Function.comp_def argsT Opd.ev Tm.get put ares mapMo ares1 snilP bldParts bslParts putAt AV.cells AV.one astore aload loadCs callArgs abin abinInt aapp elems appMore appNone preLen aFa aFld apart aExt aPick aNot aLens aEqa cellsK fitsA LK.fitsA leavesA leafA nilD aNilc aCint aCid alive alen alenOk Rle lePs len_flat
/-! ### LoadBack -/
theorem few_nds {e : List Nd} (h : ndFew e = true) : e.length ≤ 600 := by
 have h1 := of_decide_eq_true h
 have : ∀ (l : List Nd) (s : Nat), s + l.length ≤ l.foldl (fun s x => s + (1 + x.name.size)) s := by
  intro l
  induction l with
  | nil => intro s; simp
  | cons x l ih =>
   intro s
   have := ih (s + (1 + x.name.size))
   simp only [List.foldl_cons, List.length_cons]
   omega
 have := this e 0
 unfold nsum at h1
 omega
theorem named_app {own : List ByteArray} {s : ByteArray} (h : namesOk own = true) (hv : varOk s = true) (hf : fstAt (fun x => decide (x = s)) own < 0) : namesOk (own ++ [s]) = true := by
 unfold namesOk at h ⊢
 rw [decide_eq_true_eq] at h ⊢
 intro i hi
 rw [List.length_append, List.length_singleton] at hi
 by_cases hl : i < own.length
 ·obtain ⟨h1, h2⟩ := h i hl
  rw [giApp hl, fst_app (by omega)]
  exact ⟨h1, h2⟩
 ·have e : i = own.length := by omega
  subst e
  rw [giEnd, fst_end hf (by simp)]
  exact ⟨hv, rfl⟩
theorem own_named {own : List ByteArray} {n : Nd} (h : namesOk own = true) (hm : ndMay n = true) : namesOk (ownL own n) = true := by
 unfold ownL
 split
 ·rename_i hk
  refine named_app h ?_ hk.2
  unfold ndMay at hm
  rw [if_neg (by omega), if_pos hk.1, Bool.and_eq_true] at hm
  exact hm.1
 ·exact h
theorem stN_named {l : List Sg} {limit : Int} {s0 : Ls} {e : List Nd} (h : namesOk s0.own = true) (he : ndsMay e) : ∀ i, i ≤ e.length → namesOk (stN l limit s0 e i).own = true
 | 0, _ => h
 | i + 1, hi => own_named (stN_named h he i (by omega)) (he i (by omega)).1
theorem again_ok {l : List Sg} {limit limit2 : Int} {a c : Kd} {names own2 : List ByteArray} {e : List Nd} {n : Int} (ho : okN l limit ⟨a, names, []⟩ e e.length) (hp : Pre (stN l limit ⟨a, names, []⟩ e e.length).b c) (hn : ∃ ns, own2 = (stN l limit ⟨a, names, []⟩ e e.length).own ++ ns) (hh : hashRight c = true) (hst : (stN l limit ⟨a, names, []⟩ e e.length).st = [n]) : loadP l c own2 e limit2 = (c, own2, n, 0) := by
 obtain ⟨h1, h2⟩ := reload ho rfl hp hn hh e.length (Nat.le_refl _) (limit2 := limit2)
 have hr := run_of h1 e.length (Nat.le_refl _)
 rw [List.drop_length, runL, h2, hst] at hr
 unfold loadP
 rw [hr]
 rfl
/-- load.Load at a right expression. -/
theorem load_PF' {l : List Sg} {a : Kd} {e : List Nd} (hh : hashRight a = true) (hR : rightN e = true) (hka : a.keys.length + e.length ≤ 1000000) (names : List ByteArray) (hna : names.length + e.length ≤ 1000000) (limit : Int) :
  PF Tryz.prog 20 [sigs l, .agg a.cs, strs names, nds e, i64 limit] (.tuple [.agg (loadP l a names e limit).1.cs, strs (loadP l a names e limit).2.1, i64 (loadP l a names e limit).2.2.1, i64 (loadP l a names e limit).2.2.2]) := by
 obtain ⟨k1, k2, k3, k4⟩ := rightN_spec hR
 exact load_PF hh (right_good k1) (fun j hj h => by have := (mayN (k1 j hj).1).2.2.1 h; omega) (by omega) hka names hna limit
end Go.AM

namespace Go.AM
open Go.Proofs
set_option maxRecDepth 100000
set_option linter.unusedVariables false
set_option linter.unusedSimpArgs false
attribute [local go_sem] Function.comp_def argsT Opd.ev Tm.get put ares mapMo ares1 snilP bldParts bslParts putAt AV.cells AV.one astore aload loadCs callArgs abin abinInt aapp elems appMore appNone preLen aFa aFld apart aExt aPick aNot aLens aEqa cellsK fitsA LK.fitsA leavesA leafA nilD aNilc aCint aCid alive alen alenOk Rle lePs len_flat
/-! ### LoadStays -/
theorem load_stays {l : List Sg} {a : Kd} {names : List ByteArray} {e : List Nd} {limit : Int} (hr : sigRight l = true) (hs : storeRight l a = true) (hR : rightN e = true) (hb : a.keys.length + e.length ≤ 1000000) : Pre a (loadP l a names e limit).1 ∧ (∃ ns, (loadP l a names e limit).2.1 = names ++ ns) ∧ (loadP l a names e limit).1.keys.length ≤ a.keys.length + e.length := by
 by_cases h : (loadP l a names e limit).2.2.2 = 0
 ·obtain ⟨n, q1, q2, q3, _⟩ := load_ok hr hs hR hb h
  rw [q1]
  exact ⟨q3.pre, q3.own, q3.few⟩
 ·rw [loadP_bad h]
  exact ⟨.refl _, ⟨[], by simp⟩, by simp⟩
theorem c5_ok : cFn Tryz.prog an0 Tryz.f5 = some c5b := by kernel_rfl
theorem law5_PF (l : List Sg) (a : Kd) (names : List ByteArray) (e : List Nd) (hs : ∀ i : Nat, i < l.length → (gi l i).args.size ≤ maxA) (hk : a.keys.length ≤ 1048576) (hks : ∀ i : Nat, i < a.keys.length → (gi a.keys i).length ≤ maxA) (he : e.length ≤ 1048576) (hes : ∀ i : Nat, i < e.length → (gi e i).name.size ≤ maxA) : PF Tryz.prog 5 [.agg [sigs l, intss a.keys, ints a.slots, strs names, nds e]] (.bool true) := by
 refine PFk 9 hm Tryz.func5 c5_ok (Nat.le_of_ble_eq_true rfl) (by simp) (by simp) ?_
 simp (maxSteps := 3000000) [go_sem,-List.length_flatten,-List.map_drop,-List.map_take, c5b]
 refine PF.call shown_PF 9 (by simp [lePs]) ?_
 simp (maxSteps := 3000000) [go_sem,-List.length_flatten,-List.map_drop,-List.map_take, Kc]
 refine PF.call (of12_PF l a names hs hk hks) 9 (by simp [lePs]) ?_
 cases ho : ofN l a names with
 | false => simp (maxSteps := 3000000) [go_sem,-List.length_flatten,-List.map_drop,-List.map_take, Kc]
 | true =>
 simp (maxSteps := 3000000) [go_sem,-List.length_flatten,-List.map_drop,-List.map_take, Kc]
 refine PF.call (ndFew_PF e (by unfold maxA; omega) hes) 9 (by simp [lePs]) ?_
 cases hf : ndFew e with
 | false => simp (maxSteps := 3000000) [go_sem,-List.length_flatten,-List.map_drop,-List.map_take, Kc]
 | true =>
 simp (maxSteps := 3000000) [go_sem,-List.length_flatten,-List.map_drop,-List.map_take, Kc]
 refine PF.call (right19_PF e he) 9 (by simp [lePs]) ?_
 cases hR : rightN e with
 | false => simp (maxSteps := 3000000) [go_sem,-List.length_flatten,-List.map_drop,-List.map_take, Kc]
 | true =>
 obtain ⟨_, o0, o1, o2, o3, o4⟩ := of_parts ho
 have hka := few_keys o2
 have hef := few_nds hf
 have hl := load_PF' (l := l) (right_term o3).1 hR (by omega) names (by omega) 5000
 obtain ⟨p1, p2, p3⟩ := load_stays (l := l) (names := names) (limit := 5000) o1 o3 hR (by omega)
 simp (maxSteps := 3000000) [go_sem,-List.length_flatten,-List.map_drop,-List.map_take, Kc]
 refine PF.call hl 9 (by simp [lePs]) ?_
 generalize loadP l a names e 5000 = p at *
 obtain ⟨b, own, id, bad⟩ := p
 simp only at p1 p2 p3 hl
 have hlen := p1.len
 have hol : names.length ≤ own.length := by obtain ⟨ns, rfl⟩ := p2; simp
 have n1 : ¬ (b.keys.length : Int) < a.keys.length := by omega
 have n2 : ¬ (own.length : Int) < names.length := by omega
 simp (maxSteps := 3000000) [go_sem,-List.length_flatten,-List.map_drop,-List.map_take, Kc, n1, n2]
 intro hA1 hA2 hA3 hA4
 refine run_countK a.keys.length 12 [(4, .ptr 1 0 0), (5, strs names), (6, nds e), (7, .bool true), (8, .ptr 2 0 0), (9, strs own)] [.cells 0 [sigs l, intss a.keys, ints a.slots, strs names, nds e], .cells 0 a.cs, .cells 0 b.cs] (fun i => True)
  (Wk.tell 3 (by omega) (by simp [Tm.get]) (by simp) (by simp) (by exact ⟨by simp [RLB], rlb_kd, rlb_kd, trivial⟩)) trivial ?_
 intro i hi _ KK kx kr kn
 by_cases h : i < a.keys.length
 ·have hb : i < b.keys.length := by omega
  have hke := p1.key h
  simp (maxSteps := 3000000) [go_sem,-List.length_flatten,-List.map_drop,-List.map_take, h, hb]
  intros
  refine ⟨_, ints_PF (gi a.keys i) (gi b.keys i), ?_⟩
  simp (maxSteps := 3000000) [go_sem,-List.length_flatten,-List.map_drop,-List.map_take, Kc, hke]
  exact kn _ _ (Kn_next 3 (by omega) (by omega) trivial (by simp [Tm.get, nxt h hA2]) (by simp) (by simp) (by exact ⟨by simp [RLB], rlb_kd, rlb_kd, trivial⟩))
 ·clear kn kr
  simp (maxSteps := 3000000) [go_sem,-List.length_flatten,-List.map_drop,-List.map_take, h, kx]
  intros
  refine run_countK names.length 13 [(4, .ptr 1 0 0), (6, nds e), (7, .bool true), (8, .ptr 2 0 0), (9, strs own), (5, strs names)] [.cells 0 [sigs l, intss a.keys, ints a.slots, strs names, nds e], .cells 0 a.cs, .cells 0 b.cs] (fun i => True)
   (Wk.tell 3 (by omega) (by simp [Tm.get]) (by simp) (by simp) (by exact ⟨by simp [RLB], rlb_kd, rlb_kd, trivial⟩)) trivial ?_
  clear kx
  intro j hj _ KK2 kx kr kn
  by_cases h2 : j < names.length
  ·have hb : j < own.length := by omega
   have hke : gi own (j : Int) = gi names (j : Int) := by obtain ⟨ns, rfl⟩ := p2; exact giApp h2
   simp (maxSteps := 3000000) [go_sem,-List.length_flatten,-List.map_drop,-List.map_take, h2, hb, hke]
   intros
   exact kn _ _ (Kn_next 3 (by omega) (by omega) trivial (by simp [Tm.get, nxt h2 hA4]) (by simp) (by simp) (by exact ⟨by simp [RLB], rlb_kd, rlb_kd, trivial⟩))
  ·have hw : IntKind.i64.wrap ((a.keys.length : Int) + (e.length : Int)) = ((a.keys.length + e.length : Nat) : Int) := by rw [w64 (by omega) (by omega)]; omega
   have hle : (b.keys.length : Int) ≤ ((a.keys.length + e.length : Nat) : Int) := by omega
   generalize a.keys.length + e.length = z at *
   simp (maxSteps := 3000000) [go_sem,-List.length_flatten,-List.map_drop,-List.map_take, h2, kx, hw, hle]
end Go.AM

namespace Go.AM
open Go.Proofs
set_option maxRecDepth 100000
set_option linter.unusedVariables false
set_option linter.unusedSimpArgs false
attribute [local go_sem] Function.comp_def argsT Opd.ev Tm.get put ares mapMo ares1 snilP bldParts bslParts putAt AV.cells AV.one astore aload loadCs callArgs abin abinInt aapp elems appMore appNone preLen aFa aFld apart aExt aPick aNot aLens aEqa cellsK fitsA LK.fitsA leavesA leafA nilD aNilc aCint aCid alive alen alenOk Rle lePs len_flat
/-! ### LoadTwo -/
theorem new_right (l : List Sg) : storeRight l newK = true := by kernel_rfl
theorem own_len {l : List Sg} {limit : Int} {s0 : Ls} {e : List Nd} : ∀ i, (stN l limit s0 e i).own.length ≤ s0.own.length + i
 | 0 => by simp [stN]
 | i + 1 => by
  have h1 := own_len (l := l) (limit := limit) (s0 := s0) (e := e) i
  have := ownL_len (stN l limit s0 e i).own (gi e i)
  show (ownL _ _).length ≤ _
  omega
theorem c6_ok : cFn Tryz.prog an0 Tryz.f6 = some c6b := by kernel_rfl
theorem loadP_len {l : List Sg} {a : Kd} {names : List ByteArray} {e : List Nd} {limit : Int} : (loadP l a names e limit).2.1.length ≤ names.length + e.length := by
 by_cases h : (loadP l a names e limit).2.2.2 = 0
 ·rw [(loadP_ok h).2]
  exact own_len e.length
 ·rw [loadP_bad h]
  simp
theorem load_right {l : List Sg} {a : Kd} {names : List ByteArray} {e : List Nd} {limit : Int} (hr : sigRight l = true) (hs : storeRight l a = true) (hR : rightN e = true) (hb : a.keys.length + e.length ≤ 1000000) : storeRight l (loadP l a names e limit).1 = true := by
 by_cases h : (loadP l a names e limit).2.2.2 = 0
 ·obtain ⟨n, q1, q2, q3, _⟩ := load_ok hr hs hR hb h
  rw [q1]
  exact q3.right
 ·rw [loadP_bad h]
  exact hs
set_option maxHeartbeats 1000000 in
theorem law6_PF (l : List Sg) (d e : List Nd) (hs : ∀ i : Nat, i < l.length → (gi l i).args.size ≤ maxA) (hd : d.length ≤ 1048576) (hds : ∀ i : Nat, i < d.length → (gi d i).name.size ≤ maxA) (he : e.length ≤ 1048576) (hes : ∀ i : Nat, i < e.length → (gi e i).name.size ≤ maxA) : PF Tryz.prog 6 [sigs l, nds d, nds e] (.bool true) := by
 refine PFk 9 hm Tryz.func6 c6_ok (Nat.le_of_ble_eq_true rfl) (by simp) (by simp) ?_
 simp (maxSteps := 3000000) [go_sem,-List.length_flatten,-List.map_drop,-List.map_take, c6b]
 refine PF.call shown_PF 9 (by simp [lePs]) ?_
 by_cases g1 : l.length ≤ 64
 ·have g1' : ¬ (64 : Int) < l.length := by omega
  simp (maxSteps := 3000000) [go_sem,-List.length_flatten,-List.map_drop,-List.map_take, Kc, g1']
  intros
  refine PF.call (sigRight_PF l hs) 9 (by simp [lePs]) ?_
  cases o1 : sigRight l with
  | false => simp (maxSteps := 3000000) [go_sem,-List.length_flatten,-List.map_drop,-List.map_take, Kc]
  | true =>
  simp (maxSteps := 3000000) [go_sem,-List.length_flatten,-List.map_drop,-List.map_take, Kc]
  refine PF.call (ndFew_PF d (by unfold maxA; omega) hds) 9 (by simp [lePs]) ?_
  cases f1 : ndFew d with
  | false => simp (maxSteps := 3000000) [go_sem,-List.length_flatten,-List.map_drop,-List.map_take, Kc]
  | true =>
  simp (maxSteps := 3000000) [go_sem,-List.length_flatten,-List.map_drop,-List.map_take, Kc]
  refine PF.call (ndFew_PF e (by unfold maxA; omega) hes) 9 (by simp [lePs]) ?_
  cases f2 : ndFew e with
  | false => simp (maxSteps := 3000000) [go_sem,-List.length_flatten,-List.map_drop,-List.map_take, Kc]
  | true =>
  simp (maxSteps := 3000000) [go_sem,-List.length_flatten,-List.map_drop,-List.map_take, Kc]
  refine PF.call (right19_PF d hd) 9 (by simp [lePs]) ?_
  cases r1 : rightN d with
  | false => simp (maxSteps := 3000000) [go_sem,-List.length_flatten,-List.map_drop,-List.map_take, Kc]
  | true =>
  simp (maxSteps := 3000000) [go_sem,-List.length_flatten,-List.map_drop,-List.map_take, Kc]
  refine PF.call (right19_PF e he) 9 (by simp [lePs]) ?_
  cases r2 : rightN e with
  | false => simp (maxSteps := 3000000) [go_sem,-List.length_flatten,-List.map_drop,-List.map_take, Kc]
  | true =>
  have w1 : IntKind.i64.wrap ((d.length : Int) + (e.length : Int)) = ((d.length + e.length : Nat) : Int) := by rw [w64 (by omega) (by omega)]; omega
  by_cases g2 : d.length + e.length ≤ 300
  ·have g2' : ¬ (300 : Int) < ((d.length + e.length : Nat) : Int) := by omega
   have hk0 : newK.keys.length = 2 := rfl
   have hl1 := load_PF' (l := l) (right_term (new_right l)).1 r1 (by omega) [] (by simp; omega) 5000
   have hr1 := load_right (l := l) (names := []) (limit := 5000) o1 (new_right l) r1 (by omega)
   obtain ⟨_, _, hf1⟩ := load_stays (l := l) (names := []) (limit := 5000) o1 (new_right l) r1 (by omega)
   have hn1 := loadP_len (l := l) (a := newK) (names := []) (e := d) (limit := 5000)
   have hdd := rtext_PF (shp_of (by omega) (rightN_spec r1).1) (rightN_spec r1).2.2.2
   have hee := rtext_PF (shp_of (by omega) (rightN_spec r2).1) (rightN_spec r2).2.2.2
   have key1 : (loadP l newK [] d 5000).2.2.2 = 0 → ∀ limit2, (loadP l (loadP l newK [] d 5000).1 (loadP l newK [] d 5000).2.1 e limit2).2.2.2 = 0 →
     textP l (loadP l (loadP l newK [] d 5000).1 (loadP l newK [] d 5000).2.1 e limit2).1 (loadP l (loadP l newK [] d 5000).1 (loadP l newK [] d 5000).2.1 e limit2).2.1 (loadP l newK [] d 5000).2.2.1 = (enN d (d.length - 1)).t ∧
     textP l (loadP l (loadP l newK [] d 5000).1 (loadP l newK [] d 5000).2.1 e limit2).1 (loadP l (loadP l newK [] d 5000).1 (loadP l newK [] d 5000).2.1 e limit2).2.1 (loadP l (loadP l newK [] d 5000).1 (loadP l newK [] d 5000).2.1 e limit2).2.2.1 = (enN e (e.length - 1)).t ∧
     ((loadP l newK [] d 5000).2.2.1 = (loadP l (loadP l newK [] d 5000).1 (loadP l newK [] d 5000).2.1 e limit2).2.2.1 ↔ d = e) := by
    intro z1 limit2
    obtain ⟨n, q1, q2, q3, q4, q5, q6, q7⟩ := load_ok o1 (new_right l) r1 (by omega) z1
    rw [q1]
    simp only
    have hag : d = e → loadP l (stN l 5000 ⟨newK, [], []⟩ d d.length).b (stN l 5000 ⟨newK, [], []⟩ d d.length).own d limit2 = ((stN l 5000 ⟨newK, [], []⟩ d d.length).b, (stN l 5000 ⟨newK, [], []⟩ d d.length).own, (n : Int), 0) := fun _ => again_ok q2 (.refl _) ⟨[], by simp⟩ (right_term q3.right).1 q4
    have hfw := q3.few
    simp only at hfw
    generalize stN l 5000 ⟨newK, [], []⟩ d d.length = s at *
    intro z2
    obtain ⟨m, p1, p2, p3, p4, p5, p6, p7⟩ := load_ok (e := e) o1 q3.right r2 (by omega) z2
    have hfw2 := p3.few
    simp only at hfw2
    obtain ⟨ns, hns⟩ := p3.own
    have htm := tree_more (a := s.b) (names := s.own) (ns := ns) p3.pre (sf_of o1 q3.right (by omega)) (sf_of o1 p3.right (by omega)) n q5 q7
    simp only at hns
    rw [← hns] at htm
    have hpl := p3.pre.len
    simp only at hpl
    rw [p1]
    simp only
    refine ⟨text_back (sf_of o1 p3.right (by omega)) (by omega) (by rw [htm.1, q6]) htm.2 r1 (by omega), text_back (sf_of o1 p3.right (by omega)) p5 p6 p7 r2 (by omega), fun h => ?_, fun h => ?_⟩
    ·have : n = m := by omega
     subst this
     rw [← q6, ← htm.1, p6]
    ·have h5 := hag h
     rw [h] at h5
     rw [p1] at h5
     simp only [Prod.mk.injEq] at h5
     exact h5.2.2.1.symm
   clear hd hds he hes hs
   generalize hd2 : loadP l newK [] d 5000 = p at *
   obtain ⟨a, n, x, bad⟩ := p
   simp only at hl1 hr1 hf1 hn1 key1
   have hl2 := load_PF' (l := l) (right_term hr1).1 r2 (by omega) n (by simp at hn1; omega) 5000
   have hr2 := load_right (l := l) (names := n) (limit := 5000) o1 hr1 r2 (by omega)
   obtain ⟨_, _, hf2⟩ := load_stays (l := l) (names := n) (limit := 5000) o1 hr1 r2 (by omega)
   have key2 := fun h => key1 h 5000
   clear key1
   generalize loadP l a n e 5000 = q at *
   obtain ⟨b, m, y, odd⟩ := q
   simp only at hl2 hr2 hf2 key2
   have ht1 := text16_PF (sf_of o1 hr2 (by omega)) m x
   have ht2 := text16_PF (sf_of o1 hr2 (by omega)) m y
   simp (maxSteps := 3000000) [go_sem,-List.length_flatten,-List.map_drop,-List.map_take, Kc, w1, g2', -Int.natCast_add]
   intros
   refine PF.call rnew_PF 9 (by simp [lePs]) ?_
   simp (maxSteps := 3000000) [go_sem,-List.length_flatten,-List.map_drop,-List.map_take, Kc]
   refine PF.call hl1 9 (by simp [lePs]) ?_
   simp (maxSteps := 3000000) [go_sem,-List.length_flatten,-List.map_drop,-List.map_take, Kc]
   refine PF.call hl2 9 (by simp [lePs]) ?_
   by_cases z1 : bad = 0
   ·by_cases z2 : odd = 0
    ·obtain ⟨t1, t2, t3⟩ := key2 z1 z2
     rw [t1] at ht1
     rw [t2] at ht2
     simp (maxSteps := 3000000) [go_sem,-List.length_flatten,-List.map_drop,-List.map_take, Kc, z1, z2]
     refine PF.call ht1 9 (by simp [lePs]) ?_
     simp (maxSteps := 3000000) [go_sem,-List.length_flatten,-List.map_drop,-List.map_take, Kc]
     refine PF.call hdd 9 (by simp [lePs]) ?_
     simp (maxSteps := 3000000) [go_sem,-List.length_flatten,-List.map_drop,-List.map_take, Kc]
     refine PF.call ht2 9 (by simp [lePs]) ?_
     simp (maxSteps := 3000000) [go_sem,-List.length_flatten,-List.map_drop,-List.map_take, Kc]
     refine PF.call hee 9 (by simp [lePs]) ?_
     simp (maxSteps := 3000000) [go_sem,-List.length_flatten,-List.map_drop,-List.map_take, Kc]
     refine PF.call (ndSame_PF d e) 9 (by simp [lePs]) ?_
     simp (maxSteps := 3000000) [go_sem,-List.length_flatten,-List.map_drop,-List.map_take, Kc, t3]
    ·simp (maxSteps := 3000000) [go_sem,-List.length_flatten,-List.map_drop,-List.map_take, Kc, z1, z2]
   ·simp (maxSteps := 3000000) [go_sem,-List.length_flatten,-List.map_drop,-List.map_take, Kc, z1]
  ·have g2' : (300 : Int) < ((d.length + e.length : Nat) : Int) := by omega
   simp (maxSteps := 3000000) [go_sem,-List.length_flatten,-List.map_drop,-List.map_take, Kc, w1, g2', -Int.natCast_add]
 ·have g1' : (64 : Int) < l.length := by omega
  simp (maxSteps := 3000000) [go_sem,-List.length_flatten,-List.map_drop,-List.map_take, Kc, g1']
end Go.AM

namespace Go.AM
open Go.Proofs
set_option maxRecDepth 100000
set_option linter.unusedVariables false
set_option linter.unusedSimpArgs false
attribute [local go_sem] Function.comp_def argsT Opd.ev Tm.get put ares mapMo ares1 snilP bldParts bslParts putAt AV.cells AV.one astore aload loadCs callArgs abin abinInt aapp elems appMore appNone preLen aFa aFld apart aExt aPick aNot aLens aEqa cellsK fitsA LK.fitsA leavesA leafA nilD aNilc aCint aCid alive alen alenOk Rle lePs len_flat
/-! ### The variables of an expression -/
abbrev strcL (l : List ByteArray) : List AV := l.map fun s => AV.str s
def varsN (e : List Nd) (i : Nat) : List ByteArray := (e.take i).foldl ownL []
theorem varsN_succ {e : List Nd} {i : Nat} (h : i < e.length) : varsN e (i + 1) = ownL (varsN e i) (gi e i) := by
 unfold varsN
 rw [List.take_succ_eq_append_getElem h, List.foldl_append]
 simp [gi, List.getD, h]
theorem varsN_le (e : List Nd) : ∀ i, (varsN e i).length ≤ i
 | 0 => by simp [varsN]
 | i + 1 => by
  by_cases h : i < e.length
  ·rw [varsN_succ h]
   have := ownL_len (varsN e i) (gi e i)
   have := varsN_le e i
   omega
  ·have h2 := varsN_le e i
   unfold varsN at h2 ⊢
   rw [List.take_of_length_le (by omega)] at h2 ⊢
   omega
theorem rlb_str {n g : Nat} {l : List ByteArray} : RLB n (.cells g (strcL l)) := by
 intro y hy
 obtain ⟨s, _, rfl⟩ := List.mem_map.1 hy
 simp
theorem strcL_app (l : List ByteArray) (s : ByteArray) : strcL l ++ [AV.str s] = strcL (l ++ [s]) := by simp
theorem c28_ok : cFn Tryz.prog an0 Tryz.f28 = some c28 := by kernel_rfl
theorem vars28_PF (e : List Nd) (he : e.length ≤ 1048576) : PF Tryz.prog 28 [nds e] (strs (varsN e e.length)) := by
 refine PFk 9 hm Tryz.func28 c28_ok (Nat.le_of_ble_eq_true rfl) (by simp) (by simp) ?_
 generalize hQ : Rle 9 (strs (varsN e e.length)) = Q
 simp (maxSteps := 3000000) [go_sem,-List.length_flatten,-List.map_drop,-List.map_take, c28]
 refine run_loopK (fun m T H => ∃ i g : Nat, m = e.length - i ∧ i ≤ e.length ∧ T = [(4, i64 i), (3, .loc 0 g 0 (varsN e i).length 1 false), (0, nds e)] ∧ H = [.cells g (strcL (varsN e i))]) e.length
  [(4, i64 (0 : Nat)), (3, .loc 0 0 0 0 1 false), (0, nds e)] [.cells 0 []]
  ((Wk.nil 3 1 (by simp [Tm.get])).trans (Wk.tell 1 (by omega) (by simp [Tm.get]) (by simp) (by simp) ⟨by simp [RLB], trivial⟩)) ⟨0, 0, rfl, by omega, rfl, rfl⟩ ?_
 rintro m T H ⟨i, g, rfl, hi, rfl, rfl⟩ KK kx kr kn
 by_cases h : i < e.length
 ·have hs := varsN_succ h
  have hl := varsN_le e i
  have hw : IntKind.i64.wrap ((i : Int) + 1) = ((i + 1 : Nat) : Int) := nxt (n := e.length) h (by unfold maxA; omega)
  have hA1 : (varsN e i).length + 1 ≤ maxA := by unfold maxA; omega
  have hap := strcL_app (varsN e i) (gi e i).name
  have htk : List.take (varsN e i).length (strcL (varsN e i)) = strcL (varsN e i) := List.take_of_length_le (by simp)
  generalize varsN e i = v at *
  simp (maxSteps := 3000000) [go_sem,-List.length_flatten,-List.map_drop,-List.map_take, h]
  intros
  refine PF.borrow (rat_PF v (gi e i).name) 9 9 rfl (by simp [lePs, chunk_one]) ?_
  by_cases k : (gi e i).kind = 2
  ·by_cases hx : ixN v (gi e i).name < 0
   ·have e2 : ownL v (gi e i) = v ++ [(gi e i).name] := by simp [ownL, k, hx]
    rw [e2] at hs
    unfold ixN at hx
    simp (maxSteps := 3000000) [go_sem,-List.length_flatten,-List.map_drop,-List.map_take, Kc, h, k, hx, hA1, htk]
    intros
    refine kn _ _ (Kl_next (e.length - (i + 1)) 1 (by omega) ⟨i + 1, g + 1, rfl, h, rfl, rfl⟩ (by simp [Tm.get, hw, hs]) (by simp) (by simp [hs, htk]) (by exact ⟨rlb_str, trivial⟩) (by omega))
   ·have e2 : ownL v (gi e i) = v := by simp [ownL, hx]
    rw [e2] at hs
    unfold ixN at hx
    simp (maxSteps := 3000000) [go_sem,-List.length_flatten,-List.map_drop,-List.map_take, Kc, h, k, hx]
    intros
    refine kn _ _ (Kl_next (e.length - (i + 1)) 1 (by omega) ⟨i + 1, g, rfl, h, rfl, rfl⟩ (by simp [Tm.get, hw, hs]) (by simp) (by simp [hs, htk]) (by exact ⟨rlb_str, trivial⟩) (by omega))
  ·have e2 : ownL v (gi e i) = v := by simp [ownL, k]
   rw [e2] at hs
   simp (maxSteps := 3000000) [go_sem,-List.length_flatten,-List.map_drop,-List.map_take, Kc, h, k]
   intros
   refine kn _ _ (Kl_next (e.length - (i + 1)) 1 (by omega) ⟨i + 1, g, rfl, h, rfl, rfl⟩ (by simp [Tm.get, hw, hs]) (by simp) (by simp [hs, htk]) (by exact ⟨rlb_str, trivial⟩) (by omega))
 ·have ei : i = e.length := by omega
  subst ei
  simp (maxSteps := 3000000) [go_sem,-List.length_flatten,-List.map_drop,-List.map_take, h, kx]
  rw [← hQ]
  simp (maxSteps := 3000000) [go_sem,-List.length_flatten,-List.map_drop,-List.map_take]
  rw [chunk_one]
  simp [Function.comp_def]
end Go.AM

namespace Go.AM
open Go.Proofs
set_option maxRecDepth 100000
set_option linter.unusedVariables false
set_option linter.unusedSimpArgs false
attribute [local go_sem] Function.comp_def argsT Opd.ev Tm.get put ares mapMo ares1 snilP bldParts bslParts putAt AV.cells AV.one astore aload loadCs callArgs abin abinInt aapp elems appMore appNone preLen aFa aFld apart aExt aPick aNot aLens aEqa cellsK fitsA LK.fitsA leavesA leafA nilD aNilc aCint aCid alive alen alenOk Rle lePs len_flat
/-! ### LoadNames -/
theorem ix_mem {l : List ByteArray} {s : ByteArray} : 0 ≤ ixN l s ↔ s ∈ l := by
 constructor
 ·intro h
  have h1 := fst_at h
  have h2 := fst_lt (p := fun x => decide (x = s)) (l := l)
  unfold ixN at h
  obtain ⟨n, hn⟩ : ∃ n : Nat, fstAt (fun x => decide (x = s)) l = n := ⟨(fstAt (fun x => decide (x = s)) l).toNat, by omega⟩
  rw [hn] at h1 h2
  have h3 : gi l (n : Int) = s := by simpa using h1
  have h4 : n < l.length := by omega
  rw [← h3]
  simp [gi, List.getD, h4]
 ·intro h
  apply Classical.byContradiction
  intro hn
  unfold ixN at hn
  obtain ⟨i, hi, he⟩ := List.getElem_of_mem h
  unfold fstAt at hn
  cases hf : l.findIdx? (fun x => decide (x = s)) with
  | none =>
   have := (List.findIdx?_eq_none_iff.1 hf) s h
   simp at this
  | some j => rw [hf] at hn; simp at hn
def newP (names : List ByteArray) (v : ByteArray) : Bool := decide (ixN names v < 0)
theorem own_vars (names : List ByteArray) (e : List Nd) : ∀ i, i ≤ e.length → (e.take i).foldl ownL names = names ++ (varsN e i).filter (newP names)
 | 0, _ => by simp [varsN]
 | i + 1, hi => by
  have ih := own_vars names e i (by omega)
  have hl : (e.take (i + 1)).foldl ownL names = ownL ((e.take i).foldl ownL names) (gi e i) := by
   rw [List.take_succ_eq_append_getElem (by omega), List.foldl_append]
   simp [gi, List.getD, show i < e.length by omega]
  rw [hl, varsN_succ (by omega), ih]
  generalize varsN e i = v
  generalize gi e i = n
  by_cases hk : n.kind = 2
  ·have hix : ∀ o : List ByteArray, ixN o n.name < 0 ↔ n.name ∉ o := fun o => by rw [← ix_mem]; omega
   by_cases hv : n.name ∈ v
   ·have e1 : ownL v n = v := by unfold ownL; rw [if_neg (fun h => (hix v).1 h.2 hv)]
    rw [e1]
    unfold ownL
    rw [if_neg]
    rintro ⟨_, h⟩
    refine (hix _).1 h ?_
    by_cases hn : n.name ∈ names
    ·simp [hn]
    ·rw [List.mem_append, List.mem_filter]
     exact .inr ⟨hv, by simp only [newP, decide_eq_true_eq]; exact (hix names).2 hn⟩
   ·have e1 : ownL v n = v ++ [n.name] := by unfold ownL; rw [if_pos ⟨hk, (hix v).2 hv⟩]
    rw [e1, List.filter_append]
    by_cases hn : n.name ∈ names
    ·have hp : newP names n.name = false := by simp only [newP, decide_eq_false_iff_not]; exact fun h => (hix names).1 h hn
     unfold ownL
     rw [if_neg (fun h => (hix _).1 h.2 (by simp [hn]))]
     simp [hp]
    ·have hp : newP names n.name = true := by simp only [newP, decide_eq_true_eq]; exact (hix names).2 hn
     unfold ownL
     rw [if_pos ⟨hk, (hix _).2 (by simp [hn, hv])⟩]
     simp [hp]
  ·have e1 : ∀ o, ownL o n = o := fun o => by unfold ownL; rw [if_neg (fun h => hk h.1)]
   rw [e1, e1]
theorem stN_fold {l : List Sg} {limit : Int} {s0 : Ls} {e : List Nd} : ∀ i, i ≤ e.length → (stN l limit s0 e i).own = (e.take i).foldl ownL s0.own
 | 0, _ => by simp [stN]
 | i + 1, hi => by
  have hl : (e.take (i + 1)).foldl ownL s0.own = ownL ((e.take i).foldl ownL s0.own) (gi e i) := by
   rw [List.take_succ_eq_append_getElem (by omega), List.foldl_append]
   simp [gi, List.getD, show i < e.length by omega]
  rw [hl, ← stN_fold i (by omega)]
  rfl
theorem want_succ {names : List ByteArray} {v : List ByteArray} {k : Nat} (h : k < v.length) : (v.take (k + 1)).filter (newP names) = (v.take k).filter (newP names) ++ if ixN names (gi v k) < 0 then [gi v k] else [] := by
 rw [List.take_succ_eq_append_getElem h, List.filter_append]
 have : v[k] = gi v k := by simp [gi, List.getD, h]
 rw [this]
 by_cases hx : ixN names (gi v k) < 0
 ·simp [newP, hx]
 ·simp [newP, hx]
theorem c7_ok : cFn Tryz.prog an0 Tryz.f7 = some c7b := by kernel_rfl
set_option maxHeartbeats 1000000 in
theorem law7_PF (l : List Sg) (names : List ByteArray) (e : List Nd) (hs : ∀ i : Nat, i < l.length → (gi l i).args.size ≤ maxA) (hnl : names.length ≤ 1048576) (he : e.length ≤ 1048576) (hes : ∀ i : Nat, i < e.length → (gi e i).name.size ≤ maxA) : PF Tryz.prog 7 [sigs l, strs names, nds e] (.bool true) := by
  refine PFk 9 hm Tryz.func7 c7_ok (Nat.le_of_ble_eq_true rfl) (by simp) (by simp) ?_
  simp (maxSteps := 3000000) [go_sem,-List.length_flatten,-List.map_drop,-List.map_take, c7b]
  refine PF.call shown_PF 9 (by simp [lePs]) ?_
  simp (maxSteps := 3000000) [go_sem,-List.length_flatten,-List.map_drop,-List.map_take, Kc]
  refine PF.call rnew_PF 9 (by simp [lePs]) ?_
  simp (maxSteps := 3000000) [go_sem,-List.length_flatten,-List.map_drop,-List.map_take, Kc]
  have hk0 : newK.keys.length = 2 := rfl
  have hnr := new_right l
  refine PF.call (of12_PF l newK names hs (by omega) (fun i hi => by have : i = 0 ∨ i = 1 := by omega
                                                                     rcases this with rfl | rfl <;> decide)) 9 (by simp [lePs]) ?_
  cases ho : ofN l newK names with
  | false => simp (maxSteps := 3000000) [go_sem,-List.length_flatten,-List.map_drop,-List.map_take, Kc]
  | true =>
  simp (maxSteps := 3000000) [go_sem,-List.length_flatten,-List.map_drop,-List.map_take, Kc]
  refine PF.call (ndFew_PF e (by unfold maxA; omega) hes) 9 (by simp [lePs]) ?_
  cases hf : ndFew e with
  | false => simp (maxSteps := 3000000) [go_sem,-List.length_flatten,-List.map_drop,-List.map_take, Kc]
  | true =>
  simp (maxSteps := 3000000) [go_sem,-List.length_flatten,-List.map_drop,-List.map_take, Kc]
  refine PF.call (right19_PF e he) 9 (by simp [lePs]) ?_
  cases hR : rightN e with
  | false => simp (maxSteps := 3000000) [go_sem,-List.length_flatten,-List.map_drop,-List.map_take, Kc]
  | true =>
  obtain ⟨_, o0, o1, o2, o3, o4⟩ := of_parts ho
  have hef := few_nds hf
  have hl := load_PF' (l := l) (right_term hnr).1 hR (by omega) names (by omega) 5000
  simp (maxSteps := 3000000) [go_sem,-List.length_flatten,-List.map_drop,-List.map_take, Kc]
  refine PF.call rnew_PF 9 (by simp [lePs]) ?_
  simp (maxSteps := 3000000) [go_sem,-List.length_flatten,-List.map_drop,-List.map_take, Kc]
  refine PF.call hl 9 (by simp [lePs]) ?_
  by_cases hb : (loadP l newK names e 5000).2.2.2 = 0
  · obtain ⟨_, h2⟩ := loadP_ok hb
    have hown : (loadP l newK names e 5000).2.1 = names ++ (varsN e e.length).filter (newP names) := by
      rw [h2]
      have h3 := stN_fold (l := l) (limit := 5000) (s0 := ⟨newK, names, []⟩) (e := e) e.length (Nat.le_refl _)
      have h4 := own_vars names e e.length (Nat.le_refl _)
      simp only at h3 ⊢
      rw [h3, h4]
    have hnm : namesOk (loadP l newK names e 5000).2.1 = true := by
      rw [h2]
      exact stN_named (l := l) (limit := 5000) (s0 := ⟨newK, names, []⟩) o4 (rightN_spec hR).1 e.length (Nat.le_refl _)
    have hvl := varsN_le e e.length
    have hv := vars28_PF e he
    clear hl h2 hes hs
    generalize loadP l newK names e 5000 = p at *
    obtain ⟨b, own, id, bad⟩ := p
    simp only at hown hnm hb
    subst hb
    generalize varsN e e.length = v at *
    simp (maxSteps := 3000000) [go_sem,-List.length_flatten,-List.map_drop,-List.map_take, Kc]
    refine PF.call hv 9 (by simp [lePs]) ?_
    have hna : names.length ≤ maxA := by unfold maxA; omega
    have hA : v.length ≤ maxA := by unfold maxA; omega
    have hfl : (List.map (fun s => [AV.str s]) names).flatten = strcL names := by
      generalize names = l
      induction l with
      | nil => rfl
      | cons x l ih => simp [ih]
    have hwl : ∀ k, (names ++ (v.take k).filter (newP names)).length ≤ 2000 := fun k => by
      have := List.length_filter_le (newP names) (v.take k)
      simp only [List.length_append, List.length_take] at this ⊢
      omega
    have hend : ∀ (H : AHeap) (a : AV) (R : AV → AHeap → Prop), leP 9 (frz true H 9 a) (strs own) → R (.bool true) H → FT Tryz.prog 22 [strs own, a] H R := fun H a R h1 h2 => by
      have h3 := texts_PF own own
      rw [decide_eq_true rfl] at h3
      refine PF.borrow h3 9 9 rfl ?_ h2
      simp [lePs, h1]
    have hnn := rnamed_PF own
    rw [hnm] at hnn
    simp (maxSteps := 3000000) [go_sem,-List.length_flatten,-List.map_drop,-List.map_take, Kc, hna]
    obtain ⟨I, hI⟩ : ∃ I : Nat → Tm → AHeap → Prop, I = fun m T H => ∃ (k : Nat) (w : List ByteArray), m = v.length - k ∧ k ≤ v.length ∧ w = names ++ (v.take k).filter (newP names) ∧ ((w = [] ∧ T = [(14, i64 k), (13, .rows true 1 []), (12, strs v), (1, strs names), (9, strs own), (7, .bool true)] ∧ H = [.cells 0 b.cs]) ∨ ∃ g, T = [(14, i64 k), (13, .loc 1 g 0 w.length 1 false), (12, strs v), (1, strs names), (9, strs own), (7, .bool true)] ∧ H = [.cells 0 b.cs, .cells g (strcL w)]) := ⟨_, rfl⟩
    by_cases hn0 : names = []
    rw [if_pos hn0]
    refine run_loopK I v.length
        [(14, i64 (0 : Nat)), (13, .rows true 1 []), (12, strs v), (1, strs names), (9, strs own), (7, .bool true)] [.cells 0 b.cs]
        (Wk.tell 1 (by omega) (by simp [Tm.get]) (by simp) (by simp) (by exact ⟨rlb_kd, trivial⟩)) (by rw [hI]; exact ⟨0, [], rfl, by omega, by simp [hn0], .inl ⟨rfl, rfl, rfl⟩⟩) ?_
    rotate_left
    rw [if_neg hn0, hfl]
    refine run_loopK I v.length
        [(14, i64 (0 : Nat)), (13, .loc 1 0 0 names.length 1 false), (12, strs v), (1, strs names), (9, strs own), (7, .bool true)] [.cells 0 b.cs, .cells 0 (strcL names)]
        (Wk.tell 2 (by omega) (by simp [Tm.get]) (by simp) (by simp) (by exact ⟨rlb_kd, rlb_str, trivial⟩)) (by rw [hI]; exact ⟨0, names, rfl, by omega, by simp, .inr ⟨0, rfl, rfl⟩⟩) ?_
    all_goals
      clear hn0
      intro m T H hIm KK kx kr kn
      rw [hI] at hIm kn
      obtain ⟨k, w, rfl, hk, hw, hS⟩ := hIm
      have hwA := hwl k
      rw [← hw] at hwA
      have hA1 : w.length + 1 ≤ maxA := by unfold maxA; omega
      by_cases h : k < v.length
      · have hws := want_succ (names := names) h
        have hwk : IntKind.i64.wrap ((k : Int) + 1) = ((k + 1 : Nat) : Int) := nxt h hA
        have htk : List.take w.length (strcL w) = strcL w := List.take_of_length_le (by simp)
        by_cases hx : ixN names (gi v k) < 0
        · rw [if_pos hx] at hws
          have hw2 : w ++ [gi v k] = names ++ (v.take (k + 1)).filter (newP names) := by rw [hws, hw, List.append_assoc]
          unfold ixN at hx
          rcases hS with ⟨rfl, rfl, rfl⟩ | ⟨g, rfl, rfl⟩
          · simp (maxSteps := 3000000) [go_sem,-List.length_flatten,-List.map_drop,-List.map_take, h]
            intros
            refine PF.call (rat_PF names (gi v k)) 9 (by simp [lePs]) ?_
            simp (maxSteps := 3000000) [go_sem,-List.length_flatten,-List.map_drop,-List.map_take, Kc, h, hx]
            intros
            refine ⟨by unfold maxA; omega, ?_⟩
            refine kn _ _ (Kl_next (v.length - (k + 1)) 2 (by omega) ⟨k + 1, [gi v k], rfl, h, hw2, .inr ⟨0, rfl, rfl⟩⟩ (by simp [Tm.get, hwk]) (by simp) (by simp) (by exact ⟨rlb_kd, rlb_str, trivial⟩) (by omega))
          · simp (maxSteps := 3000000) [go_sem,-List.length_flatten,-List.map_drop,-List.map_take, h]
            intros
            refine PF.call (rat_PF names (gi v k)) 9 (by simp [lePs]) ?_
            simp (maxSteps := 3000000) [go_sem,-List.length_flatten,-List.map_drop,-List.map_take, Kc, h, hx, hA1, htk]
            intros
            refine kn _ _ (Kl_next (v.length - (k + 1)) 2 (by omega) ⟨k + 1, w ++ [gi v k], rfl, h, hw2, .inr ⟨g + 1, rfl, rfl⟩⟩ (by simp [Tm.get, hwk]) (by simp) (by simp [htk]) (by exact ⟨rlb_kd, rlb_str, trivial⟩) (by omega))
        · rw [if_neg hx, List.append_nil] at hws
          have hw2 : w = names ++ (v.take (k + 1)).filter (newP names) := by rw [hws, hw]
          unfold ixN at hx
          rcases hS with ⟨hw0, rfl, rfl⟩ | ⟨g, rfl, rfl⟩
          · simp (maxSteps := 3000000) [go_sem,-List.length_flatten,-List.map_drop,-List.map_take, h]
            intros
            refine PF.call (rat_PF names (gi v k)) 9 (by simp [lePs]) ?_
            simp (maxSteps := 3000000) [go_sem,-List.length_flatten,-List.map_drop,-List.map_take, Kc, h, hx]
            intros
            refine kn _ _ (Kl_next (v.length - (k + 1)) 1 (by omega) ⟨k + 1, w, rfl, h, hw2, .inl ⟨hw0, rfl, rfl⟩⟩ (by simp [Tm.get, hwk]) (by simp) (by simp) (by exact ⟨rlb_kd, trivial⟩) (by omega))
          · simp (maxSteps := 3000000) [go_sem,-List.length_flatten,-List.map_drop,-List.map_take, h]
            intros
            refine PF.call (rat_PF names (gi v k)) 9 (by simp [lePs]) ?_
            simp (maxSteps := 3000000) [go_sem,-List.length_flatten,-List.map_drop,-List.map_take, Kc, h, hx]
            intros
            refine kn _ _ (Kl_next (v.length - (k + 1)) 2 (by omega) ⟨k + 1, w, rfl, h, hw2, .inr ⟨g, rfl, rfl⟩⟩ (by simp [Tm.get, hwk]) (by simp) (by simp) (by exact ⟨rlb_kd, rlb_str, trivial⟩) (by omega))
      · have ek : k = v.length := by omega
        subst ek
        rw [List.take_of_length_le (Nat.le_refl _), ← hown] at hw
        subst hw
        rcases hS with ⟨hw0, rfl, rfl⟩ | ⟨g, rfl, rfl⟩
        · simp (maxSteps := 3000000) [go_sem,-List.length_flatten,-List.map_drop,-List.map_take, h, kx]
          intros
          refine hend _ _ _ (by simp [frz, hw0]) ?_
          simp (maxSteps := 3000000) [go_sem,-List.length_flatten,-List.map_drop,-List.map_take, Kc]
          refine PF.call hnn 9 (by simp [lePs]) ?_
          simp (maxSteps := 3000000) [go_sem,-List.length_flatten,-List.map_drop,-List.map_take, Kc]
        · simp (maxSteps := 3000000) [go_sem,-List.length_flatten,-List.map_drop,-List.map_take, h, kx]
          intros
          refine hend _ _ _ (by simp [frz, chunk_one]) ?_
          simp (maxSteps := 3000000) [go_sem,-List.length_flatten,-List.map_drop,-List.map_take, Kc]
          refine PF.call hnn 9 (by simp [lePs]) ?_
          simp (maxSteps := 3000000) [go_sem,-List.length_flatten,-List.map_drop,-List.map_take, Kc]
  · have hq := loadP_bad hb
    generalize (loadP l newK names e 5000).2.2.2 = bad at *
    rw [hq]
    simp (maxSteps := 3000000) [go_sem,-List.length_flatten,-List.map_drop,-List.map_take, Kc, hb]
    refine PF.call (texts_PF names names) 9 (by simp [lePs]) ?_
    simp (maxSteps := 3000000) [go_sem,-List.length_flatten,-List.map_drop,-List.map_take, Kc]
end Go.AM

namespace Go.AM
open Go.Proofs
set_option maxRecDepth 100000
set_option linter.unusedVariables false
set_option linter.unusedSimpArgs false
attribute [local go_sem] Function.comp_def argsT Opd.ev Tm.get put ares mapMo ares1 snilP bldParts bslParts putAt AV.cells AV.one astore aload loadCs callArgs abin abinInt aapp elems appMore appNone preLen aFa aFld apart aExt aPick aNot aLens aEqa cellsK fitsA LK.fitsA leavesA leafA nilD aNilc aCint aCid alive alen alenOk Rle lePs len_flat
/-! ### A term's tree tells the term -/
theorem key_of {a : Kd} {i : Nat} (hi : i < a.keys.length) (h : (termAt a i).2 = true) : keyT (termAt a (i : Int)).1 = gi a.keys (i : Int) := by
 rw [termAt_in (by omega) (by omega)] at h ⊢
 generalize gi a.keys (i : Int) = k at *
 unfold termOf at h ⊢
 split at h
 ·simp at h
 ·rename_i hn
  rw [if_neg hn]
  match k, hn with
  | [], hn => simp at hn
  | [_], hn => simp at hn
  | [_, _], hn => simp at hn
  | x :: y :: z :: r, _ => simp [keyT, gi, List.getD]
theorem names_inj {names : List ByteArray} (h : namesOk names = true) {i j : Nat} (hi : i < names.length) (hj : j < names.length) (e : gi names (i : Int) = gi names (j : Int)) : i = j := by
 unfold namesOk at h
 rw [decide_eq_true_eq] at h
 have h1 := (h i hi).2
 have h2 := (h j hj).2
 rw [e] at h1
 omega
theorem keys_inj {a : Kd} (h : hashRight a = true) {i j : Nat} (hi : i < a.keys.length) (hj : j < a.keys.length) (e : gi a.keys (i : Int) = gi a.keys (j : Int)) : i = j := by
 unfold hashRight at h
 rw [Bool.and_eq_true, decide_eq_true_eq] at h
 have h1 := h.1 i hi
 have h2 := h.1 j hj
 rw [e] at h1
 omega
theorem fst_le {α : Type} [Inhabited α] {p : α → Bool} {l : List α} {i : Nat} (hi : i < l.length) (h : p (gi l i) = true) : fstAt p l ≤ i := by
 unfold fstAt
 cases hf : l.findIdx? p with
 | none => simp only; omega
 | some j =>
  simp only
  obtain ⟨h1, h2, h3⟩ := List.findIdx?_eq_some_iff_getElem.1 hf
  apply Classical.byContradiction
  intro hn
  have := h3 i (by omega)
  have e : l[i] = gi l i := by simp [gi, List.getD, hi]
  rw [e] at this
  rw [h] at this
  simp at this
theorem sigs_inj {l : List Sg} (h : sigRight l = true) {i j : Nat} (hi : i < l.length) (hj : j < l.length) (e : (gi l i).name = (gi l j).name) : i = j := by
 unfold sigRight at h
 rw [Bool.and_eq_true, decide_eq_true_eq] at h
 have h1 := (h.1 i hi).2.2
 have h2 := (h.1 j hj).2.2
 have h3 := fst_le (p := fun x : Sg => decide (x.name = (gi l i).name)) hj (by simp [e])
 have h4 := fst_le (p := fun x : Sg => decide (x.name = (gi l j).name)) hi (by simp [e])
 rw [e] at h1 h3
 omega
/-- Two terms of a right store with the same node, told by names. -/
theorem node_inj {l : List Sg} {names : List ByteArray} (hr : sigRight l = true) (hn : namesOk names = true) {m m' : Int} {t t' : Tm0} (hm : mayBe l m t = true) (hm' : mayBe l m' t' = true) (h2 : (ndT l names t).2 = true) (h2' : (ndT l names t').2 = true) (e : (ndT l names t).1 = (ndT l names t').1) : t.kind = t'.kind ∧ t.sym = t'.sym ∧ t.part = t'.part ∧ t.args.length = t'.args.length := by
 have hk := mayBe_kind hm
 have hk' := mayBe_kind hm'
 have kk : t.kind = t'.kind := by
  have h1 : ∀ t : Tm0, (ndT l names t).1.kind = t.kind := fun t => by
   unfold ndT
   split
   ·rename_i h; split <;> exact h.symm
   split
   ·rename_i h; exact h.symm
   split
   ·rename_i h; exact h.symm
   ·rfl
  rw [← h1 t, ← h1 t', e]
 refine ⟨kk, ?_⟩
 rw [← kk] at hk'
 unfold ndT at e h2 h2'
 rw [← kk] at e h2'
 by_cases k2 : t.kind = 2
 ·rw [if_neg (by omega), if_pos k2, decide_eq_true_eq] at hk hk'
  simp only [if_pos k2] at e h2 h2'
  by_cases n1 : (names.length : Int) ≤ t.sym
  ·rw [if_pos n1] at h2; simp at h2
  by_cases n2 : (names.length : Int) ≤ t'.sym
  ·rw [if_pos n2] at h2'; simp at h2'
  rw [if_neg n1, if_neg n2] at e
  simp only [Nd.mk.injEq] at e
  obtain ⟨i, hi⟩ : ∃ i : Nat, t.sym = i := ⟨t.sym.toNat, by omega⟩
  obtain ⟨j, hj⟩ : ∃ j : Nat, t'.sym = j := ⟨t'.sym.toNat, by omega⟩
  rw [hi, hj] at e
  have := names_inj hn (i := i) (j := j) (by omega) (by omega) e.2.1
  omega
 by_cases k3 : t.kind = 3
 ·rw [if_neg (by omega), if_neg k2, if_pos k3, decide_eq_true_eq] at hk hk'
  simp only [if_neg k2, if_pos k3, Nd.mk.injEq] at e
  obtain ⟨i, hi⟩ : ∃ i : Nat, t.sym = i := ⟨t.sym.toNat, by omega⟩
  obtain ⟨j, hj⟩ : ∃ j : Nat, t'.sym = j := ⟨t'.sym.toNat, by omega⟩
  rw [hi, hj] at e
  have := sigs_inj hr (i := i) (j := j) (by omega) (by omega) e.2.1
  omega
 by_cases k6 : t.kind = 6
 ·rw [if_neg (by omega), if_neg k2, if_neg k3, if_neg (by omega), if_pos k6, decide_eq_true_eq] at hk hk'
  simp only [if_neg k2, if_neg k3, if_pos k6, Nd.mk.injEq] at e
  obtain ⟨i, hi⟩ : ∃ i : Nat, t.sym = i := ⟨t.sym.toNat, by omega⟩
  obtain ⟨j, hj⟩ : ∃ j : Nat, t'.sym = j := ⟨t'.sym.toNat, by omega⟩
  rw [hi, hj] at e
  have := sigs_inj hr (i := i) (j := j) (by omega) (by omega) e.2.1
  omega
 by_cases k0 : t.kind = 0 ∨ t.kind = 1
 ·rw [if_pos k0, decide_eq_true_eq] at hk hk'
  omega
 by_cases k4 : t.kind = 4 ∨ t.kind = 5
 ·rw [if_neg k0, if_neg k2, if_neg k3, if_pos k4, decide_eq_true_eq] at hk hk'
  omega
 ·rw [if_neg k0, if_neg k2, if_neg k3, if_neg k4, if_neg k6] at hk
  cases hk
def rt (l : List Sg) (a : Kd) (names : List ByteArray) (x : Int) : List Nd := (treeN l a names x).reverse
theorem args_inj {f : Int → List Nd} {A : List Int} : ∀ {B : List Int}, A.length = B.length → (∀ x ∈ A, ∀ y ∈ B, ∀ u v, f x ++ u = f y ++ v → x = y ∧ u = v) → ∀ u v, A.flatMap f ++ u = B.flatMap f ++ v → A = B ∧ u = v := by
 induction A with
 | nil =>
  intro B hl _ u v h
  have : B = [] := List.length_eq_zero_iff.1 (by simpa using hl.symm)
  subst this
  exact ⟨rfl, by simpa using h⟩
 | cons x A ih =>
  intro B hl hP u v h
  cases B with
  | nil => simp at hl
  | cons y B =>
   rw [List.flatMap_cons, List.flatMap_cons, List.append_assoc, List.append_assoc] at h
   obtain ⟨rfl, h2⟩ := hP x (by simp) y (by simp) _ _ h
   obtain ⟨rfl, h3⟩ := ih (by simpa using hl) (fun z hz w hw => hP z (by simp [hz]) w (by simp [hw])) u v h2
   exact ⟨rfl, h3⟩
theorem tree_inj {l : List Sg} {a : Kd} {names : List ByteArray} (hr : sigRight l = true) (hn : namesOk names = true) (hs : storeRight l a = true) (hk : a.keys.length ≤ 1048576) : ∀ x : Nat, x < a.keys.length → Nmd l a names x → ∀ y : Nat, y < a.keys.length → Nmd l a names y → ∀ u v, rt l a names x ++ u = rt l a names y ++ v → x = y ∧ u = v := by
 have hsf := sf_of hr hs hk
 obtain ⟨hh, _, ht⟩ := right_term hs
 intro x
 induction x using Nat.strongRecOn with
 | _ x ih =>
  intro hx hNx y hy hNy u v h
  unfold rt at h
  rw [tree_rev hsf.ain hx, tree_rev hsf.ain hy] at h
  simp only [List.cons_append, List.cons.injEq] at h
  obtain ⟨h1, h2⟩ := h
  obtain ⟨tx1, tx2, _⟩ := ht x hx
  obtain ⟨ty1, ty2, _⟩ := ht y hy
  have ux := hNx x .self
  have uy := hNy y .self
  obtain ⟨e1, e2, e3, e4⟩ := node_inj hr hn tx2 ty2 (by simpa [unnamed] using ux) (by simpa [unnamed] using uy) h1
  obtain ⟨ea, eu⟩ := args_inj (f := rt l a names) (by rw [List.length_reverse, List.length_reverse, e4]) (fun z hz w hw u' v' hzw => by
   rw [List.mem_reverse] at hz hw
   have := hsf.ain x hx z hz
   have := hsf.ain y hy w hw
   obtain ⟨i, rfl⟩ : ∃ i : Nat, z = i := ⟨z.toNat, by omega⟩
   obtain ⟨j, rfl⟩ : ∃ j : Nat, w = j := ⟨w.toNat, by omega⟩
   have := ih i (by omega) (by omega) (hNx.args hz) j (by omega) (hNy.args hw) u' v' hzw
   exact ⟨by omega, this.2⟩) u v h2
  refine ⟨keys_inj hh hx hy ?_, eu⟩
  rw [← key_of hx tx1, ← key_of hy ty1]
  have ea' := List.reverse_inj.1 ea
  unfold keyT
  rw [e1, e2, e3, ea']
end Go.AM

namespace Go.AM
open Go.Proofs
set_option maxRecDepth 100000
set_option linter.unusedVariables false
set_option linter.unusedSimpArgs false
attribute [local go_sem] Function.comp_def argsT Opd.ev Tm.get put ares mapMo ares1 snilP bldParts bslParts putAt AV.cells AV.one astore aload loadCs callArgs abin abinInt aapp elems appMore appNone preLen aFa aFld apart aExt aPick aNot aLens aEqa cellsK fitsA LK.fitsA leavesA leafA nilD aNilc aCint aCid alive alen alenOk Rle lePs len_flat
/-! ### Texts of expressions can be read in one way only -/
def btl (s : ByteArray) : List UInt8 := s.data.toList
def nameC (c : UInt8) : Prop := letter (c.toNat : Int) ∨ figure (c.toNat : Int)
def noName (u : List UInt8) : Prop := ∀ c r, u = c :: r → ¬ nameC c
def stop4 (u : List UInt8) : Prop := ∀ c r, u = c :: r → c = 41 ∨ c = 44 ∨ c = 124 ∨ c = 38
def stop2 (u : List UInt8) : Prop := ∀ c r, u = c :: r → c = 41 ∨ c = 44
theorem stop2.four {u : List UInt8} (h : stop2 u) : stop4 u := fun c r e => by
 rcases h c r e with h | h
 ·exact .inl h
 ·exact .inr (.inl h)
theorem stop4.no {u : List UInt8} (h : stop4 u) : noName u := fun c r e hc => by
 rcases h c r e with rfl | rfl | rfl | rfl <;> (unfold nameC letter figure at hc; simp at hc)
theorem stop2_nil : stop2 [] := fun c r e => by cases e
theorem stop2_at {c : UInt8} {r : List UInt8} (h : c = 41 ∨ c = 44) : stop2 (c :: r) := fun d s e => by
 injection e with e1 _
 subst e1
 exact h
theorem noName_at {c : UInt8} {r : List UInt8} (h : c = 40 ∨ c = 126) : noName (c :: r) := fun d s e hc => by
 injection e with e1 _
 subst e1
 rcases h with rfl | rfl <;> (unfold nameC letter figure at hc; simp at hc)
theorem munch : ∀ {s s' u v : List UInt8}, (∀ c ∈ s, nameC c) → (∀ c ∈ s', nameC c) → noName u → noName v → s ++ u = s' ++ v → s = s' ∧ u = v
 | [], [], u, v, _, _, _, _, h => ⟨rfl, by simpa using h⟩
 | [], c :: s', u, v, _, h2, h3, _, h => absurd (h2 c (by simp)) (h3 c (s' ++ v) (by simpa using h))
 | c :: s, [], u, v, h1, _, _, h4, h => absurd (h1 c (by simp)) (h4 c (s ++ u) (by simpa using h.symm))
 | c :: s, d :: s', u, v, h1, h2, h3, h4, h => by
  simp only [List.cons_append, List.cons.injEq] at h
  obtain ⟨e1, e2⟩ := munch (fun x hx => h1 x (by simp [hx])) (fun x hx => h2 x (by simp [hx])) h3 h4 h.2
  exact ⟨by rw [h.1, e1], e2⟩
theorem byte_btl {s : ByteArray} {i : Nat} (h : i < (btl s).length) : byte s i = ((btl s)[i].toNat : Int) := by
 unfold btl at h ⊢
 unfold byte
 simp at h
 simp [Array.getD, h]
theorem name_chars {s : ByteArray} (h : nameOk s = true) : ∀ c ∈ btl s, nameC c := by
 intro c hc
 obtain ⟨i, hi, rfl⟩ := List.getElem_of_mem hc
 unfold nameOk at h
 simp only [Bool.and_eq_true, decide_eq_true_eq] at h
 have h1 := h.2 i (by unfold btl at hi; simpa using hi)
 rw [byte_btl hi] at h1
 rcases h1 with h1 | h1
 ·exact .inl h1
 ·exact .inr h1.2
theorem name_head {s : ByteArray} (h : nameOk s = true) : ∃ c r, btl s = c :: r ∧ byte s 0 = (c.toNat : Int) := by
 have h0 := nameSize h
 have hl : 0 < (btl s).length := by unfold btl; simpa using h0
 have h1 := byte_btl (s := s) (i := 0) hl
 cases hb : btl s with
 | nil => rw [hb] at hl; simp at hl
 | cons c r =>
  refine ⟨c, r, rfl, ?_⟩
  rw [show (0 : Int) = ((0 : Nat) : Int) from rfl, h1]
  simp [hb]
def opc (k : Int) : UInt8 := if k = 4 then 124 else 38
def atm (k : Int) (t : List UInt8) : List UInt8 := if two k then 40 :: (t ++ [41]) else t
def joinL : List (List UInt8) → List UInt8
 | [] => []
 | [x] => x
 | x :: y :: l => x ++ 44 :: joinL (y :: l)
abbrev Trp := List Nd × List UInt8 × Int
inductive Ex : List Nd → List UInt8 → Int → Prop
 | zero : Ex [⟨0, ⟨#[]⟩, 0⟩] [48] 0
 | one : Ex [⟨1, ⟨#[]⟩, 0⟩] [49] 1
 | var (s : ByteArray) : varOk s = true → Ex [⟨2, s, 0⟩] (btl s) 2
 | con0 (s : ByteArray) : conOk s = true → Ex [⟨3, s, 0⟩] (btl s) 3
 | con (s : ByteArray) (A : List Trp) : conOk s = true → A ≠ [] → (∀ a ∈ A, Ex a.1 a.2.1 a.2.2) → Ex (A.flatMap (fun a => a.1) ++ [⟨3, s, A.length⟩]) (btl s ++ 40 :: (joinL (A.map fun a => a.2.1) ++ [41])) 3
 | proj (s : ByteArray) (n : Int) (l : List Nd) (t : List UInt8) (k : Int) : conOk s = true → 1 ≤ n → n ≤ 8 → Ex l t k → Ex (l ++ [⟨6, s, n⟩]) (btl s ++ 126 :: UInt8.ofNat (48 + n.toNat) :: 40 :: (t ++ [41])) 6
 | two (k : Int) (l1 : List Nd) (t1 : List UInt8) (k1 : Int) (l2 : List Nd) (t2 : List UInt8) (k2 : Int) : k = 4 ∨ k = 5 → Ex l1 t1 k1 → Ex l2 t2 k2 → Ex (l1 ++ l2 ++ [⟨k, ⟨#[]⟩, 2⟩]) ((if k1 = k then t1 else atm k1 t1) ++ opc k :: atm k2 t2) k
theorem Ex.pos {l : List Nd} {t : List UInt8} {k : Int} (h : Ex l t k) : 0 < l.length := by
 cases h <;> simp only [List.length_append, List.length_singleton] <;> omega
/-- The kinds by their first bytes. -/
def cls (k : Int) : Nat := if k = 0 then 0 else if k = 1 then 1 else if k = 2 then 2 else if k = 3 ∨ k = 6 then 3 else 4
def clsB (c : UInt8) : Nat := if c = 48 then 0 else if c = 49 then 1 else if 65 ≤ c.toNat ∧ c.toNat ≤ 90 then 2 else if 97 ≤ c.toNat ∧ c.toNat ≤ 122 then 3 else 4
theorem con_head {s : ByteArray} (h : conOk s = true) : nameOk s = true ∧ ∃ c r, btl s = c :: r ∧ clsB c = 3 := by
 unfold conOk at h
 simp only [Bool.and_eq_true, decide_eq_true_eq] at h
 obtain ⟨c, r, h1, h2⟩ := name_head h.1.1
 refine ⟨h.1.1, c, r, h1, ?_⟩
 unfold clsB
 rw [if_neg (by rintro rfl; rw [h2] at h; exact absurd h.1.2 (by decide)), if_neg (by rintro rfl; rw [h2] at h; exact absurd h.1.2 (by decide)), if_neg (by omega), if_pos (by omega)]
theorem var_head {s : ByteArray} (h : varOk s = true) : nameOk s = true ∧ ∃ c r, btl s = c :: r ∧ clsB c = 2 := by
 unfold varOk at h
 simp only [Bool.and_eq_true, decide_eq_true_eq] at h
 obtain ⟨c, r, h1, h2⟩ := name_head h.1.1
 refine ⟨h.1.1, c, r, h1, ?_⟩
 unfold clsB
 rw [if_neg (by rintro rfl; rw [h2] at h; exact absurd h.1.2 (by decide)), if_neg (by rintro rfl; rw [h2] at h; exact absurd h.1.2 (by decide)), if_pos (by omega)]
theorem Ex.head {l : List Nd} {t : List UInt8} {k : Int} (h : Ex l t k) : ∃ c r, atm k t = c :: r ∧ clsB c = cls k := by
 cases h with
 | zero => exact ⟨48, [], rfl, rfl⟩
 | one => exact ⟨49, [], rfl, rfl⟩
 | var s hs =>
  obtain ⟨_, c, r, h1, h2⟩ := var_head hs
  exact ⟨c, r, by rw [← h1]; rfl, h2⟩
 | con0 s hs =>
  obtain ⟨_, c, r, h1, h2⟩ := con_head hs
  exact ⟨c, r, by rw [← h1]; rfl, h2⟩
 | con s A hs =>
  obtain ⟨_, c, r, h1, h2⟩ := con_head hs
  exact ⟨c, _, by rw [h1]; rfl, h2⟩
 | proj s n l t k hs =>
  obtain ⟨_, c, r, h1, h2⟩ := con_head hs
  exact ⟨c, _, by rw [h1]; rfl, h2⟩
 | two k l1 t1 k1 l2 t2 k2 hk =>
  rcases hk with rfl | rfl
  ·exact ⟨40, _, rfl, rfl⟩
  ·exact ⟨40, _, rfl, rfl⟩
end Go.AM

namespace Go.AM
open Go.Proofs
set_option maxRecDepth 100000
set_option linter.unusedVariables false
set_option linter.unusedSimpArgs false
attribute [local go_sem] Function.comp_def argsT Opd.ev Tm.get put ares mapMo ares1 snilP bldParts bslParts putAt AV.cells AV.one astore aload loadCs callArgs abin abinInt aapp elems appMore appNone preLen aFa aFld apart aExt aPick aNot aLens aEqa cellsK fitsA LK.fitsA leavesA leafA nilD aNilc aCint aCid alive alen alenOk Rle lePs len_flat
/-! ### Chains of one sign -/
structure Chn (l : List Nd) (t : List UInt8) (k : Int) (a : Trp) (R : List Trp) : Prop where
 fst : Ex a.1 a.2.1 a.2.2
 more : ∀ b ∈ R, Ex b.1 b.2.1 b.2.2
 text : t = atm a.2.2 a.2.1 ++ R.flatMap fun b => opc k :: atm b.2.2 b.2.1
 row : l = a.1 ++ R.flatMap fun b => b.1 ++ [⟨k, ⟨#[]⟩, 2⟩]
 nil : R = [] → a = (l, t, k) ∧ two k = false
 cons : R ≠ [] → k = 4 ∨ k = 5
theorem ex_chain {l : List Nd} {t : List UInt8} {k : Int} (h : Ex l t k) : ∃ a R, Chn l t k a R := by
 have base : ∀ {l t k}, Ex l t k → two k = false → ∃ a R, Chn l t k a R := fun {l t k} h hk =>
  ⟨(l, t, k), [], h, by simp, by simp [atm, hk], by simp, fun _ => ⟨rfl, hk⟩, fun h => absurd rfl h⟩
 induction h with
 | zero => exact base .zero rfl
 | one => exact base .one rfl
 | var s hs => exact base (.var s hs) rfl
 | con0 s hs => exact base (.con0 s hs) rfl
 | con s A hs hA hE _ => exact base (.con s A hs hA hE) rfl
 | proj s n l t k hs h1 h2 hE _ => exact base (.proj s n l t k hs h1 h2 hE) rfl
 | two k l1 t1 k1 l2 t2 k2 hk h1 h2 ih1 _ =>
  have hk2 : two k = true := by rcases hk with rfl | rfl <;> rfl
  by_cases e : k1 = k
  ·subst e
   obtain ⟨a, R, c⟩ := ih1
   refine ⟨a, R ++ [(l2, t2, k2)], c.fst, ?_, ?_, ?_, fun h => by simp at h, fun _ => hk⟩
   ·intro b hb
    rcases List.mem_append.1 hb with hb | hb
    ·exact c.more b hb
    ·simp at hb
     subst hb
     exact h2
   ·rw [if_pos rfl, c.text, List.flatMap_append]
    simp
   ·rw [c.row, List.flatMap_append]
    simp
  ·refine ⟨(l1, t1, k1), [(l2, t2, k2)], h1, by simpa using h2, ?_, by simp, fun h => by simp at h, fun _ => hk⟩
   rw [if_neg e]
   simp
theorem Chn.len {l : List Nd} {t : List UInt8} {k : Int} {a : Trp} {R : List Trp} (c : Chn l t k a R) : a.1.length ≤ l.length ∧ ∀ b ∈ R, b.1.length ≤ l.length := by
 rw [c.row]
 refine ⟨by simp, fun b hb => ?_⟩
 obtain ⟨R1, R2, rfl⟩ := List.append_of_mem hb
 simp only [List.flatMap_append, List.flatMap_cons, List.length_append]
 omega
def UA (x : Trp) : Prop := ∀ y : Trp, Ex y.1 y.2.1 y.2.2 → ∀ u v, stop4 u → stop4 v → atm x.2.2 x.2.1 ++ u = atm y.2.2 y.2.1 ++ v → x = y ∧ u = v
def EU (x : Trp) : Prop := ∀ y : Trp, Ex y.1 y.2.1 y.2.2 → ∀ u v, stop2 u → stop2 v → x.2.1 ++ u = y.2.1 ++ v → x = y ∧ u = v
theorem stop4_rest {R : List Trp} {k : Int} {u : List UInt8} (hu : stop2 u) : stop4 (R.flatMap (fun b => opc k :: atm b.2.2 b.2.1) ++ u) := by
 cases R with
 | nil => simpa using hu.four
 | cons b R =>
  intro c r e
  simp only [List.flatMap_cons, List.cons_append, List.cons.injEq] at e
  rw [← e.1]
  unfold opc
  split
  ·exact .inr (.inr (.inl rfl))
  ·exact .inr (.inr (.inr rfl))
theorem opc_no {k : Int} {r u : List UInt8} (h : stop2 u) : u ≠ opc k :: r := fun e => by
 have := h _ _ e
 unfold opc at this
 split at this <;> revert this <;> decide
theorem rest_inj {k k' : Int} : ∀ {R R' : List Trp}, (∀ b ∈ R, UA b) → (∀ b ∈ R', Ex b.1 b.2.1 b.2.2) → ∀ u v, stop2 u → stop2 v →
  R.flatMap (fun b => opc k :: atm b.2.2 b.2.1) ++ u = R'.flatMap (fun b => opc k' :: atm b.2.2 b.2.1) ++ v → R = R' ∧ (R ≠ [] → opc k = opc k') ∧ u = v
 | [], [], _, _, u, v, _, _, h => ⟨rfl, fun h => absurd rfl h, by simpa using h⟩
 | [], b :: R', _, _, u, v, hu, _, h => by
  simp only [List.flatMap_nil, List.nil_append, List.flatMap_cons, List.cons_append] at h
  exact absurd h (opc_no hu)
 | b :: R, [], _, _, u, v, _, hv, h => by
  simp only [List.flatMap_nil, List.nil_append, List.flatMap_cons, List.cons_append] at h
  exact absurd h.symm (opc_no hv)
 | b :: R, b' :: R', h1, h2, u, v, hu, hv, h => by
  simp only [List.flatMap_cons, List.cons_append, List.cons.injEq, List.append_assoc] at h
  obtain ⟨e1, e2⟩ := h1 b (by simp) b' (h2 b' (by simp)) _ _ (stop4_rest hu) (stop4_rest hv) h.2
  obtain ⟨e3, _, e4⟩ := rest_inj (fun c hc => h1 c (by simp [hc])) (fun c hc => h2 c (by simp [hc])) u v hu hv e2
  exact ⟨by rw [e1, e3], fun _ => h.1, e4⟩
theorem opc_inj {k k' : Int} (h : opc k = opc k') (hk : k = 4 ∨ k = 5) (hk' : k' = 4 ∨ k' = 5) : k = k' := by
 rcases hk with rfl | rfl <;> rcases hk' with rfl | rfl <;> first | rfl | (revert h; decide)
theorem Chn.lt {l : List Nd} {t : List UInt8} {k : Int} {a : Trp} {R : List Trp} (c : Chn l t k a R) (h : two k = true) : a.1.length < l.length ∧ ∀ b ∈ R, b.1.length < l.length := by
 have hR : R ≠ [] := fun e => by have := (c.nil e).2; rw [h] at this; cases this
 have hp := c.fst.pos
 rw [c.row]
 constructor
 ·cases R with
  | nil => exact absurd rfl hR
  | cons b R => simp only [List.flatMap_cons, List.length_append, List.length_singleton]; omega
 ·intro b hb
  obtain ⟨R1, R2, rfl⟩ := List.append_of_mem hb
  simp only [List.flatMap_append, List.flatMap_cons, List.length_append]
  omega
theorem eu_of {N : Nat} (hA : ∀ x : Trp, Ex x.1 x.2.1 x.2.2 → x.1.length < N → UA x) (x : Trp) (hx : Ex x.1 x.2.1 x.2.2) (hN : x.1.length < N ∨ (two x.2.2 = true ∧ x.1.length < N + 1)) : EU x := by
 intro y hy u v hu hv h
 obtain ⟨a, R, c⟩ := ex_chain hx
 have hsm : a.1.length < N ∧ ∀ b ∈ R, b.1.length < N := by
  rcases hN with hN | ⟨h2, hN⟩
  ·obtain ⟨n1, n2⟩ := c.len
   exact ⟨by omega, fun b hb => by have := n2 b hb; omega⟩
  ·obtain ⟨n1, n2⟩ := c.lt h2
   exact ⟨by omega, fun b hb => by have := n2 b hb; omega⟩
 obtain ⟨a', R', c'⟩ := ex_chain hy
 rw [c.text, c'.text, List.append_assoc, List.append_assoc] at h
 obtain ⟨e1, e2⟩ := hA a c.fst hsm.1 a' c'.fst _ _ (stop4_rest hu) (stop4_rest hv) h
 obtain ⟨e3, e4, e5⟩ := rest_inj (fun b hb => hA b (c.more b hb) (hsm.2 b hb)) c'.more u v hu hv e2
 refine ⟨?_, e5⟩
 by_cases hR : R = []
 ·have h1 := (c.nil hR).1
  have h2 := (c'.nil (by rw [← e3]; exact hR)).1
  obtain ⟨x1, x2, x3⟩ := x
  obtain ⟨y1, y2, y3⟩ := y
  rw [← h1, ← h2, e1]
 ·have ek := opc_inj (e4 hR) (c.cons hR) (c'.cons (by rw [← e3]; exact hR))
  obtain ⟨x1, x2, x3⟩ := x
  obtain ⟨y1, y2, y3⟩ := y
  have r1 := c.row
  have r2 := c'.row
  have t1 := c.text
  have t2 := c'.text
  simp only at ek r1 r2 t1 t2
  rw [← e1, ← e3, ← ek] at r2 t2
  rw [r1, t1, r2, t2, ek]
theorem join_cons (x : List UInt8) (L : List (List UInt8)) : joinL (x :: L) = x ++ (match L with | [] => [] | y :: L => 44 :: joinL (y :: L)) := by
 cases L with
 | nil => simp [joinL]
 | cons y L => rfl
theorem join_inj : ∀ {A B : List Trp}, (∀ a ∈ A, EU a) → (∀ b ∈ B, Ex b.1 b.2.1 b.2.2) → A ≠ [] → B ≠ [] → ∀ u v, joinL (A.map fun a => a.2.1) ++ 41 :: u = joinL (B.map fun a => a.2.1) ++ 41 :: v → A = B ∧ u = v
 | [], _, _, _, h, _, _, _, _ => absurd rfl h
 | _, [], _, _, _, h, _, _, _ => absurd rfl h
 | [a], [b], h1, h2, _, _, u, v, h => by
  obtain ⟨rfl, e⟩ := h1 a (by simp) b (h2 b (by simp)) _ _ (stop2_at (.inl rfl)) (stop2_at (.inl rfl)) (by simpa [joinL] using h)
  exact ⟨rfl, by simpa using e⟩
 | [a], b :: b2 :: B, h1, h2, _, _, u, v, h => by
  simp only [List.map_cons, List.map_nil, joinL, List.append_assoc, List.cons_append] at h
  obtain ⟨_, e⟩ := h1 a (by simp) b (h2 b (by simp)) _ _ (stop2_at (.inl rfl)) (stop2_at (.inr rfl)) h
  simp at e
 | a :: a2 :: A, [b], h1, h2, _, _, u, v, h => by
  simp only [List.map_cons, List.map_nil, joinL, List.append_assoc, List.cons_append] at h
  obtain ⟨_, e⟩ := h1 a (by simp) b (h2 b (by simp)) _ _ (stop2_at (.inr rfl)) (stop2_at (.inl rfl)) h
  simp at e
 | a :: a2 :: A, b :: b2 :: B, h1, h2, _, _, u, v, h => by
  simp only [List.map_cons, joinL, List.append_assoc, List.cons_append] at h
  obtain ⟨rfl, e⟩ := h1 a (by simp) b (h2 b (by simp)) _ _ (stop2_at (.inr rfl)) (stop2_at (.inr rfl)) h
  simp only [List.cons.injEq, true_and] at e
  obtain ⟨e1, e2⟩ := join_inj (A := a2 :: A) (B := b2 :: B) (fun c hc => h1 c (List.mem_cons_of_mem _ hc)) (fun c hc => h2 c (List.mem_cons_of_mem _ hc)) (by simp) (by simp) u v (by simpa only [List.map_cons] using e)
  exact ⟨by rw [e1], e2⟩
end Go.AM

namespace Go.AM
open Go.Proofs
set_option maxRecDepth 100000
set_option linter.unusedVariables false
set_option linter.unusedSimpArgs false
attribute [local go_sem] Function.comp_def argsT Opd.ev Tm.get put ares mapMo ares1 snilP bldParts bslParts putAt AV.cells AV.one astore aload loadCs callArgs abin abinInt aapp elems appMore appNone preLen aFa aFld apart aExt aPick aNot aLens aEqa cellsK fitsA LK.fitsA leavesA leafA nilD aNilc aCint aCid alive alen alenOk Rle lePs len_flat
/-! ### One reading -/
theorem ua_all : ∀ (N : Nat) (x : Trp), Ex x.1 x.2.1 x.2.2 → x.1.length < N → UA x := by
 intro N
 induction N with
 | zero => intro x _ h; omega
 | succ N ih =>
  rintro ⟨l, t, k⟩ hx hN ⟨l', t', k'⟩ hy u v hu hv h
  simp only at hx hy h hN
  have hc : cls k = cls k' := by
   obtain ⟨c, r, h1, h2⟩ := hx.head
   obtain ⟨d, s, h3, h4⟩ := hy.head
   rw [h1, h3] at h
   simp only [List.cons_append, List.cons.injEq] at h
   rw [← h2, ← h4, h.1]
  have heu := fun x hx hl => eu_of (N := N) ih x hx (.inl hl)
  have heu2 := fun x hx hl => eu_of (N := N) ih x hx (.inr hl)
  cases hx with
  | zero =>
   cases hy with
   | zero => exact ⟨rfl, by simpa [atm, two] using h⟩
   | two k _ _ _ _ _ _ hk => rcases hk with rfl | rfl <;> exact absurd hc (by decide)
   | _ => exact absurd hc (by decide)
  | one =>
   cases hy with
   | one => exact ⟨rfl, by simpa [atm, two] using h⟩
   | two k _ _ _ _ _ _ hk => rcases hk with rfl | rfl <;> exact absurd hc (by decide)
   | _ => exact absurd hc (by decide)
  | var s hs =>
   cases hy with
   | var s' hs' =>
    have h : btl s ++ u = btl s' ++ v := h
    obtain ⟨e1, e2⟩ := munch (name_chars (var_head hs).1) (name_chars (var_head hs').1) hu.no hv.no h
    have : s = s' := ByteArray.ext (Array.toList_inj.1 e1)
    subst this
    exact ⟨rfl, e2⟩
   | two k _ _ _ _ _ _ hk => rcases hk with rfl | rfl <;> exact absurd hc (by decide)
   | _ => exact absurd hc (by decide)
  | con0 s hs =>
   cases hy with
   | con0 s' hs' =>
    have h : btl s ++ u = btl s' ++ v := h
    obtain ⟨e1, e2⟩ := munch (name_chars (con_head hs).1) (name_chars (con_head hs').1) hu.no hv.no h
    have : s = s' := ByteArray.ext (Array.toList_inj.1 e1)
    subst this
    exact ⟨rfl, e2⟩
   | con s' A hs' =>
    have h : btl s ++ u = (btl s' ++ 40 :: (joinL (A.map fun a => a.2.1) ++ [41])) ++ v := h
    rw [List.append_assoc] at h
    obtain ⟨_, e2⟩ := munch (name_chars (con_head hs).1) (name_chars (con_head hs').1) hu.no (noName_at (.inl rfl)) h
    exact absurd (hu _ _ e2) (by decide)
   | proj s' n l t k hs' =>
    have h : btl s ++ u = (btl s' ++ 126 :: UInt8.ofNat (48 + n.toNat) :: 40 :: (t ++ [41])) ++ v := h
    rw [List.append_assoc] at h
    obtain ⟨_, e2⟩ := munch (name_chars (con_head hs).1) (name_chars (con_head hs').1) hu.no (noName_at (.inr rfl)) h
    exact absurd (hu _ _ e2) (by decide)
   | two k _ _ _ _ _ _ hk => rcases hk with rfl | rfl <;> exact absurd hc (by decide)
   | _ => exact absurd hc (by decide)
  | con s A hs hA hE =>
   cases hy with
   | con0 s' hs' =>
    have h : (btl s ++ 40 :: (joinL (A.map fun a => a.2.1) ++ [41])) ++ u = btl s' ++ v := h
    rw [List.append_assoc] at h
    obtain ⟨_, e2⟩ := munch (name_chars (con_head hs).1) (name_chars (con_head hs').1) (noName_at (.inl rfl)) hv.no h
    exact absurd (hv _ _ e2.symm) (by decide)
   | con s' B hs' hB hE' =>
    have h : (btl s ++ 40 :: (joinL (A.map fun a => a.2.1) ++ [41])) ++ u = (btl s' ++ 40 :: (joinL (B.map fun a => a.2.1) ++ [41])) ++ v := h
    rw [List.append_assoc, List.append_assoc] at h
    obtain ⟨e1, e2⟩ := munch (name_chars (con_head hs).1) (name_chars (con_head hs').1) (noName_at (.inl rfl)) (noName_at (.inl rfl)) h
    have : s = s' := ByteArray.ext (Array.toList_inj.1 e1)
    subst this
    have hl : ∀ a ∈ A, a.1.length < N := fun a ha => by
     obtain ⟨A1, A2, rfl⟩ := List.append_of_mem ha
     simp only [List.flatMap_append, List.flatMap_cons, List.length_append, List.length_singleton] at hN
     omega
    obtain ⟨e3, e4⟩ := join_inj (A := A) (B := B) (fun a ha => heu a (hE a ha) (hl a ha)) hE' hA hB u v (by simpa using e2)
    subst e3
    exact ⟨rfl, e4⟩
   | proj s' n l t k hs' =>
    have h : (btl s ++ 40 :: (joinL (A.map fun a => a.2.1) ++ [41])) ++ u = (btl s' ++ 126 :: UInt8.ofNat (48 + n.toNat) :: 40 :: (t ++ [41])) ++ v := h
    rw [List.append_assoc, List.append_assoc] at h
    obtain ⟨_, e2⟩ := munch (name_chars (con_head hs).1) (name_chars (con_head hs').1) (noName_at (.inl rfl)) (noName_at (.inr rfl)) h
    simp at e2
   | two k _ _ _ _ _ _ hk => rcases hk with rfl | rfl <;> exact absurd hc (by decide)
   | _ => exact absurd hc (by decide)
  | proj s n l1 t1 k1 hs hn1 hn8 hE =>
   cases hy with
   | con0 s' hs' =>
    have h : (btl s ++ 126 :: UInt8.ofNat (48 + n.toNat) :: 40 :: (t1 ++ [41])) ++ u = btl s' ++ v := h
    rw [List.append_assoc] at h
    obtain ⟨_, e2⟩ := munch (name_chars (con_head hs).1) (name_chars (con_head hs').1) (noName_at (.inr rfl)) hv.no h
    exact absurd (hv _ _ e2.symm) (by decide)
   | con s' B hs' hB hE' =>
    have h : (btl s ++ 126 :: UInt8.ofNat (48 + n.toNat) :: 40 :: (t1 ++ [41])) ++ u = (btl s' ++ 40 :: (joinL (B.map fun a => a.2.1) ++ [41])) ++ v := h
    rw [List.append_assoc, List.append_assoc] at h
    obtain ⟨_, e2⟩ := munch (name_chars (con_head hs).1) (name_chars (con_head hs').1) (noName_at (.inr rfl)) (noName_at (.inl rfl)) h
    simp at e2
   | proj s' n' l2 t2 k2 hs' hn1' hn8' hE' =>
    have h : (btl s ++ 126 :: UInt8.ofNat (48 + n.toNat) :: 40 :: (t1 ++ [41])) ++ u = (btl s' ++ 126 :: UInt8.ofNat (48 + n'.toNat) :: 40 :: (t2 ++ [41])) ++ v := h
    rw [List.append_assoc, List.append_assoc] at h
    obtain ⟨e1, e2⟩ := munch (name_chars (con_head hs).1) (name_chars (con_head hs').1) (noName_at (.inr rfl)) (noName_at (.inr rfl)) h
    have : s = s' := ByteArray.ext (Array.toList_inj.1 e1)
    subst this
    have e2 : UInt8.ofNat (48 + n.toNat) :: 40 :: (t1 ++ 41 :: u) = UInt8.ofNat (48 + n'.toNat) :: 40 :: (t2 ++ 41 :: v) := by simpa using e2
    rw [List.cons.injEq, List.cons.injEq] at e2
    have hn : n = n' := by
     have := congrArg UInt8.toNat e2.1
     simp only [UInt8.toNat_ofNat'] at this
     omega
    subst hn
    have hl : l1.length < N := by simp at hN; omega
    obtain ⟨e3, e4⟩ := heu (l1, t1, k1) hE hl (l2, t2, k2) hE' _ _ (stop2_at (.inl rfl)) (stop2_at (.inl rfl)) e2.2.2
    simp only [Prod.mk.injEq] at e3
    obtain ⟨rfl, rfl, rfl⟩ := e3
    exact ⟨rfl, by simpa using e4⟩
   | two k _ _ _ _ _ _ hk => rcases hk with rfl | rfl <;> exact absurd hc (by decide)
   | _ => exact absurd hc (by decide)
  | two k l1 t1 k1 l2 t2 k2 hk h1 h2 =>
   have hx : Ex (l1 ++ l2 ++ [⟨k, ⟨#[]⟩, 2⟩]) ((if k1 = k then t1 else atm k1 t1) ++ opc k :: atm k2 t2) k := .two k l1 t1 k1 l2 t2 k2 hk h1 h2
   have hk2 : two k = true := by rcases hk with rfl | rfl <;> rfl
   have hk4 : cls k = 4 := by rcases hk with rfl | rfl <;> rfl
   have hk2' : two k' = true := by
    cases hy with
    | two k' _ _ _ _ _ _ hk' => rcases hk' with rfl | rfl <;> rfl
    | _ => rw [hk4] at hc; exact absurd hc (by decide)
   generalize (if k1 = k then t1 else atm k1 t1) ++ opc k :: atm k2 t2 = t at *
   unfold atm at h
   rw [if_pos hk2, if_pos hk2'] at h
   have h' : t ++ 41 :: u = t' ++ 41 :: v := by simpa using h
   obtain ⟨e3, e4⟩ := heu2 (l1 ++ l2 ++ [⟨k, ⟨#[]⟩, 2⟩], t, k) hx ⟨hk2, hN⟩ (l', t', k') hy _ _ (stop2_at (.inl rfl)) (stop2_at (.inl rfl)) h'
   exact ⟨e3, by simpa using e4⟩
/-- A text has one expression. -/
theorem ex_one {x y : Trp} (hx : Ex x.1 x.2.1 x.2.2) (hy : Ex y.1 y.2.1 y.2.2) (h : x.2.1 = y.2.1) : x = y :=
 (eu_of (N := x.1.length + 1) (fun z hz _ => ua_all (z.1.length + 1) z hz (by omega)) x hx (.inl (by omega)) y hy [] [] stop2_nil stop2_nil (by rw [h])).1
end Go.AM

namespace Go.AM
open Go.Proofs
set_option maxRecDepth 100000
set_option linter.unusedVariables false
set_option linter.unusedSimpArgs false
attribute [local go_sem] Function.comp_def argsT Opd.ev Tm.get put ares mapMo ares1 snilP bldParts bslParts putAt AV.cells AV.one astore aload loadCs callArgs abin abinInt aapp elems appMore appNone preLen aFa aFld apart aExt aPick aNot aLens aEqa cellsK fitsA LK.fitsA leavesA leafA nilD aNilc aCint aCid alive alen alenOk Rle lePs len_flat
/-! ### The texts of rows of nodes are such texts -/
theorem btl_app (a b : ByteArray) : btl (a ++ b) = btl a ++ btl b := by simp [btl, ByteArray.data_append]
theorem btl_join : ∀ L : List ByteArray, btl (joinB L) = joinL (L.map btl)
 | [] => rfl
 | [x] => rfl
 | x :: y :: L => by
  have := btl_join (y :: L)
  simp only [joinB, List.map_cons, joinL, btl_app] at this ⊢
  rw [this]
  rfl
theorem span_node {e : List Nd} (he : ndsMay e) {i : Nat} (hi : i < e.length) : spanN e (enN e i) = (kidsN e i).flatMap (spanN e) ++ [gi e i] := by
 obtain ⟨h1, h2⟩ := he i hi
 have hN := mayN h1
 have hpl : pN (gi e i) ≤ (stk e i).length := by unfold pN; omega
 have hch := stk_chain e i ((right_good he).sub (by omega))
 have hsp := span_kids (e := e) (pN (gi e i)) hch (by omega) hpl
 have hcd := (chain_drop (pN (gi e i)) hch hpl).2
 unfold kidsN
 rw [hsp]
 show (e.take (i + 1)).drop (if pN (gi e i) = 0 then i else (gi (stk e i) ((pN (gi e i) - 1 : Nat) : Int)).s) = _
 rw [List.take_succ_eq_append_getElem hi, List.drop_append_of_le_length (by simp; omega)]
 simp [gi, List.getD, hi]
theorem btl_brT (b : Bool) (t : ByteArray) : btl (brT b t) = if b then 40 :: (btl t ++ [41]) else btl t := by
 unfold brT
 cases b
 ·rfl
 ·simp only [if_true, btl_app]
  rfl
theorem ex_of {e : List Nd} (he : ndsMay e) : ∀ i : Nat, i < e.length → Ex (spanN e (enN e i)) (btl (enN e i).t) (gi e i).kind := by
 intro i
 induction i using Nat.strongRecOn with
 | _ i ih =>
  intro hi
  obtain ⟨h1, h2⟩ := he i hi
  have hN := mayN h1
  have hkd := mayKind h1
  have hpl : pN (gi e i) ≤ (stk e i).length := by unfold pN; omega
  have hks : ∀ x ∈ kidsN e i, Ex (spanN e x) (btl x.t) x.k := fun x hx => by
   unfold kidsN at hx
   rw [List.mem_reverse] at hx
   obtain ⟨q1, q2⟩ := stk_en e i x (List.mem_of_mem_take hx)
   have := ih x.r q1 (by omega)
   rw [q2]
   exact this
  have hkl : (kidsN e i).length = pN (gi e i) := by unfold kidsN; rw [List.length_reverse, List.length_take]; omega
  have hpe : (pN (gi e i) : Int) = partsN (gi e i) := by unfold pN; omega
  rw [span_node he hi]
  have ht : (enN e i).t = txtN (gi e i) (kidsN e i) := rfl
  rw [ht]
  generalize kidsN e i = ks at *
  generalize gi e i = n at *
  clear h2 hpl
  unfold ndMay at h1
  unfold partsN at hpe
  have hkk : n.kind = 0 ∨ n.kind = 1 ∨ n.kind = 2 ∨ n.kind = 3 ∨ n.kind = 4 ∨ n.kind = 5 ∨ n.kind = 6 := by omega
  have h0 : ∀ {m : Nat}, ks.length = m → m = 0 → ks = [] := fun h1 h2 => List.length_eq_zero_iff.1 (by omega)
  obtain ⟨kk, nm, nn⟩ := n
  simp only at hkk
  rcases hkk with rfl | rfl | rfl | rfl | rfl | rfl | rfl
  ·simp at h1 hpe
   obtain ⟨rfl, rfl⟩ := h1
   have hk0 := h0 hkl (by omega)
   subst hk0
   exact .zero
  ·simp at h1 hpe
   obtain ⟨rfl, rfl⟩ := h1
   have hk0 := h0 hkl (by omega)
   subst hk0
   exact .one
  ·simp at h1 hpe
   obtain ⟨h1, rfl⟩ := h1
   have hk0 := h0 hkl (by omega)
   subst hk0
   exact .var nm h1
  ·simp at h1 hpe
   by_cases hz : nn = 0
   ·subst hz
    have hk0 := h0 hkl (by omega)
    subst hk0
    exact .con0 nm h1.1
   ·have := Ex.con nm (ks.map fun x => (spanN e x, btl x.t, x.k)) h1.1 (by intro h; rw [List.map_eq_nil_iff] at h; subst h; simp at hkl; omega) (fun a ha => by
     obtain ⟨x, hx, rfl⟩ := List.mem_map.1 ha
     exact hks x hx)
    have hn : ((ks.map fun x => (spanN e x, btl x.t, x.k)).length : Int) = nn := by rw [List.length_map]; omega
    rw [hn] at this
    have e1 : (ks.map fun x => (spanN e x, btl x.t, x.k)).flatMap (fun a => a.1) = ks.flatMap (spanN e) := by rw [List.flatMap_map]
    have e2 : btl (txtN ⟨3, nm, nn⟩ ks) = btl nm ++ 40 :: (joinL ((ks.map fun x => (spanN e x, btl x.t, x.k)).map fun a => a.2.1) ++ [41]) := by
     have : txtN ⟨3, nm, nn⟩ ks = nm ++ ⟨#[40]⟩ ++ joinB (ks.map (·.t)) ++ ⟨#[41]⟩ := by simp [txtN, hz]
     rw [this, btl_app, btl_app, btl_app, btl_join, List.map_map, List.map_map]
     simp [btl, Function.comp_def]
    rw [e1] at this
    rw [e2]
    exact this
  ·simp at h1 hpe
   obtain ⟨rfl, rfl⟩ := h1
   match ks, hkl, hks with
   | [k0, k1], _, hks =>
    have := Ex.two 4 (spanN e k0) (btl k0.t) k0.k (spanN e k1) (btl k1.t) k1.k (.inl rfl) (hks k0 (by simp)) (hks k1 (by simp))
    have e2 : btl (txtN ⟨4, ⟨#[]⟩, 2⟩ [k0, k1]) = (if k0.k = 4 then btl k0.t else atm k0.k (btl k0.t)) ++ opc 4 :: atm k1.k (btl k1.t) := by
     have e3 : txtN ⟨4, ⟨#[]⟩, 2⟩ [k0, k1] = brT (brk 4 true k0) k0.t ++ ⟨#[124]⟩ ++ brT (brk 4 false k1) k1.t := rfl
     rw [e3, btl_app, btl_app, btl_brT, btl_brT]
     unfold atm opc brk
     by_cases h4 : k0.k = 4
     ·simp [h4, btl]
     ·simp [h4, btl]
    rw [e2]
    simpa using this
   | [], hkl, _ => simp at hkl; omega
   | [_], hkl, _ => simp at hkl; omega
   | _ :: _ :: _ :: _, hkl, _ => simp at hkl; omega
  ·simp at h1 hpe
   obtain ⟨rfl, rfl⟩ := h1
   match ks, hkl, hks with
   | [k0, k1], _, hks =>
    have := Ex.two 5 (spanN e k0) (btl k0.t) k0.k (spanN e k1) (btl k1.t) k1.k (.inr rfl) (hks k0 (by simp)) (hks k1 (by simp))
    have e2 : btl (txtN ⟨5, ⟨#[]⟩, 2⟩ [k0, k1]) = (if k0.k = 5 then btl k0.t else atm k0.k (btl k0.t)) ++ opc 5 :: atm k1.k (btl k1.t) := by
     have e3 : txtN ⟨5, ⟨#[]⟩, 2⟩ [k0, k1] = brT (brk 5 true k0) k0.t ++ ⟨#[38]⟩ ++ brT (brk 5 false k1) k1.t := rfl
     rw [e3, btl_app, btl_app, btl_brT, btl_brT]
     unfold atm opc brk
     by_cases h4 : k0.k = 5
     ·simp [h4, btl]
     ·simp [h4, btl]
    rw [e2]
    simpa using this
   | [], hkl, _ => simp at hkl; omega
   | [_], hkl, _ => simp at hkl; omega
   | _ :: _ :: _ :: _, hkl, _ => simp at hkl; omega
  ·simp at h1 hpe
   match ks, hkl, hks with
   | [k0], _, hks =>
    have := Ex.proj nm nn (spanN e k0) (btl k0.t) k0.k h1.1 h1.2.1 h1.2.2 (hks k0 (by simp))
    have e2 : btl (txtN ⟨6, nm, nn⟩ [k0]) = btl nm ++ 126 :: UInt8.ofNat (48 + nn.toNat) :: 40 :: (btl k0.t ++ [41]) := by
     have e3 : txtN ⟨6, nm, nn⟩ [k0] = nm ++ ⟨#[126]⟩ ++ ⟨#[UInt8.ofNat (48 + nn.toNat)]⟩ ++ brT true k0.t := rfl
     rw [e3, btl_app, btl_app, btl_app, btl_brT]
     simp [btl]
    rw [e2]
    simpa using this
   | [], hkl, _ => simp at hkl; omega
   | _ :: _ :: _, hkl, _ => simp at hkl; omega
end Go.AM

namespace Go.AM
open Go.Proofs
set_option maxRecDepth 100000
set_option linter.unusedVariables false
set_option linter.unusedSimpArgs false
attribute [local go_sem] Function.comp_def argsT Opd.ev Tm.get put ares mapMo ares1 snilP bldParts bslParts putAt AV.cells AV.one astore aload loadCs callArgs abin abinInt aapp elems appMore appNone preLen aFa aFld apart aExt aPick aNot aLens aEqa cellsK fitsA LK.fitsA leavesA leafA nilD aNilc aCint aCid alive alen alenOk Rle lePs len_flat
/-! ### LoadTexts -/
theorem span_all {e : List Nd} (hR : rightN e = true) : spanN e (enN e (e.length - 1)) = e := by
 obtain ⟨k1, k2, k3, k4⟩ := rightN_spec hR
 have hch := stk_chain e e.length (right_good k1)
 obtain ⟨n, hn⟩ : ∃ n, e.length = n + 1 := ⟨e.length - 1, by omega⟩
 have hs : stk e e.length = enN e n :: (stk e n).drop (pN (gi e n)) := by rw [hn]; rfl
 rw [hs] at hch k2
 have hnil : (stk e n).drop (pN (gi e n)) = [] := List.length_eq_zero_iff.1 (by simpa using k2)
 rw [hnil] at hch
 obtain ⟨c1, _, c3⟩ := hch
 have c3 : (enN e n).s = 0 := c3
 rw [hn, Nat.add_sub_cancel]
 unfold spanN
 rw [c3, c1, List.take_length, List.drop_zero]
theorem Ex.ne {l : List Nd} {t : List UInt8} {k : Int} (h : Ex l t k) : t ≠ [] := by
 cases h with
 | var s hs => obtain ⟨_, c, r, h1, _⟩ := var_head hs; rw [h1]; simp
 | con0 s hs => obtain ⟨_, c, r, h1, _⟩ := con_head hs; rw [h1]; simp
 | _ => simp
theorem text_ne {e : List Nd} (hR : rightN e = true) : (enN e (e.length - 1)).t ≠ ⟨#[]⟩ := fun h => by
 obtain ⟨k1, k2, k3, k4⟩ := rightN_spec hR
 have := (ex_of k1 (e.length - 1) (by omega)).ne
 rw [h] at this
 exact this rfl
theorem text_one {p q : List Nd} (hp : rightN p = true) (hq : rightN q = true) (h : (enN p (p.length - 1)).t = (enN q (q.length - 1)).t) : p = q := by
 obtain ⟨k1, k2, k3, k4⟩ := rightN_spec hp
 obtain ⟨m1, m2, m3, m4⟩ := rightN_spec hq
 have h1 := ex_of k1 (p.length - 1) (by omega)
 have h2 := ex_of m1 (q.length - 1) (by omega)
 rw [span_all hp] at h1
 rw [span_all hq] at h2
 have := ex_one (x := (_, _, _)) (y := (_, _, _)) h1 h2 (by simp only; rw [h])
 simp only [Prod.mk.injEq] at this
 exact this.1
theorem text_nil {l : List Sg} {a : Kd} {names : List ByteArray} {x : Int} : textP l a names x = ⟨#[]⟩ ↔ (nodesP l a names x).2 ≠ 0 := by
 unfold textP
 by_cases h : (nodesP l a names x).2 = 0
 ·rw [if_pos h]
  exact ⟨fun e => absurd e (text_ne (nodesP_ok h).2.1), fun e => absurd h e⟩
 ·rw [if_neg h]
  exact ⟨fun _ => h, fun _ => rfl⟩
theorem nodes_nmd {l : List Sg} {a : Kd} {names : List ByteArray} {n : Nat} (hsf : SF l a) (h : (nodesP l a names n).2 = 0) : n < a.keys.length ∧ Nmd l a names n := by
 obtain ⟨_, _, h3, _, h5⟩ := nodesP_ok h
 have hn : n < a.keys.length := by omega
 refine ⟨hn, fun x hx => h5 x ?_⟩
 have := rch_le hsf.ain hn hx
 rw [belowP_up hsf.ain hn, mem_upTo]
 exact ⟨by omega, hx⟩
theorem two_texts {l : List Sg} {a : Kd} {names : List ByteArray} (hr : sigRight l = true) (hn : namesOk names = true) (hs : storeRight l a = true) (hk : a.keys.length ≤ 1048576) {x y : Int} (hx : (nodesP l a names x).2 = 0) (hy : (nodesP l a names y).2 = 0) :
  (textP l a names x = textP l a names y ↔ x = y) ∧ ((nodesP l a names x).1 = (nodesP l a names y).1 ↔ x = y) := by
 have hsf := sf_of hr hs hk
 obtain ⟨a1, a2, a3, a4, _⟩ := nodesP_ok hx
 obtain ⟨b1, b2, b3, b4, _⟩ := nodesP_ok hy
 have key : (nodesP l a names x).1 = (nodesP l a names y).1 → x = y := fun h => by
  obtain ⟨n, rfl⟩ : ∃ n : Nat, x = n := ⟨x.toNat, by omega⟩
  obtain ⟨m, rfl⟩ : ∃ m : Nat, y = m := ⟨y.toNat, by omega⟩
  obtain ⟨n1, n2⟩ := nodes_nmd hsf hx
  obtain ⟨m1, m2⟩ := nodes_nmd hsf hy
  rw [a4, b4] at h
  have := (tree_inj hr hn hs hk n n1 n2 m m1 m2 [] [] (by unfold rt; rw [h])).1
  omega
 refine ⟨⟨fun h => key ?_, fun h => by rw [h]⟩, ⟨key, fun h => by rw [h]⟩⟩
 unfold textP at h
 rw [if_pos hx, if_pos hy] at h
 exact text_one a2 b2 h
theorem c8_ok : cFn Tryz.prog an0 Tryz.f8 = some c8b := by kernel_rfl
theorem law8_PF (l : List Sg) (a : Kd) (names : List ByteArray) (x y : Int) (hs : ∀ i : Nat, i < l.length → (gi l i).args.size ≤ maxA) (hk : a.keys.length ≤ 1048576) (hks : ∀ i : Nat, i < a.keys.length → (gi a.keys i).length ≤ maxA) : PF Tryz.prog 8 [.agg [sigs l, intss a.keys, ints a.slots, strs names, i64 x, i64 y]] (.bool true) := by
 refine PFk 9 hm Tryz.func8 c8_ok (Nat.le_of_ble_eq_true rfl) (by simp) (by simp) ?_
 simp (maxSteps := 3000000) [go_sem,-List.length_flatten,-List.map_drop,-List.map_take, c8b]
 refine PF.call shown_PF 9 (by simp [lePs]) ?_
 simp (maxSteps := 3000000) [go_sem,-List.length_flatten,-List.map_drop,-List.map_take, Kc]
 refine PF.call (of12_PF l a names hs hk hks) 9 (by simp [lePs]) ?_
 cases ho : ofN l a names with
 | false => simp (maxSteps := 3000000) [go_sem,-List.length_flatten,-List.map_drop,-List.map_take, Kc]
 | true =>
 obtain ⟨_, o0, o1, o2, o3, o4⟩ := of_parts ho
 have hsf := sf_of o1 o3 (by have := few_keys o2; omega)
 have e1 := nodes_PF hsf names x
 have e2 := nodes_PF hsf names y
 have e3 := text16_PF hsf names x
 have e4 := text16_PF hsf names y
 have h1 := text_nil (l := l) (a := a) (names := names) (x := x)
 have h2 := text_nil (l := l) (a := a) (names := names) (x := y)
 have h3 := fun p q => two_texts o1 o4 o3 hk (x := x) (y := y) p q
 generalize textP l a names x = s at *
 generalize textP l a names y = t at *
 generalize nodesP l a names x = p at *
 generalize nodesP l a names y = q at *
 obtain ⟨p, e⟩ := p
 obtain ⟨q, f⟩ := q
 simp only at h1 h2 h3 e1 e2
 simp (maxSteps := 3000000) [go_sem,-List.length_flatten,-List.map_drop,-List.map_take, Kc]
 refine PF.call e1 9 (by simp [lePs]) ?_
 simp (maxSteps := 3000000) [go_sem,-List.length_flatten,-List.map_drop,-List.map_take, Kc]
 refine PF.call e2 9 (by simp [lePs]) ?_
 simp (maxSteps := 3000000) [go_sem,-List.length_flatten,-List.map_drop,-List.map_take, Kc]
 refine PF.call e3 9 (by simp [lePs]) ?_
 simp (maxSteps := 3000000) [go_sem,-List.length_flatten,-List.map_drop,-List.map_take, Kc]
 refine PF.call e4 9 (by simp [lePs]) ?_
 by_cases z1 : e = 0
 ·have hs0 : ¬ s = ⟨#[]⟩ := fun h => h1.1 h z1
  by_cases z2 : f = 0
  ·have ht0 : ¬ t = ⟨#[]⟩ := fun h => h2.1 h z2
   obtain ⟨k1, k2⟩ := h3 z1 z2
   simp (maxSteps := 3000000) [go_sem,-List.length_flatten,-List.map_drop,-List.map_take, Kc, z1, z2, hs0, ht0]
   refine ⟨fun _ => ?_, k1⟩
   refine PF.call (ndSame_PF p q) 9 (by simp [lePs]) ?_
   simp (maxSteps := 3000000) [go_sem,-List.length_flatten,-List.map_drop,-List.map_take, Kc, k1, k2]
  ·have ht0 : t = ⟨#[]⟩ := h2.2 z2
   simp (maxSteps := 3000000) [go_sem,-List.length_flatten,-List.map_drop,-List.map_take, Kc, z1, z2, hs0, ht0]
 ·have hs0 : s = ⟨#[]⟩ := h1.2 z1
  by_cases z2 : f = 0
  ·have ht0 : ¬ t = ⟨#[]⟩ := fun h => h2.1 h z2
   simp (maxSteps := 3000000) [go_sem,-List.length_flatten,-List.map_drop,-List.map_take, Kc, z1, z2, hs0, ht0]
  ·have ht0 : t = ⟨#[]⟩ := h2.2 z2
   simp (maxSteps := 3000000) [go_sem,-List.length_flatten,-List.map_drop,-List.map_take, Kc, z1, z2, hs0, ht0]
end Go.AM
