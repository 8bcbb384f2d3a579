/- Contracts of the program's functions. -/
import Derived.Test.YteobadljolkdcaaGreatDoorG3
import Derived.KernelRfl
namespace Go.AM
open Go.Proofs
set_option maxRecDepth 100000
set_option linter.unusedVariables false
set_option linter.unusedSimpArgs false
attribute [local go_sem] Function.comp_def argsT Opd.ev Tm.get put ares mapMo ares1 snilP bldParts bslParts putAt AV.cells AV.one astore aload loadCs callArgs abin abinInt aapp elems appMore appNone preLen aFa aFld apart aExt aPick aNot aLens aEqa cellsK fitsA LK.fitsA leavesA leafA nilD aNilc aCint aCid alive alen alenOk Rle lePs len_flat
noncomputable def textP (l : List Sg) (a : Kd) (names : List ByteArray) (id : Int) : ByteArray :=
 if (nodesP l a names id).2 = 0 then (enN (nodesP l a names id).1 ((nodesP l a names id).1.length - 1)).t else ⟨#[]⟩
theorem nodesP_ok {l : List Sg} {a : Kd} {names : List ByteArray} {id : Int} (h : (nodesP l a names id).2 = 0) : (nodesP l a names id).1.length ≤ 300 ∧ rightN (nodesP l a names id).1 = true ∧ (0 ≤ id ∧ id < a.keys.length) ∧ (nodesP l a names id).1 = treeN l a names id ∧ ∀ k ∈ belowP a id, unnamed l a names k = false := by
 unfold nodesP at h ⊢
 by_cases h1 : id < 0 ∨ a.keys.length ≤ id
 ·rw [if_pos h1] at h; simp at h
 rw [if_neg h1] at h ⊢
 by_cases h2 : ∃ k ∈ belowP a id, unnamed l a names k = true
 ·rw [if_pos h2] at h; simp at h
 rw [if_neg h2] at h ⊢
 by_cases h3 : 300 < (treeN l a names id).length
 ·rw [if_pos h3] at h; simp at h
 rw [if_neg h3] at h ⊢
 by_cases h4 : rightN (treeN l a names id) = false
 ·rw [if_pos h4] at h; simp at h
 rw [if_neg h4]
 refine ⟨by simp only; omega, by simpa using h4, by omega, rfl, fun k hk => ?_⟩
 cases hu : unnamed l a names k with
 | false => rfl
 | true => exact absurd ⟨k, hk, hu⟩ h2
theorem rightN_spec {l : List Nd} (h : rightN l = true) : ndsMay l ∧ (stk l l.length).length = 1 ∧ (enN l (l.length - 1)).d ≤ 40 ∧ 0 < l.length := by
 simp only [rightN, Bool.and_eq_true, decide_eq_true_eq] at h
 refine ⟨h.1, h.2.1, h.2.2, ?_⟩
 have := stk_le l l.length
 have := h.2.1
 omega
theorem c16_ok : cFn Tryz.prog an0 Tryz.f16 = some c16 := by kernel_rfl
theorem text16_PF {l : List Sg} {a : Kd} (hsf : SF l a) (names : List ByteArray) (id : Int) : PF Tryz.prog 16 [sigs l, .agg a.cs, strs names, i64 id] (.str (textP l a names id)) := by
 refine PFk 9 hm Tryz.func16 c16_ok (Nat.le_of_ble_eq_true rfl) (by simp) (by simp) ?_
 generalize hQ : Rle 9 (.str (textP l a names id)) = Q
 simp (maxSteps := 3000000) [go_sem,-List.length_flatten,-List.map_drop,-List.map_take, c16]
 refine PF.call (nodes_PF hsf names id) 9 (by simp [lePs]) ?_
 by_cases h : (nodesP l a names id).2 = 0
 ·obtain ⟨h1, h2, _⟩ := nodesP_ok h
  obtain ⟨k1, k2, k3, k4⟩ := rightN_spec h2
  have hr : textP l a names id = (enN (nodesP l a names id).1 ((nodesP l a names id).1.length - 1)).t := by unfold textP; rw [if_pos h]
  simp (maxSteps := 3000000) [go_sem,-List.length_flatten,-List.map_drop,-List.map_take, Kc, h]
  refine PF.call (text_PF (shp_of (by omega) k1) k4) 9 (by simp [lePs]) ?_
  simp (maxSteps := 3000000) [go_sem,-List.length_flatten,-List.map_drop,-List.map_take, Kc]
  rw [← hQ, hr]
  simp (maxSteps := 3000000) [go_sem,-List.length_flatten,-List.map_drop,-List.map_take]
 ·have hr : textP l a names id = ⟨#[]⟩ := by unfold textP; rw [if_neg h]
  simp (maxSteps := 3000000) [go_sem,-List.length_flatten,-List.map_drop,-List.map_take, Kc, h]
  rw [← hQ, hr]
  simp (maxSteps := 3000000) [go_sem,-List.length_flatten,-List.map_drop,-List.map_take]
/-! ### How many nodes: the document's answer -/
def capT (l : List Sg) (a : Kd) (names : List ByteArray) (x : Int) : Nat := min (treeN l a names x).length 1000
def capS (l : List Sg) (a : Kd) (names : List ByteArray) (xs : List Int) : Nat := (xs.map (capT l a names)).sum
theorem cap_sum {l : List Sg} {a : Kd} {names : List ByteArray} : ∀ (xs : List Int) (c : Nat), min (c + capS l a names xs) 1000 = min (c + (xs.flatMap (treeN l a names)).length) 1000
 | [], c => rfl
 | x :: xs, c => by
  have h1 := cap_sum (l := l) (a := a) (names := names) xs (c + capT l a names x)
  have h2 := cap_sum (l := l) (a := a) (names := names) xs (c + (treeN l a names x).length)
  have e1 : capS l a names (x :: xs) = capT l a names x + capS l a names xs := by simp [capS]
  rw [e1, List.flatMap_cons, List.length_append, ← Nat.add_assoc, ← Nat.add_assoc, h1]
  by_cases hc : (treeN l a names x).length ≤ 1000
  ·have : capT l a names x = (treeN l a names x).length := by unfold capT; omega
   rw [this]
  ·have : capT l a names x = 1000 := by unfold capT; omega
   rw [this]
   omega
theorem cap_node {l : List Sg} {a : Kd} {names : List ByteArray} (ha : argsIn a) {n : Nat} (hn : n < a.keys.length) : min (1 + capS l a names (termAt a n).1.args) 1000 = capT l a names n := by
 rw [cap_sum]
 unfold capT
 rw [treeN_eq ha hn, List.length_append]
 simp only [List.length_cons, List.length_nil]
 omega
theorem capS_take {l : List Sg} {a : Kd} {names : List ByteArray} {xs : List Int} {q : Nat} (h : q < xs.length) : capS l a names (xs.take (q + 1)) = capS l a names (xs.take q) + capT l a names (gi xs q) := by
 unfold capS
 rw [List.take_succ_eq_append_getElem h, List.map_append, List.sum_append]
 simp [gi, List.getD, h]
theorem capS_le {l : List Sg} {a : Kd} {names : List ByteArray} : ∀ xs : List Int, capS l a names xs ≤ 1000 * xs.length
 | [] => by simp [capS]
 | x :: xs => by
  have := capS_le (l := l) (a := a) (names := names) xs
  have e1 : capS l a names (x :: xs) = capT l a names x + capS l a names xs := by simp [capS]
  have : capT l a names x ≤ 1000 := by unfold capT; omega
  rw [e1, List.length_cons]
  omega
def sizesP (l : List Sg) (a : Kd) (names : List ByteArray) (k : Nat) : List Int := (List.range k).map fun (j : Nat) => (capT l a names j : Int)
theorem c42_ok : cFn Tryz.prog an0 Tryz.f42 = some c42 := by kernel_rfl
theorem sizes_PF {l : List Sg} {a : Kd} (hsf : SF l a) (names : List ByteArray) (n : Nat) (hn : n < a.keys.length) : PF Tryz.prog 42 [.agg a.cs, i64 n] (ints (sizesP l a names (n + 1))) := by
 refine PFk 9 hm Tryz.func42 c42_ok (Nat.le_of_ble_eq_true rfl) (by simp) (by simp) ?_
 generalize hQ : Rle 9 (ints (sizesP l a names (n + 1))) = Q
 have hln := hsf.len
 simp (maxSteps := 3000000) [go_sem,-List.length_flatten,-List.map_drop,-List.map_take, c42]
 refine run_loopK (fun m T H => ∃ (k g : Nat), m = n + 1 - k ∧ k ≤ n + 1 ∧ T = [(6, i64 k), (5, .loc 1 g 0 k 1 false), (2, .ptr 0 0 0), (1, i64 n)] ∧ H = [.cells 0 a.cs, .cells g (i64s (sizesP l a names k))]) (n + 1)
  [(6, i64 (0 : Nat)), (5, .loc 1 0 0 0 1 false), (2, .ptr 0 0 0), (1, i64 n)] [.cells 0 a.cs, .cells 0 []]
  ((Wk.nil 5 1 (by simp [Tm.get])).trans (Wk.tell 2 (by omega) (by simp [Tm.get]) (by simp) (by simp) ⟨rlb_kd, by simp [RLB], trivial⟩)) ⟨0, 0, rfl, by omega, rfl, rfl⟩ ?_
 rintro m T H ⟨k, g, rfl, hk, rfl, rfl⟩ KK kx kr kn
 have hsl : (sizesP l a names k).length = k := by simp [sizesP]
 have hsu : sizesP l a names (k + 1) = sizesP l a names k ++ [(capT l a names k : Int)] := by simp [sizesP, List.range_succ]
 by_cases h : k < n + 1
 ·have h' : (k : Int) ≤ n := by omega
  obtain ⟨f1, f2, f3⟩ := hsf.fit k (by omega)
  have hargs := hsf.ain k (by omega)
  have hcap := cap_node (l := l) (names := names) hsf.ain (n := k) (by omega)
  have hct := fun q hq => capS_take (l := l) (a := a) (names := names) (xs := (termAt a k).1.args) (q := q) hq
  have hcl := fun xs : List Int => capS_le (l := l) (a := a) (names := names) xs
  have hap := i64s_app (sizesP l a names k) (capT l a names k : Int)
  rw [hsl, ← hsu] at hap
  have hwk : IntKind.i64.wrap ((k : Int) + 1) = ((k + 1 : Nat) : Int) := nxt (n := n + 1) h (by unfold maxA; omega)
  have hkA : k + 1 ≤ maxA := by unfold maxA; omega
  simp (maxSteps := 3000000) [go_sem,-List.length_flatten,-List.map_drop,-List.map_take, h']
  refine PF.call (rof_PF a k) 9 (by simp [lePs]) ?_
  generalize (termAt a (k : Int)).1 = t at *
  simp (maxSteps := 3000000) [go_sem,-List.length_flatten,-List.map_drop,-List.map_take, Kc]
  refine run_loopK (fun m T H => ∃ q : Nat, m = t.args.length - q ∧ q ≤ t.args.length ∧ T = [(10, i64 q), (9, i64 (1 + capS l a names (t.args.take q) : Nat)), (7, .ptr 2 0 0), (6, i64 k), (5, .loc 1 g 0 k 1 false), (2, .ptr 0 0 0), (1, i64 n)] ∧ H = [.cells 0 a.cs, .cells g (i64s (sizesP l a names k)), .cells 0 t.cs]) t.args.length
   [(10, i64 (0 : Nat)), (9, i64 (1 : Nat)), (7, .ptr 2 0 0), (6, i64 k), (5, .loc 1 g 0 k 1 false), (2, .ptr 0 0 0), (1, i64 n)] [.cells 0 a.cs, .cells g (i64s (sizesP l a names k)), .cells 0 t.cs]
   (Wk.tell 3 (by omega) (by simp [Tm.get]) (by simp) (by simp) ⟨rlb_kd, rlb_i64s, by simp [RLB], trivial⟩) ⟨0, rfl, by omega, by simp [capS], rfl⟩ ?_
  rintro m T H ⟨q, rfl, hq, rfl, rfl⟩ KK2 kx2 kr2 kn2
  by_cases h2 : q < t.args.length
  ·have hx := hargs (gi t.args q) (by simp [gi, List.getD, h2])
   obtain ⟨z, hz⟩ : ∃ z : Nat, gi t.args q = z := ⟨(gi t.args q).toNat, by omega⟩
   have hzk : z < k := by omega
   have hld := loadCs_drop (f := fun n : Int => AV.int IntKind.i64 n) (l := sizesP l a names k) (k := z) (by omega)
   have hgz : gi (sizesP l a names k) (z : Int) = (capT l a names z : Int) := by simp [sizesP, gi, List.getD, hzk]
   rw [hgz] at hld
   have hc1 := hct q h2
   rw [hz] at hc1
   have hc2 := hcl (t.args.take (q + 1))
   rw [List.length_take] at hc2
   have hws : IntKind.i64.wrap (((1 + capS l a names (t.args.take q) : Nat) : Int) + (capT l a names z : Int)) = ((1 + capS l a names (t.args.take (q + 1)) : Nat) : Int) := by rw [w64 (by omega) (by omega)]; omega
   have hwq : IntKind.i64.wrap ((q : Int) + 1) = ((q + 1 : Nat) : Int) := nxt (n := t.args.length) h2 (by unfold maxA; omega)
   generalize hs1 : 1 + capS l a names (t.args.take q) = s1 at *
   generalize hs2 : 1 + capS l a names (t.args.take (q + 1)) = s2 at *
   simp (maxSteps := 3000000) [go_sem,-List.length_flatten,-List.map_drop,-List.map_take, h2, hz, hzk, ↓hld, hws]
   intros
   refine kn2 _ _ (Kl_next (t.args.length - (q + 1)) 3 (by omega) ⟨q + 1, rfl, h2, by rw [hs2], rfl⟩ (by simp [Tm.get, hwq]) (by simp) (by simp) ⟨rlb_kd, rlb_i64s, by simp [RLB], trivial⟩ (by omega))
  ·have e : q = t.args.length := by omega
   subst e
   rw [List.take_of_length_le (Nat.le_refl _)]
   have hmn : (if (1000 : Int) < ((1 + capS l a names t.args : Nat) : Int) then (1000 : Int) else ((1 + capS l a names t.args : Nat) : Int)) = (capT l a names k : Int) := by
    rw [← hcap]
    split <;> omega
   generalize hs1 : 1 + capS l a names t.args = s1 at *
   simp (maxSteps := 3000000) [go_sem,-List.length_flatten,-List.map_drop,-List.map_take, kx2, aMn, hmn, hap, hsl, hkA]
   intros
   refine kn _ _ (Kl_next (n + 1 - (k + 1)) 2 (by omega) ⟨k + 1, g + 1, rfl, by omega, rfl, rfl⟩ (by simp [Tm.get, hwk]) (by simp) (by simp) ⟨rlb_kd, rlb_i64s, trivial⟩ (by omega))
 ·have e : k = n + 1 := by omega
  subst e
  have h' : ¬ (n : Int) + 1 ≤ n := by omega
  simp (maxSteps := 3000000) [go_sem,-List.length_flatten,-List.map_drop,-List.map_take, h', kx]
  rw [← hQ]
  generalize sizesP l a names (n + 1) = s at *
  rw [← hsl]
  simp (maxSteps := 3000000) [go_sem,-List.length_flatten,-List.map_drop,-List.map_take]
  rw [chunk_one]
  simp [Function.comp_def]
end Go.AM

namespace Go.AM
open Go.Proofs
set_option maxRecDepth 100000
set_option linter.unusedVariables false
set_option linter.unusedSimpArgs false
attribute [local go_sem] Function.comp_def argsT Opd.ev Tm.get put ares mapMo ares1 snilP bldParts bslParts putAt AV.cells AV.one astore aload loadCs callArgs abin abinInt aapp elems appMore appNone preLen aFa aFld apart aExt aPick aNot aLens aEqa cellsK fitsA LK.fitsA leavesA leafA nilD aNilc aCint aCid alive alen alenOk Rle lePs len_flat
theorem belowP_sorted {a : Kd} (ha : argsIn a) (id : Int) : (belowP a id).Pairwise (· < ·) := by
 classical
 by_cases h : id < 0 ∨ a.keys.length ≤ id
 ·simp [belowP, h]
 ·obtain ⟨n, rfl⟩ : ∃ n : Nat, id = n := ⟨id.toNat, by omega⟩
  rw [belowP_up ha (by omega)]
  unfold upTo
  refine List.Pairwise.filter _ ?_
  rw [List.pairwise_map]
  exact List.Pairwise.imp (fun h => by omega) List.pairwise_lt_range
theorem sorted_take {ks : List Int} (h : ks.Pairwise (· < ·)) {q : Nat} (hq : q < ks.length) {z : Int} (hz : z ∈ ks) (hlt : z < gi ks q) : z ∈ ks.take q := by
 obtain ⟨p, h1, h2⟩ := List.getElem_of_mem hz
 have hp : p < q := by
  apply Classical.byContradiction
  intro hn
  have e : gi ks (q : Int) = ks[q] := by simp [gi, List.getD, hq]
  rcases Nat.lt_or_ge q p with h3 | h3
  ·have := List.pairwise_iff_getElem.1 h q p hq h1 h3
   rw [h2, ← e] at this
   omega
  ·have : p = q := by omega
   subst this
   rw [e, h2] at hlt
   omega
 rw [List.mem_take_iff_getElem]
 exact ⟨p, by omega, h2⟩
/-- The rows behind so many terms. -/
def rcK (l : List Sg) (a : Kd) (names : List ByteArray) (n : Nat) (ks : List Int) (q : Nat) : List AV := (List.range (n + 1)).map fun (j : Nat) => if (j : Int) ∈ ks.take q then nds (treeN l a names j) else .nilS
theorem rcK_len {l : List Sg} {a : Kd} {names : List ByteArray} {n : Nat} {ks : List Int} {q : Nat} : (rcK l a names n ks q).length = n + 1 := by simp [rcK]
theorem rcK_load {l : List Sg} {a : Kd} {names : List ByteArray} {n : Nat} {ks : List Int} {q z : Nat} (hz : (z : Int) ∈ ks.take q) (hn : z ≤ n) : loadCs 1 false ((rcK l a names n ks q).drop z) = some (nds (treeN l a names z)) := by
 have h1 : z < (rcK l a names n ks q).length := by rw [rcK_len]; omega
 unfold loadCs
 rw [if_pos (by simp; omega)]
 simp only [Bool.false_eq_true, if_false, List.head?_drop]
 rw [List.getElem?_eq_getElem h1]
 simp [rcK, hz]
theorem rcK_set {l : List Sg} {a : Kd} {names : List ByteArray} {n : Nat} {ks : List Int} {q z : Nat} (hq : q < ks.length) (hz : gi ks q = (z : Int)) (hn : z ≤ n) : (rcK l a names n ks q).set z (nds (treeN l a names z)) = rcK l a names n ks (q + 1) := by
 apply List.ext_getElem
 ·simp [rcK]
 ·intro j h1 h2
  have ht : ks.take (q + 1) = ks.take q ++ [(z : Int)] := by
   rw [List.take_succ_eq_append_getElem hq]
   congr 2
   rw [← hz]
   simp [gi, List.getD, hq]
  simp only [rcK, List.getElem_set, List.getElem_map, List.getElem_range, ht, List.mem_append, List.mem_singleton]
  by_cases hj : z = j
  ·subst hj; simp
  ·rw [if_neg hj]
   have : ¬ (j : Int) = z := by omega
   simp [this]
theorem rcK_rl {l : List Sg} {a : Kd} {names : List ByteArray} {n : Nat} {ks : List Int} {q m g : Nat} : RLB m (.cells g (rcK l a names n ks q)) := by
 intro y hy
 obtain ⟨j, _, rfl⟩ := List.mem_map.1 hy
 split
 ·simp
 ·simp
theorem rcK_zero {l : List Sg} {a : Kd} {names : List ByteArray} {n : Nat} {ks : List Int} : rcK l a names n ks 0 = List.replicate (n + 1) .nilS := by
 simp [rcK, List.map_const']
theorem rcK_fz {l : List Sg} {a : Kd} {names : List ByteArray} {n : Nat} {ks : List Int} {q i g k : Nat} {cs : List AV} : (rcK l a names n ks q).map (fz i g cs k) = rcK l a names n ks q := by
 have : ∀ y ∈ rcK l a names n ks q, fz i g cs k y = y := fun y hy => fz_id (n := 0) (Nat.zero_le _) k (rcK_rl (g := 0) (m := 0) y hy)
 conv => rhs; rw [← List.map_id (rcK l a names n ks q)]
 exact List.map_congr_left this
theorem treeN_ne {l : List Sg} {a : Kd} {names : List ByteArray} {x : Int} : ¬ treeN l a names x = [] := by
 unfold treeN
 rw [treeF]
 simp
theorem unnamed_iff {l : List Sg} {a : Kd} {names : List ByteArray} {k : Int} : unnamed l a names k = true ↔ (termAt a k).1.kind = 2 ∧ (names.length : Int) ≤ (termAt a k).1.sym := by
 unfold unnamed ndT
 by_cases h2 : (termAt a k).1.kind = 2
 ·by_cases h3 : (names.length : Int) ≤ (termAt a k).1.sym
  ·simp [h2, h3]
  ·simp [h2, h3]
 ·simp only [if_neg h2]
  repeat' split
  all_goals simp [h2]
theorem tree_le {l : List Sg} {a : Kd} {names : List ByteArray} (ha : argsIn a) {n : Nat} (hn : n < a.keys.length) {x : Int} (h : Rch a n x) : (treeN l a names x).length ≤ (treeN l a names n).length := by
 induction h with
 | self => exact Nat.le_refl _
 | arg hp hx ih =>
  rename_i p x
  have hl := rch_le ha hn hp
  obtain ⟨m, rfl⟩ : ∃ m : Nat, p = m := ⟨p.toNat, by omega⟩
  rw [treeN_eq ha (by omega), List.length_append] at ih
  have : ∀ xs : List Int, x ∈ xs → (treeN l a names x).length ≤ (xs.flatMap (treeN l a names)).length := by
   intro xs
   induction xs with
   | nil => intro h; cases h
   | cons y ys ih2 =>
    intro h
    rw [List.flatMap_cons, List.length_append]
    rcases List.mem_cons.1 h with rfl | h
    ·omega
    ·have := ih2 h
     omega
  have := this _ hx
  omega
def rowK (l : List Sg) (a : Kd) (names : List ByteArray) (xs : List Int) (k : Nat) : List Nd := (xs.take k).flatMap (treeN l a names)
theorem rowK_succ {l : List Sg} {a : Kd} {names : List ByteArray} {xs : List Int} {k : Nat} (h : k < xs.length) : rowK l a names xs (k + 1) = rowK l a names xs k ++ treeN l a names (gi xs k) := by
 unfold rowK
 rw [List.take_succ_eq_append_getElem h, List.flatMap_append]
 simp [gi, List.getD, h]
theorem rowK_le {l : List Sg} {a : Kd} {names : List ByteArray} (xs : List Int) (k : Nat) : (rowK l a names xs k).length ≤ (xs.flatMap (treeN l a names)).length := by
 unfold rowK
 conv => rhs; rw [← List.take_append_drop k xs, List.flatMap_append, List.length_append]
 exact Nat.le_add_right _ _
theorem c14_ok : cFn Tryz.prog an0 Tryz.f14 = some c14 := by kernel_rfl
set_option maxHeartbeats 4000000 in
theorem rnodes_PF {l : List Sg} {a : Kd} (hsf : SF l a) (names : List ByteArray) (id : Int) : PF Tryz.prog 14 [sigs l, .agg a.cs, strs names, i64 id] (.tuple [nds (nodesP l a names id).1, i64 (nodesP l a names id).2]) := by
 refine PFk 9 hm Tryz.func14 c14_ok (Nat.le_of_ble_eq_true rfl) (by simp) (by simp) ?_
 generalize hQ : Rle 9 (.tuple [nds (nodesP l a names id).1, i64 (nodesP l a names id).2]) = Q
 have hbl := rbelow_PF a hsf.ain hsf.len id
 have hmem := fun k (hk : k ∈ belowP a id) => mem_belowP hsf.ain hk
 have hsrt := belowP_sorted hsf.ain id
 have hln := hsf.len
 by_cases hid : id < 0 ∨ a.keys.length ≤ id
 ·have hr : nodesP l a names id = ([], 1) := by unfold nodesP; rw [if_pos hid]
  have hks : belowP a id = [] := by unfold belowP; rw [if_pos hid]
  rw [hks] at hbl
  simp (maxSteps := 3000000) [go_sem,-List.length_flatten,-List.map_drop,-List.map_take, c14]
  refine PF.call hbl 9 (by simp [lePs]) ?_
  simp (maxSteps := 3000000) [go_sem,-List.length_flatten,-List.map_drop,-List.map_take, Kc]
  rw [← hQ, hr]
  simp (maxSteps := 3000000) [go_sem,-List.length_flatten,-List.map_drop,-List.map_take]
 obtain ⟨n, rfl⟩ : ∃ n : Nat, id = n := ⟨id.toNat, by omega⟩
 have hn : n < a.keys.length := by omega
 have hkl : (belowP a n).length ≤ n + 1 := by
  rw [belowP_up hsf.ain hn]
  classical
  unfold upTo
  refine Nat.le_trans (List.length_filter_le _ _) (by simp)
 have hmr : ∀ x, x ∈ belowP a n ↔ Rch a n x := fun x => by
  rw [belowP_up hsf.ain hn, mem_upTo]
  exact ⟨fun h => h.2, fun h => ⟨by have := rch_le hsf.ain hn h; omega, h⟩⟩
 have hin : (n : Int) ∈ belowP a n := (hmr n).2 .self
 generalize hks : belowP a n = ks at *
 have hne : ¬ ks = [] := fun e => by rw [e] at hin; cases hin
 simp (maxSteps := 3000000) [go_sem,-List.length_flatten,-List.map_drop,-List.map_take, c14]
 refine PF.call hbl 9 (by simp [lePs]) ?_
 simp (maxSteps := 3000000) [go_sem,-List.length_flatten,-List.map_drop,-List.map_take, Kc, hne]
 intro hA
 refine run_loopK (fun m T H => ∃ q : Nat, m = ks.length - q ∧ q ≤ ks.length ∧ (∀ j : Nat, j < q → unnamed l a names (gi ks j) = false) ∧ T = [(11, i64 q), (10, ints ks), (5, .ptr 0 0 0), (0, sigs l), (2, strs names), (3, i64 n)] ∧ H = [.cells 0 a.cs]) ks.length
  [(11, i64 (0 : Nat)), (10, ints ks), (5, .ptr 0 0 0), (0, sigs l), (2, strs names), (3, i64 n)] [.cells 0 a.cs]
  (Wk.tell 1 (by omega) (by simp [Tm.get]) (by simp) (by simp) ⟨rlb_kd, trivial⟩) ⟨0, rfl, by omega, fun j hj => by omega, rfl, rfl⟩ ?_
 rintro m T H ⟨q, rfl, hq, hjq, rfl, rfl⟩ KK kx kr kn
 by_cases h : q < ks.length
 ·have hkm : gi ks q ∈ ks := by simp [gi, List.getD, h]
  have hui := unnamed_iff (l := l) (a := a) (names := names) (k := gi ks q)
  simp (maxSteps := 3000000) [go_sem,-List.length_flatten,-List.map_drop,-List.map_take, h]
  intro _
  refine ⟨_, rof_PF a (gi ks q), ?_⟩
  have hbad : unnamed l a names (gi ks q) = true → nodesP l a names n = ([], 1) := fun hu => by
   unfold nodesP
   rw [if_neg hid, hks, if_pos ⟨gi ks q, hkm, hu⟩]
  generalize huu : unnamed l a names (gi ks q) = u at *
  generalize (termAt a (gi ks q)).1 = t at *
  by_cases k2 : t.kind = 2
  ·by_cases k3 : (names.length : Int) ≤ t.sym
   ·have hr := hbad (hui.2 ⟨k2, k3⟩)
    simp (maxSteps := 3000000) [go_sem,-List.length_flatten,-List.map_drop,-List.map_take, Kc, k2, k3, kr]
    intros
    rw [← hQ, hr]
    simp (maxSteps := 3000000) [go_sem,-List.length_flatten,-List.map_drop,-List.map_take]
   ·have hu : u = false := by
     cases u with
     | false => rfl
     | true => exact absurd (hui.1 rfl).2 k3
    have huf := huu.trans hu
    simp (maxSteps := 3000000) [go_sem,-List.length_flatten,-List.map_drop,-List.map_take, Kc, k2, k3]
    intros
    refine kn _ _ (Kl_next (ks.length - (q + 1)) 1 (by omega) ⟨q + 1, rfl, h, all_next hjq huf, rfl, rfl⟩ (by simp [Tm.get, nxt h hA]) (by simp) (by simp) ⟨rlb_kd, trivial⟩ (by omega))
  ·have hu : u = false := by
    cases u with
    | false => rfl
    | true => exact absurd (hui.1 rfl).1 k2
   have huf := huu.trans hu
   simp (maxSteps := 3000000) [go_sem,-List.length_flatten,-List.map_drop,-List.map_take, Kc, k2]
   intros
   refine kn _ _ (Kl_next (ks.length - (q + 1)) 1 (by omega) ⟨q + 1, rfl, h, all_next hjq huf, rfl, rfl⟩ (by simp [Tm.get, nxt h hA]) (by simp) (by simp) ⟨rlb_kd, trivial⟩ (by omega))
 ·have e : q = ks.length := by omega
  subst e
  have hun : ∀ k ∈ ks, unnamed l a names k = false := fun k hk => by
   obtain ⟨j, h1, h2⟩ := List.getElem_of_mem hk
   have := hjq j h1
   simpa [gi, List.getD, h1, h2] using this
  have hr0 : nodesP l a names n = if 300 < (treeN l a names n).length then ([], 7) else if rightN (treeN l a names n) = false then ([], 7) else (treeN l a names n, 0) := by
   unfold nodesP
   rw [if_neg hid, if_neg (fun ⟨k, h1, h2⟩ => by rw [hks] at h1; rw [hun k h1] at h2; cases h2)]
  have hsz := sizes_PF hsf names n hn
  have hsl : (sizesP l a names (n + 1)).length = n + 1 := by simp [sizesP]
  have hsg : gi (sizesP l a names (n + 1)) (n : Int) = (capT l a names n : Int) := by simp [sizesP, gi, List.getD]
  generalize sizesP l a names (n + 1) = sz at *
  have hcap : capT l a names n = min (treeN l a names n).length 1000 := rfl
  have hnI : (n : Int) < (n : Int) + 1 := by omega
  simp (maxSteps := 3000000) [go_sem,-List.length_flatten,-List.map_drop,-List.map_take, h, kx]
  intros
  clear hjq kn kx kr hq
  refine PF.call hsz 9 (by simp [lePs]) ?_
  by_cases h3 : 300 < (treeN l a names n).length
  ·rw [if_pos h3] at hr0
   have h3' : (300 : Int) < (capT l a names n : Int) := by rw [hcap]; omega
   simp (maxSteps := 3000000) [go_sem,-List.length_flatten,-List.map_drop,-List.map_take, Kc, hsl, hnI, hsg, h3']
   rw [← hQ, hr0]
   simp (maxSteps := 3000000) [go_sem,-List.length_flatten,-List.map_drop,-List.map_take]
  ·rw [if_neg h3] at hr0
   have h3' : ¬ (300 : Int) < (capT l a names n : Int) := by rw [hcap]; omega
   have hw : IntKind.i64.wrap ((n : Int) + 1) = ((n + 1 : Nat) : Int) := nxt (n := n + 1) (by omega) (by unfold maxA; omega)
   simp (maxSteps := 3000000) [go_sem,-List.length_flatten,-List.map_drop,-List.map_take, Kc, hsl, hnI, hsg, h3', hw, aMksl]
   refine ⟨by unfold limB maxA; omega, ?_⟩
   refine run_loopK (fun m T H => ∃ q : Nat, m = ks.length - q ∧ q ≤ ks.length ∧ T = [(16, i64 q), (15, .loc 1 0 0 (n + 1) 1 false), (10, ints ks), (5, .ptr 0 0 0), (0, sigs l), (2, strs names), (3, i64 n)] ∧ H = [.cells 0 a.cs, .cells 0 (rcK l a names n ks q)]) ks.length
    [(16, i64 (0 : Nat)), (15, .loc 1 0 0 (n + 1) 1 false), (10, ints ks), (5, .ptr 0 0 0), (0, sigs l), (2, strs names), (3, i64 n)] [.cells 0 a.cs, .cells 0 (rcK l a names n ks 0)]
    (Wk.tell 2 (by omega) (by simp [Tm.get]) (by simp) (by simp [rcK_zero]) ⟨rlb_kd, rcK_rl, trivial⟩) ⟨0, rfl, by omega, rfl, rfl⟩ ?_
   rintro m T H ⟨q, rfl, hq, rfl, rfl⟩ KK kx kr kn
   by_cases h : q < ks.length
   ·have hkm : gi ks q ∈ ks := by simp [gi, List.getD, h]
    have hrz := (hmr _).1 hkm
    have hzl := rch_le hsf.ain hn hrz
    obtain ⟨z, hz⟩ : ∃ z : Nat, gi ks q = z := ⟨(gi ks q).toNat, by omega⟩
    rw [hz] at hrz hzl hkm
    obtain ⟨f1, f2, f3⟩ := hsf.fit z (by omega)
    have hargs := hsf.ain z (by omega)
    have hun2 := hun _ hkm
    have hone := rone_PF l names (termAt a z).1 f2 (fun k2 => by
     have := (unnamed_iff (l := l) (a := a) (names := names) (k := (z : Int)))
     rw [hun2] at this
     apply Classical.byContradiction
     intro hh
     have := this.2 ⟨k2, by omega⟩
     cases this)
    have htz := treeN_eq (l := l) (names := names) hsf.ain (n := z) (by omega)
    have htl := tree_le (l := l) (names := names) hsf.ain hn hrz
    have hin2 : ∀ x ∈ (termAt a z).1.args, x ∈ ks.take q := fun x hx => sorted_take hsrt h ((hmr x).2 (.arg hrz hx)) (by rw [hz]; exact (hargs x hx).2)
    have hrle := fun k => rowK_le (l := l) (a := a) (names := names) (termAt a z).1.args k
    have hrs := fun k hk => rowK_succ (l := l) (a := a) (names := names) (xs := (termAt a z).1.args) (k := k) hk
    have hrc := rcK_set (l := l) (a := a) (names := names) (n := n) (ks := ks) h hz (by omega)
    have hrl := rcK_len (l := l) (a := a) (names := names) (n := n) (ks := ks) (q := q)
    have hfull : rowK l a names (termAt a z).1.args (termAt a z).1.args.length = (termAt a z).1.args.flatMap (treeN l a names) := by unfold rowK; rw [List.take_of_length_le (Nat.le_refl _)]
    rw [htz, List.length_append] at htl
    rw [← hfull] at htz hrle htl
    simp (maxSteps := 3000000) [go_sem,-List.length_flatten,-List.map_drop,-List.map_take, h]
    intro _
    refine ⟨_, rof_PF a (gi ks q), ?_⟩
    rw [hz]
    generalize (termAt a (z : Int)).1 = t at *
    simp (maxSteps := 3000000) [go_sem,-List.length_flatten,-List.map_drop,-List.map_take, Kc]
    refine run_loopK (fun m T H => ∃ (k g : Nat), m = t.args.length - k ∧ k ≤ t.args.length ∧ T = [(20, i64 k), (19, .loc 3 g 0 (rowK l a names t.args k).length 3 false), (17, .ptr 2 0 0), (16, i64 q), (15, .loc 1 0 0 (n + 1) 1 false), (10, ints ks), (5, .ptr 0 0 0), (0, sigs l), (2, strs names), (3, i64 n)] ∧ H = [.cells 0 a.cs, .cells 0 (rcK l a names n ks q), .cells 0 t.cs, .cells g (fl Nd.cs (rowK l a names t.args k))]) t.args.length
     [(20, i64 (0 : Nat)), (19, .loc 3 0 0 0 3 false), (17, .ptr 2 0 0), (16, i64 q), (15, .loc 1 0 0 (n + 1) 1 false), (10, ints ks), (5, .ptr 0 0 0), (0, sigs l), (2, strs names), (3, i64 n)] [.cells 0 a.cs, .cells 0 (rcK l a names n ks q), .cells 0 t.cs, .cells 0 []]
     ((Wk.nil 19 3 (by simp [Tm.get])).trans (Wk.tell 4 (by omega) (by simp [Tm.get]) (by simp) (by simp) ⟨rlb_kd, rcK_rl, by simp [RLB], by simp [RLB], trivial⟩)) ⟨0, 0, rfl, by omega, rfl, rfl⟩ ?_
    rintro m T H ⟨k, g, rfl, hk, rfl, rfl⟩ KK2 kx2 kr2 kn2
    have hrk := hrle k
    by_cases h2 : k < t.args.length
    ·have hx := hargs (gi t.args k) (by simp [gi, List.getD, h2])
     have hxt := hin2 (gi t.args k) (by simp [gi, List.getD, h2])
     obtain ⟨x, hx2⟩ : ∃ x : Nat, gi t.args k = x := ⟨(gi t.args k).toNat, by omega⟩
     have hrs2 := hrs k h2
     rw [hx2] at hx hxt hrs2
     have hld := rcK_load (l := l) (a := a) (names := names) (n := n) hxt (by omega)
     have hne2 := treeN_ne (l := l) (a := a) (names := names) (x := (x : Int))
     have hrk2 := hrle (k + 1)
     rw [hrs2, List.length_append] at hrk2
     have hap := app_fl nd3 (rowK l a names t.args k) (treeN l a names x)
     rw [← hrs2] at hap
     have hfl := fl_len nd3 (rowK l a names t.args k)
     have hrsl : (rowK l a names t.args (k + 1)).length = (rowK l a names t.args k).length + (treeN l a names x).length := by rw [hrs2]; simp
     have hwk : IntKind.i64.wrap ((k : Int) + 1) = ((k + 1 : Nat) : Int) := nxt (n := t.args.length) h2 (by unfold maxA; omega)
     have hxn : x < n + 1 := by omega
     have hlA : (rowK l a names t.args k).length + (treeN l a names x).length ≤ maxA := by unfold maxA; omega
     generalize rowK l a names t.args k = r0 at *
     generalize hr1 : rowK l a names t.args (k + 1) = r1 at *
     generalize treeN l a names x = tx at *
     simp (maxSteps := 3000000) [go_sem,-List.length_flatten,-List.map_drop,-List.map_take, h2, hx2, hxn, ↓hld, hrl, hne2, hfl, ↓hap, hlA, fl_def]
     intros
     refine ⟨by omega, fun _ _ => kn2 _ _ (Kl_next (t.args.length - (k + 1)) 4 (by omega) ⟨k + 1, g + 1, rfl, h2, rfl, rfl⟩ (by simp [Tm.get, hwk, hr1, hrsl]) (by simp) (by simp [hr1]) ⟨rlb_kd, rcK_rl, by simp [RLB], rlb_nds, trivial⟩ (by omega))⟩
    ·have e : k = t.args.length := by omega
     subst e
     have hfl := fl_len nd3 (rowK l a names t.args t.args.length)
     have hap := app_fl nd3 (rowK l a names t.args t.args.length) [(ndT l names t).1]
     rw [← htz, show fl Nd.cs [(ndT l names t).1] = [i64 (ndT l names t).1.kind, .str (ndT l names t).1.name, i64 (ndT l names t).1.n] by simp [fl]] at hap
     have htzl : (treeN l a names z).length = (rowK l a names t.args t.args.length).length + 1 := by rw [htz]; simp
     have hzn : z < n + 1 := by omega
     have hld2 := loadCs_drop (f := fun n : Int => AV.int IntKind.i64 n) h
     generalize rowK l a names t.args t.args.length = r0 at *
     generalize (ndT l names t).1 = x at *
     have hlA : r0.length + 1 ≤ maxA := by unfold maxA; omega
     have hz1 : (z : Int) < (n : Int) + 1 := by omega
     simp (maxSteps := 3000000) [go_sem,-List.length_flatten,-List.map_drop,-List.map_take, kx2, h, hz]
     intros
     refine ⟨_, hone, ?_⟩
     simp (maxSteps := 3000000) [go_sem,-List.length_flatten,-List.map_drop,-List.map_take, Kc, hfl, ↓hap, hlA, hz, hzn, hrl, hz1, indB, apartB, aliveRd]
     intros
     have hwq : IntKind.i64.wrap ((q : Int) + 1) = ((q + 1 : Nat) : Int) := nxt (n := ks.length) h hA
     have htl2 : r0.length + 1 = (treeN l a names z).length := htzl.symm
     rw [htl2]
     generalize treeN l a names z = tz at *
     have hch := chunk_nds (l := tz)
     have hflz : tz.length * 3 ≤ (fl Nd.cs tz).length := by rw [fl_len nd3]; exact Nat.le_refl _
     refine ⟨by omega, ⟨rfl, rfl⟩, kn _ _ ⟨ks.length - (q + 1), [(16, i64 ((q + 1 : Nat) : Int)), (15, .loc 1 0 0 (n + 1) 1 false), (10, ints ks), (5, .ptr 0 0 0), (0, sigs l), (2, strs names), (3, i64 n)], [.cells 0 a.cs, .cells 0 (rcK l a names n ks (q + 1))], by omega,
      (Wk.sub (T' := [(16, i64 ((q + 1 : Nat) : Int)), (15, .loc 1 0 0 (n + 1) 1 false), (10, ints ks), (5, .ptr 0 0 0), (0, sigs l), (2, strs names), (3, i64 n)]) (by simp [Tm.get, hwq])).trans ((Wk.fz 3 9 (g := g + 1) (cs := fl Nd.cs tz) rfl).trans (Wk.tell 2 (by omega) (by simp [Tm.get, fzT, fz]) (by simp) ?_ ⟨rlb_kd, rcK_rl, trivial⟩)), q + 1, rfl, h, rfl, rfl⟩⟩
     have e0 : fzB 3 (g + 1) (fl Nd.cs tz) 9 (.cells 0 a.cs) = .cells 0 a.cs := fzB_id (n := 0) (Nat.zero_le _) rlb_kd
     have e1 : fzB 3 (g + 1) (fl Nd.cs tz) 9 (.cells 0 ((rcK l a names n ks q).set z (.loc 3 (g + 1) 0 tz.length 3 false))) = .cells 0 (rcK l a names n ks (q + 1)) := by
      have ef : fz 3 (g + 1) (fl Nd.cs tz) 9 (.loc 3 (g + 1) 0 tz.length 3 false) = nds tz := by simp [fz, hflz, hch]
      show ABlk.cells 0 _ = _
      rw [List.map_set, rcK_fz, ef, hrc]
     simp only [List.map_cons, List.map_nil, e0, e1]
     rfl
   ·have e : q = ks.length := by omega
    subst e
    have hld := rcK_load (l := l) (a := a) (names := names) (n := n) (ks := ks) (q := ks.length) (z := n) (by rw [List.take_of_length_le (Nat.le_refl _)]; exact hin) (by omega)
    have hrl := rcK_len (l := l) (a := a) (names := names) (n := n) (ks := ks) (q := ks.length)
    generalize treeN l a names n = tr at *
    simp (maxSteps := 3000000) [go_sem,-List.length_flatten,-List.map_drop,-List.map_take, h, kx, hnI, ↓hld, hrl]
    intros
    refine PF.call (right19_PF tr (by omega)) 9 (by simp [lePs]) ?_
    cases hrt : rightN tr with
    | false =>
     rw [hrt] at hr0
     simp (maxSteps := 3000000) [go_sem,-List.length_flatten,-List.map_drop,-List.map_take, Kc]
     rw [← hQ, hr0]
     simp (maxSteps := 3000000) [go_sem,-List.length_flatten,-List.map_drop,-List.map_take]
    | true =>
     rw [hrt] at hr0
     simp (maxSteps := 3000000) [go_sem,-List.length_flatten,-List.map_drop,-List.map_take, Kc, hnI, ↓hld, hrl]
     rw [← hQ, hr0]
     simp (maxSteps := 3000000) [go_sem,-List.length_flatten,-List.map_drop,-List.map_take]
end Go.AM

namespace Go.AM
open Go.Proofs
set_option maxRecDepth 100000
set_option linter.unusedVariables false
set_option linter.unusedSimpArgs false
attribute [local go_sem] Function.comp_def argsT Opd.ev Tm.get put ares mapMo ares1 snilP bldParts bslParts putAt AV.cells AV.one astore aload loadCs callArgs abin abinInt aapp elems appMore appNone preLen aFa aFld apart aExt aPick aNot aLens aEqa cellsK fitsA LK.fitsA leavesA leafA nilD aNilc aCint aCid alive alen alenOk Rle lePs len_flat
/-! ### A right store fits; a term's text (the document's) -/
theorem mayBe_args {l : List Sg} {many : Int} {t : Tm0} (h : mayBe l many t = true) : ∀ x ∈ t.args, 0 ≤ x ∧ x < many := by
 intro x hx
 unfold mayBe at h
 rw [Bool.and_eq_true, decide_eq_true_eq] at h
 obtain ⟨i, hi, rfl⟩ := List.getElem_of_mem hx
 have := h.1 i hi
 simpa [gi, List.getD, hi] using this
theorem mayBe_kind {l : List Sg} {many : Int} {t : Tm0} (h : mayBe l many t = true) :
 (if t.kind = 0 ∨ t.kind = 1 then decide (t.sym = 0 ∧ t.part = 0 ∧ t.args.length = 0)
 else if t.kind = 2 then decide (0 ≤ t.sym ∧ t.part = 0 ∧ t.args.length = 0)
 else if t.kind = 3 then decide ((0 ≤ t.sym ∧ t.sym < l.length) ∧ t.part = 0 ∧ t.args.length = (gi l t.sym).args.size)
 else if t.kind = 4 ∨ t.kind = 5 then decide (t.sym = 0 ∧ t.part = 0 ∧ t.args.length = 2)
 else if t.kind = 6 then decide ((0 ≤ t.sym ∧ t.sym < l.length) ∧ 0 ≤ t.part ∧ t.part < (gi l t.sym).args.size ∧ t.args.length = 1)
 else false) = true := by
 unfold mayBe at h
 rw [Bool.and_eq_true] at h
 exact h.2
theorem args8 {l : List Sg} (hr : sigRight l = true) {i : Int} (h0 : 0 ≤ i) (h1 : i < l.length) : (gi l i).args.size ≤ 8 := by
 unfold sigRight at hr
 rw [Bool.and_eq_true, decide_eq_true_eq] at hr
 obtain ⟨n, rfl⟩ : ∃ n : Nat, i = n := ⟨i.toNat, by omega⟩
 have h := (hr.1 n (by omega)).2.1
 unfold argsOk at h
 rw [Bool.and_eq_true, decide_eq_true_eq, decide_eq_true_eq] at h
 exact h.2
theorem mayBe_fit {l : List Sg} (hr : sigRight l = true) {many : Int} {t : Tm0} (h : mayBe l many t = true) : tmFit l t ∧ t.args.length ≤ 8 := by
 have hk := mayBe_kind h
 have h8 := fun i h0 h1 => args8 hr (i := i) h0 h1
 unfold tmFit
 by_cases k0 : t.kind = 0 ∨ t.kind = 1
 ·rw [if_pos k0, decide_eq_true_eq] at hk
  omega
 rw [if_neg k0] at hk
 by_cases k2 : t.kind = 2
 ·rw [if_pos k2, decide_eq_true_eq] at hk
  omega
 rw [if_neg k2] at hk
 by_cases k3 : t.kind = 3
 ·rw [if_pos k3, decide_eq_true_eq] at hk
  have := h8 _ hk.1.1 hk.1.2
  omega
 rw [if_neg k3] at hk
 by_cases k4 : t.kind = 4 ∨ t.kind = 5
 ·rw [if_pos k4, decide_eq_true_eq] at hk
  omega
 rw [if_neg k4] at hk
 by_cases k6 : t.kind = 6
 ·rw [if_pos k6, decide_eq_true_eq] at hk
  have := h8 _ hk.1.1 hk.1.2
  omega
 rw [if_neg k6] at hk
 cases hk
theorem right_term {l : List Sg} {a : Kd} (h : storeRight l a = true) : hashRight a = true ∧ 2 ≤ a.keys.length ∧ ∀ i : Nat, i < a.keys.length → termOk l a i := by
 unfold storeRight at h
 rw [Bool.and_eq_true, Bool.and_eq_true, decide_eq_true_eq, decide_eq_true_eq] at h
 exact ⟨h.1.1, h.1.2, h.2⟩
theorem sf_of {l : List Sg} {a : Kd} (hr : sigRight l = true) (hs : storeRight l a = true) (hk : a.keys.length ≤ 1048576) : SF l a := by
 obtain ⟨_, _, ht⟩ := right_term hs
 refine ⟨fun i hi x hx => mayBe_args (ht i hi).2.1 x hx, hk, fun i hi => ⟨(ht i hi).1, mayBe_fit hr (ht i hi).2.1⟩⟩
theorem c17_ok : cFn Tryz.prog an0 Tryz.f17 = some c17 := by kernel_rfl
theorem text17_PF {l : List Sg} {a : Kd} (hsf : SF l a) (names : List ByteArray) (id : Int) : PF Tryz.prog 17 [sigs l, .agg a.cs, strs names, i64 id] (.str (textP l a names id)) := by
 refine PFk 9 hm Tryz.func17 c17_ok (Nat.le_of_ble_eq_true rfl) (by simp) (by simp) ?_
 generalize hQ : Rle 9 (.str (textP l a names id)) = Q
 simp (maxSteps := 3000000) [go_sem,-List.length_flatten,-List.map_drop,-List.map_take, c17]
 refine PF.call (rnodes_PF hsf names id) 9 (by simp [lePs]) ?_
 by_cases h : (nodesP l a names id).2 = 0
 ·obtain ⟨h1, h2, _⟩ := nodesP_ok h
  obtain ⟨k1, k2, k3, k4⟩ := rightN_spec h2
  have hr : textP l a names id = (enN (nodesP l a names id).1 ((nodesP l a names id).1.length - 1)).t := by unfold textP; rw [if_pos h]
  simp (maxSteps := 3000000) [go_sem,-List.length_flatten,-List.map_drop,-List.map_take, Kc, h]
  refine PF.call (rtext_PF (shp_of (by omega) k1) k4) 9 (by simp [lePs]) ?_
  simp (maxSteps := 3000000) [go_sem,-List.length_flatten,-List.map_drop,-List.map_take, Kc]
  rw [← hQ, hr]
  simp (maxSteps := 3000000) [go_sem,-List.length_flatten,-List.map_drop,-List.map_take]
 ·have hr : textP l a names id = ⟨#[]⟩ := by unfold textP; rw [if_neg h]
  simp (maxSteps := 3000000) [go_sem,-List.length_flatten,-List.map_drop,-List.map_take, Kc, h]
  rw [← hQ, hr]
  simp (maxSteps := 3000000) [go_sem,-List.length_flatten,-List.map_drop,-List.map_take]
end Go.AM

namespace Go.AM
open Go.Proofs
set_option maxRecDepth 100000
set_option linter.unusedVariables false
set_option linter.unusedSimpArgs false
attribute [local go_sem] Function.comp_def argsT Opd.ev Tm.get put ares mapMo ares1 snilP bldParts bslParts putAt AV.cells AV.one astore aload loadCs callArgs abin abinInt aapp elems appMore appNone preLen aFa aFld apart aExt aPick aNot aLens aEqa cellsK fitsA LK.fitsA leavesA leafA nilD aNilc aCint aCid alive alen alenOk Rle lePs len_flat
/-! ### load.Load -/
theorem chunk_pre : ∀ (xs : List Int) (r : List AV), chunk 1 (i64s xs ++ r) xs.length = xs.map fun n => [AV.int .i64 n]
 | [], r => rfl
 | x :: xs, r => by
  have := chunk_pre xs r
  simp only [List.map_cons, List.cons_append, List.length_cons]
  simpa [chunk] using this
theorem cloneAt {H : AHeap} {i g off : Nat} {c : Bool} {cs : List AV} {xs : List Int} (hi : H[i]? = some (.cells g cs)) (hol : off + xs.length ≤ cs.length) (hx : (cs.drop off).take xs.length = i64s xs) (hA : xs.length ≤ 100000000) (hR : ∀ b ∈ H, RLB H.length b) : FT Tryz.prog 48 [.loc i g off xs.length 1 c] H (fun rv H' => rv = ints xs ∧ H' = H) := by
 have hm1 : xs.length ≤ maxA := by unfold maxA; omega
 have hch : chunk 1 (List.drop off cs) xs.length = xs.map fun n => [AV.int .i64 n] := by
  have h2 : List.drop off cs = i64s xs ++ (List.drop off cs).drop xs.length := by
   conv => lhs; rw [← List.take_append_drop xs.length (List.drop off cs), hx]
  rw [h2, chunk_pre]
 have hfl : ∀ l : List Int, (List.map (fun n => [AV.int IntKind.i64 n]) l).flatten = i64s l := by
  intro l
  induction l with
  | nil => rfl
  | cons x l ih => simp [ih]
 refine FT.wk (R' := fun rv H' => (rv = .nilS ∧ xs = [] ∧ H' = H) ∨ (rv = .rows true 1 [] ∧ xs = [] ∧ H' = H) ∨ rv = .loc H.length 0 0 xs.length 1 false ∧ H' = H ++ [.cells 0 (i64s xs)]) (FTk hm Tryz.func48 c48_ok (Nat.le_of_ble_eq_true rfl) ?_) ?_
 ·generalize hQ : (fun (rv : AV) (H' : AHeap) => (rv = .nilS ∧ xs = [] ∧ H' = H) ∨ (rv = .rows true 1 [] ∧ xs = [] ∧ H' = H) ∨ rv = .loc H.length 0 0 xs.length 1 false ∧ H' = H ++ [.cells 0 (i64s xs)]) = Q
  simp (maxSteps := 3000000) [go_sem,-List.length_flatten,-List.map_drop,-List.map_take, c48, hi, hol, hch]
  by_cases h0 : xs = []
  ·simp (maxSteps := 3000000) [go_sem,-List.length_flatten,-List.map_drop,-List.map_take, h0]
   rw [← hQ]
   simp [h0]
  ·simp (maxSteps := 3000000) [go_sem,-List.length_flatten,-List.map_drop,-List.map_take, h0, hm1, hfl]
   rw [← hQ]
   simp
 ·rintro rv H' (⟨rfl, rfl, rfl⟩ | ⟨rfl, rfl, rfl⟩ | ⟨rfl, rfl⟩)
  ·exact ⟨_, _, Wk.leT (T' := [(0, ints [])]) 2 (by simp [Tm.get, leP]), rfl, rfl⟩
  ·exact ⟨_, _, Wk.leT (T' := [(0, ints [])]) 2 (by simp [Tm.get, leP]), rfl, rfl⟩
  ·refine ⟨_, _, (Wk.freeze 0 (i := H.length) (g := 0) (off := 0) (len := xs.length) (sz := 1) (c := false) (cs := i64s xs) (by simp [Tm.get]) (by simp) (by simp)).trans (Wk.to H.length (Nat.le_refl _) (T' := [(0, ints xs)]) (H' := H) ?_ (by simp) (by simp) hR), rfl, rfl⟩
   have := chunk_one (f := fun n : Int => AV.int IntKind.i64 n) (l := xs)
   simp [Tm.get, this]
theorem c49_ok : cFn Tryz.prog an0 Tryz.f49 = some c49 := by kernel_rfl
abbrev strsC (l : List ByteArray) : AV := .rows true 1 (l.map fun s => [.str s])
theorem clip49_PF (l : List ByteArray) : PF Tryz.prog 49 [strs l] (strsC l) := by
 refine PFk 9 hm Tryz.func49 c49_ok (Nat.le_of_ble_eq_true rfl) (by simp) (by simp) ?_
 simp (maxSteps := 3000000) [go_sem,-List.length_flatten,-List.map_drop,-List.map_take, c49, aSlc]
 intro _
 have h : (0 : Int) ≤ l.length ∧ (l.length : Int) ≤ l.length := by omega
 have e : List.take l.length (List.map (fun s => [AV.str s]) l) = List.map (fun s => [AV.str s]) l := List.take_of_length_le (by simp)
 simp (maxSteps := 3000000) [go_sem,-List.length_flatten,-List.map_drop,-List.map_take, aint, h, e]
end Go.AM

namespace Go.AM
open Go.Proofs
set_option maxRecDepth 100000
set_option linter.unusedVariables false
set_option linter.unusedSimpArgs false
attribute [local go_sem] Function.comp_def argsT Opd.ev Tm.get put ares mapMo ares1 snilP bldParts bslParts putAt AV.cells AV.one astore aload loadCs callArgs abin abinInt aapp elems appMore appNone preLen aFa aFld apart aExt aPick aNot aLens aEqa cellsK fitsA LK.fitsA leavesA leafA nilD aNilc aCint aCid alive alen alenOk Rle lePs len_flat
/-! ### What load.Load computes -/
structure Ls where
 b : Kd
 own : List ByteArray
 st : List Int
def ixN (own : List ByteArray) (s : ByteArray) : Int := fstAt (fun x => decide (x = s)) own
def termL (l : List Sg) (own : List ByteArray) (args : List Int) (n : Nd) : Tm0 :=
 ⟨n.kind, if n.kind = 2 then (if ixN own n.name < 0 then (own.length : Int) else ixN own n.name) else if n.kind = 6 ∨ n.kind = 3 then fstAt (fun s => decide (s.name = n.name)) l else 0, if n.kind = 6 then n.n - 1 else 0, args⟩
def ownL (own : List ByteArray) (n : Nd) : List ByteArray := if n.kind = 2 ∧ ixN own n.name < 0 then own ++ [n.name] else own
def argL (st : List Int) (n : Nd) : List Int := st.drop (st.length - pN n)
def putL (l : List Sg) (limit : Int) (s : Ls) (n : Nd) : Kd × Int × Int := putT l s.b (termL l s.own (argL s.st n) n) limit
def stepL (l : List Sg) (limit : Int) (s : Ls) (n : Nd) : Ls := ⟨(putL l limit s n).1, ownL s.own n, s.st.take (s.st.length - pN n) ++ [(putL l limit s n).2.1]⟩
def runL (l : List Sg) (limit : Int) : Ls → List Nd → Ls × Int
 | s, [] => (s, 0)
 | s, n :: e => if (putL l limit s n).2.2 = 0 then runL l limit (stepL l limit s n) e else (s, (putL l limit s n).2.2)
def loadP (l : List Sg) (a : Kd) (names : List ByteArray) (e : List Nd) (limit : Int) : Kd × List ByteArray × Int × Int :=
 if (runL l limit ⟨a, names, []⟩ e).2 = 0 then ((runL l limit ⟨a, names, []⟩ e).1.b, (runL l limit ⟨a, names, []⟩ e).1.own, gi (runL l limit ⟨a, names, []⟩ e).1.st 0, 0)
 else (a, names, 0, (runL l limit ⟨a, names, []⟩ e).2)
/-! a right table stays right -/
theorem fst_app {α : Type} [Inhabited α] {p : α → Bool} {l m : List α} (h : 0 ≤ fstAt p l) : fstAt p (l ++ m) = fstAt p l := by
 unfold fstAt at h ⊢
 rw [List.findIdx?_append]
 cases hf : l.findIdx? p with
 | none => rw [hf] at h; simp at h
 | some i => simp
theorem fst_end {α : Type} [Inhabited α] {p : α → Bool} {l : List α} {x : α} (h : fstAt p l < 0) (hx : p x = true) : fstAt p (l ++ [x]) = l.length := by
 unfold fstAt at h ⊢
 rw [List.findIdx?_append]
 cases hf : l.findIdx? p with
 | none => simp [hx, List.findIdx?_cons]
 | some i => rw [hf] at h; simp at h; omega
theorem fst_lt {α : Type} {p : α → Bool} {l : List α} : fstAt p l < l.length := by
 unfold fstAt
 cases hf : l.findIdx? p with
 | none => simp only; omega
 | some i =>
  have := (List.findIdx?_eq_some_iff_findIdx_eq.1 hf).1
  simp only
  omega
theorem fst_at {α : Type} [Inhabited α] {p : α → Bool} {l : List α} (h : 0 ≤ fstAt p l) : p (gi l (fstAt p l)) = true := by
 unfold fstAt at h ⊢
 cases hf : l.findIdx? p with
 | none => rw [hf] at h; simp at h
 | some i =>
  obtain ⟨h1, h2, _⟩ := List.findIdx?_eq_some_iff_getElem.1 hf
  simpa [gi, List.getD, h1] using h2
theorem right_put {a : Kd} (h : hashRight a = true) (key : List Int) : hashRight (putK a key).1 = true := by
 unfold putK
 by_cases hf : 0 ≤ fstAt (fun x => decide (x = key)) a.keys
 ·rw [if_pos hf]; exact h
 rw [if_neg hf]
 unfold hashRight at h ⊢
 rw [Bool.and_eq_true, decide_eq_true_eq] at h
 simp only [decide_true, Bool.and_true, decide_eq_true_eq]
 intro i hi
 rw [List.length_append, List.length_singleton] at hi
 by_cases hl : i < a.keys.length
 ·rw [giApp hl, fst_app (by rw [h.1 i hl]; omega), h.1 i hl]
 ·have e : i = a.keys.length := by omega
  subst e
  rw [giEnd, fst_end (by omega) (by simp)]
theorem putK_len (a : Kd) (key : List Int) : (putK a key).1.keys.length ≤ a.keys.length + 1 := by
 unfold putK
 split
 ·simp
 ·simp
theorem putT_hash {l : List Sg} {a : Kd} (h : hashRight a = true) (t : Tm0) (limit : Int) : hashRight (putT l a t limit).1 = true := by
 unfold putT
 split
 ·exact h
 split
 ·exact h
 ·exact right_put h _
theorem putT_len (l : List Sg) (a : Kd) (t : Tm0) (limit : Int) : (putT l a t limit).1.keys.length ≤ a.keys.length + 1 := by
 unfold putT
 split
 ·simp
 split
 ·simp
 ·exact putK_len a _
theorem ownL_len (own : List ByteArray) (n : Nd) : (ownL own n).length ≤ own.length + 1 := by
 unfold ownL
 split <;> simp
theorem runL_next {l : List Sg} {limit : Int} {s : Ls} {e : List Nd} {i : Nat} (hi : i < e.length) : runL l limit s (e.drop i) = if (putL l limit s (gi e i)).2.2 = 0 then runL l limit (stepL l limit s (gi e i)) (e.drop (i + 1)) else (s, (putL l limit s (gi e i)).2.2) := by
 have e1 : e.drop i = gi e i :: e.drop (i + 1) := by
  rw [List.drop_eq_getElem_cons hi]
  simp [gi, List.getD, hi]
 rw [e1, runL]
end Go.AM

namespace Go.AM
open Go.Proofs
set_option maxRecDepth 100000
set_option linter.unusedVariables false
set_option linter.unusedSimpArgs false
attribute [local go_sem] Function.comp_def argsT Opd.ev Tm.get put ares mapMo ares1 snilP bldParts bslParts putAt AV.cells AV.one astore aload loadCs callArgs abin abinInt aapp elems appMore appNone preLen aFa aFld apart aExt aPick aNot aLens aEqa cellsK fitsA LK.fitsA leavesA leafA nilD aNilc aCint aCid alive alen alenOk Rle lePs len_flat
def c20b : AFn := ⟨111, .seq (.reg false [⟨some 6, .box (.tmp 1), none⟩, ⟨some 10, .alloc [.nilS, .nilS], none⟩, ⟨some 11, .mov (.lit .nilS), none⟩, ⟨some 12, .mov (.lit (.int .i64 0)), none⟩, ⟨some 13, .mov (.lit (.int .i64 0)), none⟩]) (.seq (.reg false [⟨some 24, .load 2 true (.tmp 6), none⟩, ⟨some 25, .mov (.tmp 2), none⟩, ⟨some 14, .alloc [.nilS, .nilS], none⟩, ⟨none, .store 2 (.tmp 14) (.tmp 24), none⟩, ⟨some 15, .mov (.tmp 25), none⟩]) (.seq (.reg false [⟨some 16, .mov (.lit .nilS), none⟩]) (.seq (.seq (.reg false [⟨some 26, .mov (.tmp 3), none⟩, ⟨some 27, .len (.tmp 26), none⟩, ⟨some 28, .mov (.lit (.int .i64 0)), none⟩]) (.block 0 (.loop (.seq (.reg false [⟨some 29, .bin .lss (.tmp 28) (.tmp 27), none⟩]) (.seq (.cond (.tmp 29) .skip (.exit 0)) (.seq (.block 1 (.seq (.reg false [⟨some 30, .ia 3 (.tmp 26) (.tmp 28), none⟩, ⟨some 31, .load 3 true (.tmp 30), none⟩, ⟨some 18, .alloc [.int .i64 0, .str ⟨#[]⟩, .int .i64 0], none⟩, ⟨none, .store 3 (.tmp 18) (.tmp 31), none⟩]) (.seq (.reg false [⟨some 32, .mov (.tmp 16), none⟩, ⟨some 33, .len (.tmp 32), none⟩, ⟨some 34, .load 3 true (.tmp 18), none⟩, ⟨some 35, .call (.lit (.fn (.func 47) [] [])) [.tmp 34], none⟩, ⟨some 36, .bin .sub (.tmp 33) (.tmp 35), none⟩, ⟨some 19, .mov (.tmp 36), none⟩]) (.seq (.reg true [⟨some 37, .fa 0 (.tmp 18), none⟩, ⟨some 38, .load 1 false (.tmp 37), none⟩, ⟨some 39, .mov (.tmp 16), none⟩, ⟨some 40, .mov (.tmp 19), none⟩, ⟨some 41, .slc 1 (.tmp 39) (some (.tmp 40)) none none, none⟩, ⟨some 42, .callh (.lit (.fn (.func 48) [] [])) [.tmp 41], none⟩, ⟨some 43, .build [.int .i64 0, .int .i64 0, .int .i64 0, .nilS] [(0, 1, .tmp 38), (3, 1, .tmp 42)], none⟩, ⟨some 20, .alloc [.int .i64 0, .int .i64 0, .int .i64 0, .nilS], none⟩, ⟨none, .store 4 (.tmp 20) (.tmp 43), none⟩]) (.seq (.reg false [⟨some 44, .mov (.tmp 16), none⟩, ⟨some 45, .mov (.tmp 19), none⟩, ⟨some 46, .slc 1 (.tmp 44) none (some (.tmp 45)) none, none⟩, ⟨some 16, .mov (.tmp 46), none⟩]) (.seq (.seq (.reg false [⟨some 47, .fa 0 (.tmp 18), none⟩, ⟨some 48, .load 1 false (.tmp 47), none⟩]) (.block 2 (.seq (.reg false [⟨some 50, .bin .eql (.tmp 48) (.lit (.int .i64 2)), none⟩, ⟨some 49, .mov (.tmp 50), none⟩]) (.cond (.tmp 49) (.seq (.reg false [⟨some 51, .mov (.tmp 15), none⟩, ⟨some 52, .fa 1 (.tmp 18), none⟩, ⟨some 53, .load 1 false (.tmp 52), none⟩, ⟨some 54, .call (.lit (.fn (.func 31) [] [])) [.tmp 51, .tmp 53], none⟩, ⟨some 55, .fa 1 (.tmp 20), none⟩, ⟨none, .store 1 (.tmp 55) (.tmp 54), none⟩]) (.seq (.reg false [⟨some 56, .fa 1 (.tmp 20), none⟩, ⟨some 57, .load 1 false (.tmp 56), none⟩, ⟨some 58, .bin .lss (.tmp 57) (.lit (.int .i64 0)), none⟩]) (.cond (.tmp 58) (.seq (.reg false [⟨some 59, .mov (.tmp 15), none⟩, ⟨some 60, .len (.tmp 59), none⟩, ⟨some 61, .fa 1 (.tmp 20), none⟩, ⟨none, .store 1 (.tmp 61) (.tmp 60), none⟩]) (.reg true [⟨some 62, .mov (.tmp 15), none⟩, ⟨some 63, .call (.lit (.fn (.func 49) [] [])) [.tmp 62], none⟩, ⟨some 64, .fa 1 (.tmp 18), none⟩, ⟨some 65, .load 1 false (.tmp 64), none⟩, ⟨some 66, .bslice 1 1 [.str ⟨#[]⟩] [(0, .tmp 65)], none⟩, ⟨some 67, .appc 1 16 (.tmp 63) (.tmp 66), none⟩, ⟨some 15, .mov (.tmp 67), none⟩])) .skip))) (.seq (.reg false [⟨some 69, .bin .eql (.tmp 48) (.lit (.int .i64 6)), none⟩, ⟨some 68, .mov (.tmp 69), none⟩]) (.cond (.tmp 68) (.regD [⟨some 70, .mov (.tmp 0), none⟩, ⟨some 71, .fa 1 (.tmp 18), none⟩, ⟨some 72, .load 1 false (.tmp 71), none⟩, ⟨some 73, .call (.lit (.fn (.func 50) [] [])) [.tmp 70, .tmp 72], none⟩, ⟨some 74, .fa 2 (.tmp 18), none⟩, ⟨some 75, .load 1 false (.tmp 74), none⟩, ⟨some 76, .bin .sub (.tmp 75) (.lit (.int .i64 1)), none⟩, ⟨some 77, .fa 1 (.tmp 20), none⟩, ⟨none, .store 1 (.tmp 77) (.tmp 73), none⟩, ⟨some 78, .fa 2 (.tmp 20), none⟩, ⟨none, .store 1 (.tmp 78) (.tmp 76), none⟩] [(⟨some 74, .fa 2 (.tmp 18), none⟩, ⟨none, .store 1 (.tmp 77) (.tmp 73), none⟩), (⟨some 75, .load 1 false (.tmp 74), none⟩, ⟨none, .store 1 (.tmp 77) (.tmp 73), none⟩)]) (.seq (.reg false [⟨some 80, .bin .eql (.tmp 48) (.lit (.int .i64 3)), none⟩, ⟨some 79, .mov (.tmp 80), none⟩]) (.cond (.tmp 79) (.reg false [⟨some 81, .mov (.tmp 0), none⟩, ⟨some 82, .fa 1 (.tmp 18), none⟩, ⟨some 83, .load 1 false (.tmp 82), none⟩, ⟨some 84, .call (.lit (.fn (.func 50) [] [])) [.tmp 81, .tmp 83], none⟩, ⟨some 85, .fa 1 (.tmp 20), none⟩, ⟨none, .store 1 (.tmp 85) (.tmp 84), none⟩]) .skip)))))))) (.seq (.reg false [⟨some 87, .mov (.tmp 0), none⟩, ⟨some 88, .load 2 true (.tmp 14), none⟩, ⟨some 89, .load 4 true (.tmp 20), none⟩, ⟨some 90, .mov (.tmp 4), none⟩, ⟨some 91, .call (.lit (.fn (.func 51) [] [])) [.tmp 87, .tmp 88, .tmp 89, .tmp 90], none⟩, ⟨some 86, .mov (.tmp 91), none⟩, ⟨some 92, .ext (.tmp 86) 0, none⟩, ⟨some 93, .ext (.tmp 86) 1, none⟩, ⟨some 94, .ext (.tmp 86) 2, none⟩, ⟨some 21, .alloc [.nilS, .nilS], none⟩, ⟨none, .store 2 (.tmp 21) (.tmp 92), none⟩, ⟨some 22, .mov (.tmp 93), none⟩, ⟨some 23, .mov (.tmp 94), none⟩]) (.seq (.seq (.reg false [⟨some 95, .mov (.tmp 23), none⟩, ⟨some 96, .bin .neq (.tmp 95) (.lit (.int .i64 0)), none⟩]) (.cond (.tmp 96) (.seq (.reg false [⟨some 97, .load 2 true (.tmp 6), none⟩, ⟨some 98, .mov (.tmp 2), none⟩, ⟨some 99, .mov (.tmp 23), none⟩, ⟨none, .store 2 (.tmp 10) (.tmp 97), none⟩, ⟨some 11, .mov (.tmp 98), none⟩, ⟨some 12, .mov (.lit (.int .i64 0)), none⟩, ⟨some 13, .mov (.tmp 99), none⟩]) .ret) .skip)) (.seq (.reg false [⟨some 100, .load 2 true (.tmp 21), none⟩, ⟨none, .store 2 (.tmp 14) (.tmp 100), none⟩]) (.reg false [⟨some 101, .mov (.tmp 16), none⟩, ⟨some 102, .mov (.tmp 22), none⟩, ⟨some 103, .bslice 1 1 [.int .i64 0] [(0, .tmp 102)], none⟩, ⟨some 104, .app 1 8 (.tmp 101) (.tmp 103), none⟩, ⟨some 16, .mov (.tmp 104), none⟩])))))))))) (.reg false [⟨some 105, .bin .add (.tmp 28) (.lit (.int .i64 1)), none⟩, ⟨some 28, .mov (.tmp 105), none⟩]))))))) (.seq (.regD [⟨some 106, .load 2 true (.tmp 14), none⟩, ⟨some 107, .mov (.tmp 15), none⟩, ⟨some 108, .mov (.tmp 16), none⟩, ⟨some 109, .ia 1 (.tmp 108) (.lit (.int .i64 0)), none⟩, ⟨some 110, .load 1 false (.tmp 109), none⟩, ⟨none, .store 2 (.tmp 10) (.tmp 106), none⟩, ⟨some 11, .mov (.tmp 107), none⟩, ⟨some 12, .mov (.tmp 110), none⟩, ⟨some 13, .mov (.lit (.int .i64 0)), none⟩] [(⟨some 109, .ia 1 (.tmp 108) (.lit (.int .i64 0)), none⟩, ⟨none, .store 2 (.tmp 10) (.tmp 106), none⟩), (⟨some 110, .load 1 false (.tmp 109), none⟩, ⟨none, .store 2 (.tmp 10) (.tmp 106), none⟩)]) .ret)))), [.cell 10 2 true, .tmp 11, .tmp 12, .tmp 13]⟩

/-! ### load.Load, walked -/
def an20 : An := ⟨[2000042, 1000067], []⟩
theorem c20_ok : cFn Tryz.prog an20 Tryz.f20 = some c20b := by kernel_rfl
set_option maxHeartbeats 8000000 in
theorem load_PF {l : List Sg} {a : Kd} {e : List Nd} (hh : hashRight a = true) (hg : goodN e e.length) (hm8 : ∀ j : Nat, j < e.length → (gi e j).kind = 6 → 1 ≤ (gi e j).n ∧ (gi e j).n ≤ 8) (h1 : 0 < (stk e e.length).length) (hka : a.keys.length + e.length ≤ 1000000) (names : List ByteArray) (hna : names.length + e.length ≤ 1000000) (limit : Int) :
  PF Tryz.prog 20 [sigs l, .agg a.cs, strs names, nds e, i64 limit] (.tuple [.agg (loadP l a names e limit).1.cs, strs (loadP l a names e limit).2.1, i64 (loadP l a names e limit).2.2.1, i64 (loadP l a names e limit).2.2.2]) := by
 refine PFk 9 hm Tryz.func20 c20_ok (Nat.le_of_ble_eq_true rfl) (by simp) (by simp) ?_
 generalize hQ : Rle 9 (.tuple [.agg (loadP l a names e limit).1.cs, strs (loadP l a names e limit).2.1, i64 (loadP l a names e limit).2.2.1, i64 (loadP l a names e limit).2.2.2]) = Q
 simp (maxSteps := 3000000) [go_sem,-List.length_flatten,-List.map_drop,-List.map_take, c20b]
 intro hA
 refine run_loopK (fun m T H => ∃ (i : Nat) (s : Ls) (g : Nat), m = e.length - i ∧ i ≤ e.length ∧ hashRight s.b = true ∧ s.b.keys.length ≤ a.keys.length + i ∧ s.own.length ≤ names.length + i ∧ s.st.length = (stk e i).length ∧ runL l limit ⟨a, names, []⟩ e = runL l limit s (e.drop i) ∧ T = [(28, i64 i), (16, .loc 3 g 0 s.st.length 1 false), (15, strs s.own), (26, nds e), (27, i64 e.length), (0, sigs l), (2, strs names), (4, i64 limit), (6, .ptr 0 0 0), (10, .ptr 1 0 0), (14, .ptr 2 0 0)] ∧ H = [.cells 0 a.cs, .cells 0 [.nilS, .nilS], .cells 0 s.b.cs, .cells g (i64s s.st)]) e.length
  [(28, i64 (0 : Nat)), (16, .loc 3 0 0 0 1 false), (15, strs names), (26, nds e), (27, i64 e.length), (0, sigs l), (2, strs names), (4, i64 limit), (6, .ptr 0 0 0), (10, .ptr 1 0 0), (14, .ptr 2 0 0)] [.cells 0 a.cs, .cells 0 [.nilS, .nilS], .cells 0 a.cs, .cells 0 []]
  ((Wk.nil 16 1 (by simp [Tm.get])).trans (Wk.tell 4 (by omega) (by simp [Tm.get]) (by simp) (by simp) (by simp [RLB]))) ⟨0, ⟨a, names, []⟩, 0, rfl, by omega, hh, by simp, by simp, rfl, rfl, rfl, rfl⟩ ?_
 rintro m T H ⟨i, s, g, rfl, hi, hhs, hkb, how, hsl, hrun, rfl, rfl⟩ KK kx kr kn
 by_cases h : i < e.length
 ·have hgi := hg i h
  rw [← hsl] at hgi
  have hpe : partsN (gi e i) = (pN (gi e i) : Int) := by unfold pN; omega
  have hpx := many47_PF (gi e i)
  rw [hpe] at hpx
  have hnx := runL_next (l := l) (limit := limit) (s := s) h
  have h8 := hm8 i h
  have hsle := stk_le e i
  rw [← hsl] at hsle
  obtain ⟨k, hk⟩ : ∃ k : Nat, k = s.st.length - pN (gi e i) := ⟨_, rfl⟩
  have hw : IntKind.i64.wrap ((s.st.length : Int) - (pN (gi e i) : Int)) = (k : Int) := by rw [w64 (by omega) (by omega)]; omega
  simp (maxSteps := 3000000) [go_sem,-List.length_flatten,-List.map_drop,-List.map_take, h]
  intro hsA
  refine PF.call hpx 9 (by simp [lePs]) ?_
  simp (maxSteps := 3000000) [go_sem,-List.length_flatten,-List.map_drop,-List.map_take, Kc, hw]
  have hal : (argL s.st (gi e i)).length = s.st.length - k := by unfold argL; rw [← hk, List.length_drop]
  have hcl := FT.more (cloneAt (H := [.cells 0 a.cs, .cells 0 [.nilS, .nilS], .cells 0 s.b.cs, .cells g (i64s s.st), .cells 0 [i64 (gi e i).kind, .str (gi e i).name, i64 (gi e i).n]]) (i := 3) (g := g) (off := k) (c := false) (cs := i64s s.st) (xs := argL s.st (gi e i)) rfl (by rw [hal]; simp; omega) (by rw [hal]; unfold argL; rw [← hk, i64s, ← List.map_drop, List.take_of_length_le (by simp)]) (by omega) (by simp [RLB])) (by simp [RL]) (by simp [RLB])
  rw [hal] at hcl
  have hat : (argL s.st (gi e i)).length ≤ 1048576 := by omega
  have hpt := fun t : Tm0 => putT_PF l hhs (by omega) t (limit := limit)
  refine ⟨by omega, _, hcl, ?_⟩
  generalize hA2 : argL s.st (gi e i) = A at *
  have hkle : k ≤ s.st.length := by omega
  have hbad : (putL l limit s (gi e i)).2.2 ≠ 0 → loadP l a names e limit = (a, names, 0, (putL l limit s (gi e i)).2.2) := fun hb => by
   unfold loadP
   rw [hrun, hnx, if_neg hb]
   simp only [if_neg hb]
  have hgood : (putL l limit s (gi e i)).2.2 = 0 → runL l limit ⟨a, names, []⟩ e = runL l limit ⟨(putL l limit s (gi e i)).1, ownL s.own (gi e i), s.st.take k ++ [(putL l limit s (gi e i)).2.1]⟩ (e.drop (i + 1)) := fun hb => by
   rw [hrun, hnx, if_pos hb, hk]
   rfl
  have hpl : putL l limit s (gi e i) = putT l s.b (termL l s.own A (gi e i)) limit := by rw [← hA2]; rfl
  have hch : hashRight (putL l limit s (gi e i)).1 = true := by rw [hpl]; exact putT_hash hhs _ _
  have hcl2 : (putL l limit s (gi e i)).1.keys.length ≤ a.keys.length + (i + 1) := by rw [hpl]; have := putT_len l s.b (termL l s.own A (gi e i)) limit; omega
  have hol := ownL_len s.own (gi e i)
  have hst := stk_len e i (by omega)
  rw [← hsl, ← hk] at hst
  have htl : (s.st.take k).length = k := by simp; omega
  have hwi : IntKind.i64.wrap ((i : Int) + 1) = ((i + 1 : Nat) : Int) := nxt h hA
  have hkA : k + 1 ≤ maxA := by unfold maxA; omega
  have hap : ∀ id : Int, List.take k (i64s s.st) ++ [i64 id] = i64s (s.st.take k ++ [id]) := fun id => by simp [i64s, List.map_take]
  clear hpt hnx hcl
  by_cases k2 : (gi e i).kind = 2
  ·by_cases hx : ixN s.own (gi e i).name < 0
   ·have ht : termL l s.own A (gi e i) = ⟨2, s.own.length, 0, A⟩ := by simp [termL, k2, hx]
    have ho : ownL s.own (gi e i) = s.own ++ [(gi e i).name] := by simp [ownL, k2, hx]
    have hq := putT_PF l hhs (by omega) ⟨2, s.own.length, 0, A⟩ (by omega) (limit := limit)
    rw [← ht, ← hpl] at hq
    rw [ht] at hq
    simp (maxSteps := 3000000) [go_sem,-List.length_flatten,-List.map_drop,-List.map_take, k2, hkle]
    refine PF.call (index_PF s.own (gi e i).name) 9 (by simp [lePs]) ?_
    unfold ixN at hx
    simp (maxSteps := 3000000) [go_sem,-List.length_flatten,-List.map_drop,-List.map_take, Kc, hkle, hx]
    intro _
    refine ⟨_, clip49_PF s.own, ?_⟩
    have hoA : s.own.length + 1 ≤ maxA := by unfold maxA; omega
    simp (maxSteps := 3000000) [go_sem,-List.length_flatten,-List.map_drop,-List.map_take, Kc, hkle, hoA, aappc]
    refine PF.call hq 9 (by simp [lePs]) ?_
    rw [ho] at hgood hol
    clear hq hpl
    generalize putL l limit s (gi e i) = p at *
    obtain ⟨c, id, bad⟩ := p
    by_cases hb : bad = 0
    ·subst hb
     simp (maxSteps := 3000000) [go_sem,-List.length_flatten,-List.map_drop,-List.map_take, Kc]
     intro _ _
     have hfn : ((List.map (fun s => [AV.str s]) s.own).flatten ++ [AV.str (gi e i).name]) = ((s.own ++ [(gi e i).name]).map fun s => [AV.str s]).flatten := by simp
     have hfc := chunk_flat (sz := 1) (f := fun s : ByteArray => [AV.str s]) (l := s.own ++ [(gi e i).name]) (by simp)
     rw [← hfn, List.length_append, List.length_singleton] at hfc
     have hfl : ((List.map (fun s => [AV.str s]) s.own).flatten ++ [AV.str (gi e i).name]).length = s.own.length + 1 := by rw [hfn, len_flat (f := fun s : ByteArray => [AV.str s]) (sz := 1) (by simp)]; simp
     refine ⟨⟨hkle, hkA⟩, kn _ _ ⟨e.length - (i + 1), _, _, by omega, (Wk.freeze 15 (i := 6) (g := 0) (off := 0) (len := s.own.length + 1) (sz := 1) (c := false) (cs := (List.map (fun s => [AV.str s]) s.own).flatten ++ [AV.str (gi e i).name]) (by simp [Tm.get]) rfl (by rw [hfl]; omega)).trans (Wk.tell 4 (by omega) (by simp [Tm.get, hwi, hkle, hfc, -List.length_flatten]) (by simp; rintro x (⟨k, _, rfl⟩ | rfl) y hy <;> (simp at hy; subst hy; simp)) (by simp) (by exact ⟨rlb_kd, by simp [RLB], rlb_kd, rlb_i64s, trivial⟩)), ⟨i + 1, ⟨c, s.own ++ [(gi e i).name], s.st.take k ++ [id]⟩, g + 1, rfl, h, hch, hcl2, by simp only at hol ⊢; omega, by simp only [List.length_append, List.length_singleton, htl, hst], hgood rfl, rfl, rfl⟩⟩⟩
    ·simp (maxSteps := 3000000) [go_sem,-List.length_flatten,-List.map_drop,-List.map_take, Kc, hb, kr]
     rw [← hQ, hbad hb]
     simp (maxSteps := 3000000) [go_sem,-List.length_flatten,-List.map_drop,-List.map_take]
   ·have hx' : 0 ≤ ixN s.own (gi e i).name := by omega
    have ht : termL l s.own A (gi e i) = ⟨2, ixN s.own (gi e i).name, 0, A⟩ := by simp [termL, k2, hx]
    have ho : ownL s.own (gi e i) = s.own := by simp [ownL, k2, hx]
    have hq := putT_PF l hhs (by omega) ⟨2, ixN s.own (gi e i).name, 0, A⟩ (by omega) (limit := limit)
    rw [← ht, ← hpl] at hq
    rw [ht] at hq
    simp (maxSteps := 3000000) [go_sem,-List.length_flatten,-List.map_drop,-List.map_take, k2, hkle]
    refine PF.call (index_PF s.own (gi e i).name) 9 (by simp [lePs]) ?_
    unfold ixN at hx hq
    simp (maxSteps := 3000000) [go_sem,-List.length_flatten,-List.map_drop,-List.map_take, Kc, hkle, hx]
    refine PF.call hq 9 (by simp [lePs]) ?_
    rw [ho] at hgood hol
    clear hq hpl
    generalize putL l limit s (gi e i) = p at *
    obtain ⟨c, id, bad⟩ := p
    by_cases hb : bad = 0
    ·subst hb
     simp (maxSteps := 3000000) [go_sem,-List.length_flatten,-List.map_drop,-List.map_take, Kc]
     intro _ _
     refine ⟨⟨hkle, hkA⟩, kn _ _ (Kl_next (e.length - (i + 1)) 4 (by omega) ⟨i + 1, ⟨c, s.own, s.st.take k ++ [id]⟩, g + 1, rfl, h, hch, hcl2, by simp only at hol ⊢; omega, by simp only [List.length_append, List.length_singleton, htl, hst], hgood rfl, rfl, rfl⟩ (by simp [Tm.get, hwi, hkle]) (by simp) (by simp) ⟨rlb_kd, by simp [RLB], rlb_kd, rlb_i64s, trivial⟩ (by omega))⟩
    ·simp (maxSteps := 3000000) [go_sem,-List.length_flatten,-List.map_drop,-List.map_take, Kc, hb, kr]
     rw [← hQ, hbad hb]
     simp (maxSteps := 3000000) [go_sem,-List.length_flatten,-List.map_drop,-List.map_take]
  by_cases k6 : (gi e i).kind = 6
  ·have hw6 : IntKind.i64.wrap ((gi e i).n - 1) = (gi e i).n - 1 := by have := h8 k6; exact w64 (by omega) (by omega)
   have ht : termL l s.own A (gi e i) = ⟨6, fstAt (fun s => decide (s.name = (gi e i).name)) l, (gi e i).n - 1, A⟩ := by simp [termL, k6]
   have ho : ownL s.own (gi e i) = s.own := by simp [ownL, k6]
   have hq := putT_PF l hhs (by omega) ⟨6, fstAt (fun s => decide (s.name = (gi e i).name)) l, (gi e i).n - 1, A⟩ (by omega) (limit := limit)
   rw [← ht, ← hpl] at hq
   rw [ht] at hq
   simp (maxSteps := 3000000) [go_sem,-List.length_flatten,-List.map_drop,-List.map_take, k2, k6, hkle]
   refine ⟨_, sfind_PF l (gi e i).name, ?_⟩
   simp (maxSteps := 3000000) [go_sem,-List.length_flatten,-List.map_drop,-List.map_take, Kc, hkle, disP_cons, indB, apartB, apartS, refA, aliveRd, hw6]
   refine PF.call hq 9 (by simp [lePs]) ?_
   rw [ho] at hgood hol
   clear hq hpl
   generalize putL l limit s (gi e i) = p at *
   obtain ⟨c, id, bad⟩ := p
   by_cases hb : bad = 0
   ·subst hb
    simp (maxSteps := 3000000) [go_sem,-List.length_flatten,-List.map_drop,-List.map_take, Kc]
    intro _ _
    refine ⟨⟨hkle, hkA⟩, kn _ _ (Kl_next (e.length - (i + 1)) 4 (by omega) ⟨i + 1, ⟨c, s.own, s.st.take k ++ [id]⟩, g + 1, rfl, h, hch, hcl2, by simp only at hol ⊢; omega, by simp only [List.length_append, List.length_singleton, htl, hst], hgood rfl, rfl, rfl⟩ (by simp [Tm.get, hwi, hkle]) (by simp) (by simp) ⟨rlb_kd, by simp [RLB], rlb_kd, rlb_i64s, trivial⟩ (by omega))⟩
   ·simp (maxSteps := 3000000) [go_sem,-List.length_flatten,-List.map_drop,-List.map_take, Kc, hb, kr]
    rw [← hQ, hbad hb]
    simp (maxSteps := 3000000) [go_sem,-List.length_flatten,-List.map_drop,-List.map_take]
  by_cases k3 : (gi e i).kind = 3
  ·have ht : termL l s.own A (gi e i) = ⟨3, fstAt (fun s => decide (s.name = (gi e i).name)) l, 0, A⟩ := by simp [termL, k3]
   have ho : ownL s.own (gi e i) = s.own := by simp [ownL, k3]
   have hq := putT_PF l hhs (by omega) ⟨3, fstAt (fun s => decide (s.name = (gi e i).name)) l, 0, A⟩ (by omega) (limit := limit)
   rw [← ht, ← hpl] at hq
   rw [ht] at hq
   simp (maxSteps := 3000000) [go_sem,-List.length_flatten,-List.map_drop,-List.map_take, k2, k6, k3, hkle]
   refine PF.call (sfind_PF l (gi e i).name) 9 (by simp [lePs]) ?_
   simp (maxSteps := 3000000) [go_sem,-List.length_flatten,-List.map_drop,-List.map_take, Kc, hkle]
   refine PF.call hq 9 (by simp [lePs]) ?_
   rw [ho] at hgood hol
   clear hq hpl
   generalize putL l limit s (gi e i) = p at *
   obtain ⟨c, id, bad⟩ := p
   by_cases hb : bad = 0
   ·subst hb
    simp (maxSteps := 3000000) [go_sem,-List.length_flatten,-List.map_drop,-List.map_take, Kc]
    intro _ _
    refine ⟨⟨hkle, hkA⟩, kn _ _ (Kl_next (e.length - (i + 1)) 4 (by omega) ⟨i + 1, ⟨c, s.own, s.st.take k ++ [id]⟩, g + 1, rfl, h, hch, hcl2, by simp only at hol ⊢; omega, by simp only [List.length_append, List.length_singleton, htl, hst], hgood rfl, rfl, rfl⟩ (by simp [Tm.get, hwi, hkle]) (by simp) (by simp) ⟨rlb_kd, by simp [RLB], rlb_kd, rlb_i64s, trivial⟩ (by omega))⟩
   ·simp (maxSteps := 3000000) [go_sem,-List.length_flatten,-List.map_drop,-List.map_take, Kc, hb, kr]
    rw [← hQ, hbad hb]
    simp (maxSteps := 3000000) [go_sem,-List.length_flatten,-List.map_drop,-List.map_take]
  have ht : termL l s.own A (gi e i) = ⟨(gi e i).kind, 0, 0, A⟩ := by simp [termL, k2, k6, k3]
  have ho : ownL s.own (gi e i) = s.own := by simp [ownL, k2]
  have hq := putT_PF l hhs (by omega) ⟨(gi e i).kind, 0, 0, A⟩ (by omega) (limit := limit)
  rw [← ht, ← hpl] at hq
  rw [ht] at hq
  simp (maxSteps := 3000000) [go_sem,-List.length_flatten,-List.map_drop,-List.map_take, k2, k6, k3, hkle]
  refine PF.call hq 9 (by simp [lePs]) ?_
  rw [ho] at hgood hol
  clear hq hpl
  generalize putL l limit s (gi e i) = p at *
  obtain ⟨c, id, bad⟩ := p
  by_cases hb : bad = 0
  ·subst hb
   simp (maxSteps := 3000000) [go_sem,-List.length_flatten,-List.map_drop,-List.map_take, Kc]
   intro _ _
   refine ⟨⟨hkle, hkA⟩, kn _ _ (Kl_next (e.length - (i + 1)) 4 (by omega) ⟨i + 1, ⟨c, s.own, s.st.take k ++ [id]⟩, g + 1, rfl, h, hch, hcl2, by simp only at hol ⊢; omega, by simp only [List.length_append, List.length_singleton, htl, hst], hgood rfl, rfl, rfl⟩ (by simp [Tm.get, hwi, hkle]) (by simp) (by simp) ⟨rlb_kd, by simp [RLB], rlb_kd, rlb_i64s, trivial⟩ (by omega))⟩
  ·simp (maxSteps := 3000000) [go_sem,-List.length_flatten,-List.map_drop,-List.map_take, Kc, hb, kr]
   rw [← hQ, hbad hb]
   simp (maxSteps := 3000000) [go_sem,-List.length_flatten,-List.map_drop,-List.map_take]
 ·--END
  have ei : i = e.length := by omega
  subst ei
  have hs0 : 0 < s.st.length := by omega
  have hr : loadP l a names e limit = (s.b, s.own, gi s.st 0, 0) := by
   unfold loadP
   rw [hrun, List.drop_length, runL]
   rfl
  obtain ⟨x, st, hst⟩ : ∃ x st, s.st = x :: st := by
   cases hc : s.st with
   | nil => rw [hc] at hs0; simp at hs0
   | cons x st => exact ⟨x, st, rfl⟩
  rw [hst] at hr ⊢
  simp (maxSteps := 3000000) [go_sem,-List.length_flatten,-List.map_drop,-List.map_take, h, kx, disP_cons, indB, apartB, apartS, refA, aliveRd]
  rw [← hQ, hr]
  simp (maxSteps := 3000000) [go_sem,-List.length_flatten,-List.map_drop,-List.map_take, gi]
end Go.AM

namespace Go.AM
open Go.Proofs
set_option maxRecDepth 100000
set_option linter.unusedVariables false
set_option linter.unusedSimpArgs false
attribute [local go_sem] Function.comp_def argsT Opd.ev Tm.get put ares mapMo ares1 snilP bldParts bslParts putAt AV.cells AV.one astore aload loadCs callArgs abin abinInt aapp elems appMore appNone preLen aFa aFld apart aExt aPick aNot aLens aEqa cellsK fitsA LK.fitsA leavesA leafA nilD aNilc aCint aCid alive alen alenOk Rle lePs len_flat
/-! ### Stores that grow -/
def Pre (a b : Kd) : Prop := ∃ ks, b.keys = a.keys ++ ks
theorem Pre.refl (a : Kd) : Pre a a := ⟨[], by simp⟩
theorem Pre.trans {a b c : Kd} : Pre a b → Pre b c → Pre a c := fun ⟨x, h⟩ ⟨y, k⟩ => ⟨x ++ y, by rw [k, h, List.append_assoc]⟩
theorem Pre.len {a b : Kd} : Pre a b → a.keys.length ≤ b.keys.length := fun ⟨x, h⟩ => by rw [h]; simp
theorem Pre.key {a b : Kd} (h : Pre a b) {i : Nat} (hi : i < a.keys.length) : gi b.keys (i : Int) = gi a.keys (i : Int) := by
 obtain ⟨x, h⟩ := h
 rw [h, giApp hi]
theorem Pre.term {a b : Kd} (h : Pre a b) {i : Nat} (hi : i < a.keys.length) : termAt b (i : Int) = termAt a (i : Int) := by
 have := h.len
 rw [termAt_in (by omega) (by omega), termAt_in (by omega) (by omega), h.key hi]
theorem termOf_key (t : Tm0) : termOf (keyT t) = (t, true) := by
 have : ¬ (keyT t).length < 3 := by simp [keyT]
 unfold termOf
 rw [if_neg this]
 cases t
 simp [keyT, gi, List.getD]
theorem putK_pre (a : Kd) (key : List Int) : Pre a (putK a key).1 := by
 unfold putK
 split
 ·exact .refl _
 ·exact ⟨[key], rfl⟩
theorem putK_at (a : Kd) (key : List Int) : ∃ n : Nat, (putK a key).2.1 = n ∧ n < (putK a key).1.keys.length ∧ gi (putK a key).1.keys (n : Int) = key := by
 unfold putK
 by_cases h : 0 ≤ fstAt (fun x => decide (x = key)) a.keys
 ·rw [if_pos h]
  have h1 := fst_at h
  have h2 := fst_lt (p := fun x => decide (x = key)) (l := a.keys)
  refine ⟨(fstAt (fun x => decide (x = key)) a.keys).toNat, by simp only; omega, by simp only; omega, ?_⟩
  rw [show (((fstAt (fun x => decide (x = key)) a.keys).toNat : Nat) : Int) = fstAt (fun x => decide (x = key)) a.keys by omega]
  simpa using h1
 ·rw [if_neg h]
  exact ⟨a.keys.length, rfl, by simp, giEnd⟩
theorem putT_pre (l : List Sg) (a : Kd) (t : Tm0) (limit : Int) : Pre a (putT l a t limit).1 := by
 unfold putT
 split
 ·exact .refl _
 split
 ·exact .refl _
 ·exact putK_pre a _
theorem putT_ok {l : List Sg} {a : Kd} {t : Tm0} {limit : Int} (h : (putT l a t limit).2.2 = 0) : mayBe l a.keys.length t = true ∧ putT l a t limit = ((putK a (keyT t)).1, (putK a (keyT t)).2.1, 0) := by
 unfold putT at h ⊢
 by_cases h1 : mayBe l a.keys.length t = false
 ·rw [if_pos h1] at h; simp at h
 rw [if_neg h1] at h ⊢
 by_cases h2 : (putK a (keyT t)).2.2 = true ∧ limit ≤ a.keys.length
 ·rw [if_pos h2] at h; simp at h
 rw [if_neg h2]
 exact ⟨by simpa using h1, rfl⟩
theorem putT_at {l : List Sg} {a : Kd} {t : Tm0} {limit : Int} (h : (putT l a t limit).2.2 = 0) : ∃ n : Nat, (putT l a t limit).2.1 = n ∧ n < (putT l a t limit).1.keys.length ∧ termAt (putT l a t limit).1 (n : Int) = (t, true) := by
 obtain ⟨_, h2⟩ := putT_ok h
 obtain ⟨n, k1, k2, k3⟩ := putK_at a (keyT t)
 rw [h2]
 refine ⟨n, k1, k2, ?_⟩
 simp only
 rw [termAt_in (by omega) (by omega), k3, termOf_key]
theorem right_putK {l : List Sg} {a : Kd} {t : Tm0} (hs : storeRight l a = true) (hm : mayBe l a.keys.length t = true) : storeRight l (putK a (keyT t)).1 = true := by
 obtain ⟨h1, h2, h3⟩ := right_term hs
 have hh := right_put h1 (keyT t)
 have hp := putK_pre a (keyT t)
 have hl := hp.len
 unfold storeRight
 rw [Bool.and_eq_true, Bool.and_eq_true, decide_eq_true_eq, decide_eq_true_eq]
 refine ⟨⟨hh, by omega⟩, fun i hi => ?_⟩
 by_cases hia : i < a.keys.length
 ·have := h3 i hia
  unfold termOk at this ⊢
  rw [hp.term hia]
  exact this
 ·have hk := putK_len a (keyT t)
  have e : i = a.keys.length := by omega
  subst e
  have ht : termAt (putK a (keyT t)).1 (a.keys.length : Int) = (t, true) := by
   rw [termAt_in (by omega) (by omega)]
   have : gi (putK a (keyT t)).1.keys (a.keys.length : Int) = keyT t := by
    unfold putK at hi ⊢
    by_cases h : 0 ≤ fstAt (fun x => decide (x = keyT t)) a.keys
    ·rw [if_pos h] at hi; exact absurd hi (Nat.lt_irrefl _)
    ·rw [if_neg h]; exact giEnd
   rw [this, termOf_key]
  unfold termOk
  rw [ht]
  exact ⟨rfl, hm, fun h => by omega⟩
theorem right_putT {l : List Sg} {a : Kd} (hs : storeRight l a = true) (t : Tm0) (limit : Int) : storeRight l (putT l a t limit).1 = true := by
 unfold putT
 by_cases h1 : mayBe l a.keys.length t = false
 ·rw [if_pos h1]; exact hs
 rw [if_neg h1]
 by_cases h2 : (putK a (keyT t)).2.2 = true ∧ limit ≤ a.keys.length
 ·rw [if_pos h2]; exact hs
 rw [if_neg h2]
 exact right_putK hs (by simpa using h1)
/-! ### Terms whose variables all have names -/
def Nmd (l : List Sg) (a : Kd) (names : List ByteArray) (n : Nat) : Prop := ∀ x, Rch a n x → unnamed l a names x = false
theorem rch_step {a : Kd} {n m : Nat} (hm : (m : Int) ∈ (termAt a n).1.args) {y : Int} (h : Rch a m y) : Rch a n y := by
 induction h with
 | self => exact .arg .self hm
 | arg _ hx ih => exact .arg ih hx
theorem rch_cases {a : Kd} (ha : argsIn a) {n : Nat} (hn : n < a.keys.length) {y : Int} (h : Rch a n y) : y = n ∨ ∃ m : Nat, (m : Int) ∈ (termAt a n).1.args ∧ Rch a m y := by
 induction h with
 | self => exact .inl rfl
 | arg hz hx ih =>
  rename_i z x
  rcases ih with rfl | ⟨m, h1, h2⟩
  ·have := ha n hn x hx
   obtain ⟨m, rfl⟩ : ∃ m : Nat, x = m := ⟨x.toNat, by omega⟩
   exact .inr ⟨m, hx, .self⟩
  ·exact .inr ⟨m, h1, .arg h2 hx⟩
theorem Nmd.args {l : List Sg} {a : Kd} {names : List ByteArray} {n m : Nat} (h : Nmd l a names n) (hm : (m : Int) ∈ (termAt a n).1.args) : Nmd l a names m := fun x hx => h x (rch_step hm hx)
theorem Nmd.mk {l : List Sg} {a : Kd} {names : List ByteArray} {n : Nat} (ha : argsIn a) (hn : n < a.keys.length) (h0 : unnamed l a names n = false) (h : ∀ m : Nat, (m : Int) ∈ (termAt a n).1.args → Nmd l a names m) : Nmd l a names n := fun x hx => by
 rcases rch_cases ha hn hx with rfl | ⟨m, h1, h2⟩
 ·exact h0
 ·exact h m h1 x h2
theorem ndT_more {l : List Sg} {names ns : List ByteArray} {t : Tm0} (hf : t.kind = 2 → 0 ≤ t.sym) (h : (ndT l names t).2 = true) : ndT l (names ++ ns) t = ndT l names t := by
 unfold ndT at h ⊢
 by_cases k : t.kind = 2
 ·simp only [if_pos k] at h ⊢
  by_cases hn : (names.length : Int) ≤ t.sym
  ·rw [if_pos hn] at h; simp at h
  ·have := hf k
   obtain ⟨n, hn2⟩ : ∃ n : Nat, t.sym = n := ⟨t.sym.toNat, by omega⟩
   rw [if_neg hn, if_neg (by rw [List.length_append]; omega), hn2, giApp (by omega)]
 ·simp only [if_neg k]
theorem tree_more {l : List Sg} {a b : Kd} {names ns : List ByteArray} (hp : Pre a b) (ha : SF l a) (hb : SF l b) : ∀ n : Nat, n < a.keys.length → Nmd l a names n → treeN l b (names ++ ns) n = treeN l a names n ∧ Nmd l b (names ++ ns) n := by
 intro n
 induction n using Nat.strongRecOn with
 | _ n ih =>
  intro hn hN
  have hl := hp.len
  have ht := hp.term hn
  have h0 := hN n .self
  have hnd : ndT l (names ++ ns) (termAt a n).1 = ndT l names (termAt a n).1 := ndT_more (ha.fit n hn).2.1.1 (by simpa [unnamed] using h0)
  have hin := ha.ain n hn
  have key : ∀ m : Nat, (m : Int) ∈ (termAt a n).1.args → treeN l b (names ++ ns) m = treeN l a names m ∧ Nmd l b (names ++ ns) m := fun m hm => by
   have := hin m hm
   exact ih m (by omega) (by omega) (hN.args hm)
  constructor
  ·rw [treeN_eq hb.ain (by omega), treeN_eq ha.ain hn, ht, hnd]
   congr 1
   refine flatMap_cong fun x hx => ?_
   have := hin x hx
   obtain ⟨m, rfl⟩ : ∃ m : Nat, x = m := ⟨x.toNat, by omega⟩
   exact (key m hx).1
  ·refine Nmd.mk hb.ain (by omega) ?_ (fun m hm => ?_)
   ·unfold unnamed at h0 ⊢
    rw [ht, hnd]
    exact h0
   ·rw [ht] at hm
    exact (key m hm).2
end Go.AM

namespace Go.AM
open Go.Proofs
set_option maxRecDepth 100000
set_option linter.unusedVariables false
set_option linter.unusedSimpArgs false
attribute [local go_sem] Function.comp_def argsT Opd.ev Tm.get put ares mapMo ares1 snilP bldParts bslParts putAt AV.cells AV.one astore aload loadCs callArgs abin abinInt aapp elems appMore appNone preLen aFa aFld apart aExt aPick aNot aLens aEqa cellsK fitsA LK.fitsA leavesA leafA nilD aNilc aCint aCid alive alen alenOk Rle lePs len_flat
/-! ### Loading, step by step -/
def Al {α β : Type} (R : α → β → Prop) : List α → List β → Prop
 | [], [] => True
 | x :: l, y :: m => R x y ∧ Al R l m
 | _, _ => False
theorem Al.len {α β : Type} {R : α → β → Prop} : ∀ {l : List α} {m : List β}, Al R l m → l.length = m.length
 | [], [], _ => rfl
 | x :: l, y :: m, h => by simp [Al.len h.2]
 | [], y :: m, h => h.elim
 | x :: l, [], h => h.elim
theorem Al.mono {α β : Type} {R S : α → β → Prop} (hR : ∀ x y, R x y → S x y) : ∀ {l : List α} {m : List β}, Al R l m → Al S l m
 | [], [], _ => trivial
 | x :: l, y :: m, h => ⟨hR _ _ h.1, Al.mono hR h.2⟩
 | [], y :: m, h => h.elim
 | x :: l, [], h => h.elim
theorem Al.take {α β : Type} {R : α → β → Prop} : ∀ (p : Nat) {l : List α} {m : List β}, Al R l m → Al R (l.take p) (m.take p)
 | 0, l, m, h => by simp [Al]
 | p + 1, [], [], _ => by simp [Al]
 | p + 1, x :: l, y :: m, h => ⟨h.1, Al.take p h.2⟩
 | p + 1, [], y :: m, h => h.elim
 | p + 1, x :: l, [], h => h.elim
theorem Al.drop {α β : Type} {R : α → β → Prop} : ∀ (p : Nat) {l : List α} {m : List β}, Al R l m → Al R (l.drop p) (m.drop p)
 | 0, l, m, h => by simpa using h
 | p + 1, [], [], _ => by simp [Al]
 | p + 1, x :: l, y :: m, h => by simpa using Al.drop p h.2
 | p + 1, [], y :: m, h => h.elim
 | p + 1, x :: l, [], h => h.elim
theorem Al.left {α β : Type} {R : α → β → Prop} : ∀ {l : List α} {m : List β}, Al R l m → ∀ x ∈ l, ∃ y ∈ m, R x y
 | x :: l, y :: m, h, z, hz => by
  rcases List.mem_cons.1 hz with rfl | hz
  ·exact ⟨y, by simp, h.1⟩
  ·obtain ⟨w, h1, h2⟩ := Al.left h.2 z hz
   exact ⟨w, by simp [h1], h2⟩
 | [], y :: m, h, _, _ => h.elim
 | x :: l, [], h, _, _ => h.elim
def spanN (e : List Nd) (x : En) : List Nd := (e.take (x.r + 1)).drop x.s
theorem span_app {e : List Nd} {i j k : Nat} (h1 : i ≤ j) (h2 : j ≤ k) (hk : k ≤ e.length) : (e.take j).drop i ++ (e.take k).drop j = (e.take k).drop i := by
 have e1 : (e.take k).drop i = ((e.take k).take j ++ (e.take k).drop j).drop i := by rw [List.take_append_drop]
 rw [e1, List.drop_append_of_le_length (by simp; omega), List.take_take, Nat.min_eq_left h2]
theorem span_kids {e : List Nd} : ∀ {st : List En} {j : Nat} (p : Nat), chain j st → j ≤ e.length → p ≤ st.length → ((st.take p).reverse.flatMap (spanN e)) = (e.take j).drop (if p = 0 then j else (gi st ((p - 1 : Nat) : Int)).s)
 | st, j, 0, h, hj, _ => by simp
 | [], j, p + 1, h, hj, hp => by simp at hp
 | x :: st, j, p + 1, h, hj, hp => by
  obtain ⟨h1, h2, h3⟩ := h
  have hp' : p ≤ st.length := by simpa using hp
  have ih := span_kids (e := e) p h3 (by omega) hp'
  have hc := (chain_drop p h3 hp').2
  have e1 : (if p + 1 = 0 then j else (gi (x :: st) ((p + 1 - 1 : Nat) : Int)).s) = (if p = 0 then x.s else (gi st ((p - 1 : Nat) : Int)).s) := by
   cases p with
   | zero => simp [gi]
   | succ p => simp [gi]
  rw [e1, List.take_succ_cons, List.reverse_cons, List.flatMap_append, ih]
  simp only [List.flatMap_cons, List.flatMap_nil, List.append_nil, spanN]
  rw [h1, span_app hc (by omega) hj]
/-- The state behind so many nodes. -/
def stN (l : List Sg) (limit : Int) (s0 : Ls) (e : List Nd) : Nat → Ls
 | 0 => s0
 | i + 1 => stepL l limit (stN l limit s0 e i) (gi e i)
def okN (l : List Sg) (limit : Int) (s0 : Ls) (e : List Nd) (i : Nat) : Prop := ∀ j : Nat, j < i → (putL l limit (stN l limit s0 e j) (gi e j)).2.2 = 0
theorem run_ok {l : List Sg} {limit : Int} {s0 : Ls} {e : List Nd} (h : (runL l limit s0 e).2 = 0) : ∀ i, i ≤ e.length → okN l limit s0 e i ∧ runL l limit s0 e = runL l limit (stN l limit s0 e i) (e.drop i)
 | 0, _ => ⟨fun j hj => by omega, rfl⟩
 | i + 1, hi => by
  obtain ⟨h1, h2⟩ := run_ok h i (by omega)
  have h3 := h
  rw [h2, runL_next (by omega)] at h3
  by_cases hz : (putL l limit (stN l limit s0 e i) (gi e i)).2.2 = 0
  ·refine ⟨all_next h1 hz, ?_⟩
   rw [h2, runL_next (by omega), if_pos hz]
   rfl
  ·rw [if_neg hz] at h3
   exact absurd h3 hz
theorem run_end {l : List Sg} {limit : Int} {s0 : Ls} {e : List Nd} (h : (runL l limit s0 e).2 = 0) : okN l limit s0 e e.length ∧ runL l limit s0 e = (stN l limit s0 e e.length, 0) := by
 obtain ⟨h1, h2⟩ := run_ok h e.length (Nat.le_refl _)
 rw [List.drop_length, runL] at h2
 exact ⟨h1, h2⟩
end Go.AM

namespace Go.AM
open Go.Proofs
set_option maxRecDepth 100000
set_option linter.unusedVariables false
set_option linter.unusedSimpArgs false
attribute [local go_sem] Function.comp_def argsT Opd.ev Tm.get put ares mapMo ares1 snilP bldParts bslParts putAt AV.cells AV.one astore aload loadCs callArgs abin abinInt aapp elems appMore appNone preLen aFa aFld apart aExt aPick aNot aLens aEqa cellsK fitsA LK.fitsA leavesA leafA nilD aNilc aCint aCid alive alen alenOk Rle lePs len_flat
/-! ### A loaded term is its nodes -/
theorem nd_ext {x y : Nd} (h1 : x.kind = y.kind) (h2 : x.name = y.name) (h3 : x.n = y.n) : x = y := by
 cases x
 cases y
 simp only at h1 h2 h3
 subst h1 h2 h3
 rfl
theorem node_ok {l : List Sg} {own : List ByteArray} {n : Nd} {A : List Int} {many : Int} (hm : mayBe l many (termL l own A n) = true) (hx : ndMay n = true) (hA : A.length = pN n) : ndT l (ownL own n) (termL l own A n) = (n, true) := by
 have hk := mayKind hx
 have hN := mayN hx
 have hmk := mayBe_kind hm
 have hAn : (A.length : Int) = partsN n := by unfold pN at hA; omega
 have hkk : n.kind = 2 ∨ n.kind = 3 ∨ n.kind = 6 ∨ (n.kind = 0 ∨ n.kind = 1 ∨ n.kind = 4 ∨ n.kind = 5) := by omega
 unfold ndMay at hx
 unfold partsN at hAn
 rcases hkk with k | k | k | k
 ·have h0 := hN.2.2.2 (by omega)
  rw [if_neg (by omega), h0] at hAn
  by_cases hi : ixN own n.name < 0
  ·have e1 : termL l own A n = ⟨2, own.length, 0, A⟩ := by simp [termL, k, hi]
   have e2 : ownL own n = own ++ [n.name] := by simp [ownL, k, hi]
   rw [e1, e2]
   unfold ndT
   rw [if_pos rfl, if_neg (by simp only [List.length_append, List.length_singleton]; omega)]
   simp only [giEnd]
   exact Prod.ext (nd_ext k.symm rfl (by simp only; omega)) rfl
  ·have e1 : termL l own A n = ⟨2, ixN own n.name, 0, A⟩ := by simp [termL, k, hi]
   have e2 : ownL own n = own := by simp [ownL, hi]
   have h1 := fst_at (p := fun x => decide (x = n.name)) (l := own) (by unfold ixN at hi; omega)
   have h2 := fst_lt (p := fun x => decide (x = n.name)) (l := own)
   rw [e1, e2]
   unfold ndT
   unfold ixN
   rw [if_pos rfl, if_neg (by simp only; omega)]
   refine Prod.ext (nd_ext k.symm (by simpa using h1) (by simp only; omega)) rfl
 ·have e1 : termL l own A n = ⟨3, fstAt (fun s => decide (s.name = n.name)) l, 0, A⟩ := by simp [termL, k]
  rw [e1] at hmk ⊢
  simp at hmk
  have h1 := fst_at (p := fun s : Sg => decide (s.name = n.name)) (l := l) hmk.1.1
  rw [if_neg (by omega)] at hAn
  unfold ndT
  simp only [if_neg (show ¬ (3 : Int) = 2 by omega), if_true]
  exact Prod.ext (nd_ext k.symm (by simpa using h1) (by simp only; omega)) rfl
 ·have e1 : termL l own A n = ⟨6, fstAt (fun s => decide (s.name = n.name)) l, n.n - 1, A⟩ := by simp [termL, k]
  rw [e1] at hmk ⊢
  simp at hmk
  have h1 := fst_at (p := fun s : Sg => decide (s.name = n.name)) (l := l) hmk.1.1
  unfold ndT
  simp only [if_neg (show ¬ (6 : Int) = 2 by omega), if_neg (show ¬ (6 : Int) = 3 by omega), if_true]
  exact Prod.ext (nd_ext k.symm (by simpa using h1) (by simp only; omega)) rfl
 ·have e1 : termL l own A n = ⟨n.kind, 0, 0, A⟩ := by
   simp only [termL]
   rw [if_neg (by omega), if_neg (by omega), if_neg (by omega)]
  have hnm : n.name = ⟨#[]⟩ := by
   rcases k with k | k | k | k <;> simp [k] at hx <;> exact hx.1
  rw [if_neg (by omega)] at hAn
  rw [e1]
  unfold ndT
  simp only
  rw [if_neg (by omega), if_neg (by omega), if_neg (by omega)]
  exact Prod.ext (nd_ext rfl hnm.symm hAn) rfl
/-- What a number on the stack stands for. -/
def Rep (l : List Sg) (s : Ls) (e : List Nd) (id : Int) (x : En) : Prop := ∃ n : Nat, id = n ∧ n < s.b.keys.length ∧ treeN l s.b s.own n = spanN e x ∧ Nmd l s.b s.own n
structure LInv (l : List Sg) (s0 : Ls) (e : List Nd) (i : Nat) (s : Ls) : Prop where
 right : storeRight l s.b = true
 pre : Pre s0.b s.b
 own : ∃ ns, s.own = s0.own ++ ns
 al : Al (Rep l s e) s.st.reverse (stk e i)
 few : s.b.keys.length ≤ s0.b.keys.length + i
theorem LInv.step {l : List Sg} (hr : sigRight l = true) {s0 s : Ls} {e : List Nd} (he : ndsMay e) {i : Nat} (hi : i < e.length) (hb : s0.b.keys.length + e.length ≤ 1000000) {limit : Int} (h : LInv l s0 e i s) (hz : (putL l limit s (gi e i)).2.2 = 0) : LInv l s0 e (i + 1) (stepL l limit s (gi e i)) := by
 obtain ⟨h1, h2⟩ := he i hi
 have hN := mayN h1
 have hpl : pN (gi e i) ≤ (stk e i).length := by unfold pN; omega
 have hal := h.al.len
 rw [List.length_reverse] at hal
 have hr2 : storeRight l (stepL l limit s (gi e i)).b = true := right_putT h.right _ _
 have hp2 : Pre s.b (stepL l limit s (gi e i)).b := putT_pre _ _ _ _
 have hl2 := putT_len l s.b (termL l s.own (argL s.st (gi e i)) (gi e i)) limit
 have hfew := h.few
 have hl3 : (stepL l limit s (gi e i)).b.keys.length ≤ s.b.keys.length + 1 := hl2
 have hsf := sf_of hr h.right (by omega)
 have hsf2 := sf_of hr hr2 (by omega)
 have hown : ∃ ns, (stepL l limit s (gi e i)).own = s.own ++ ns := by
  show ∃ ns, ownL s.own (gi e i) = s.own ++ ns
  unfold ownL
  split
  ·exact ⟨_, rfl⟩
  ·exact ⟨[], by simp⟩
 have hrep : ∀ id x, Rep l s e id x → Rep l (stepL l limit s (gi e i)) e id x := by
  rintro id x ⟨n, rfl, k1, k2, k3⟩
  obtain ⟨ns, hns⟩ := hown
  have := tree_more (ns := ns) hp2 hsf hsf2 n k1 k3
  rw [← hns] at this
  exact ⟨n, rfl, by have := hp2.len; omega, by rw [this.1, k2], this.2⟩
 have hst : (stepL l limit s (gi e i)).st.reverse = (putL l limit s (gi e i)).2.1 :: s.st.reverse.drop (pN (gi e i)) := by
  show (s.st.take (s.st.length - pN (gi e i)) ++ [(putL l limit s (gi e i)).2.1]).reverse = _
  rw [List.reverse_append, List.reverse_take]
  rw [show s.st.length - (s.st.length - pN (gi e i)) = pN (gi e i) by omega]
  rfl
 refine ⟨hr2, h.pre.trans hp2, ?_, ?_, by omega⟩
 ·obtain ⟨ns, h3⟩ := hown
  obtain ⟨ms, h4⟩ := h.own
  exact ⟨ms ++ ns, by rw [h3, h4, List.append_assoc]⟩
 rw [hst, stk]
 refine ⟨?_, (h.al.drop _).mono hrep⟩
 obtain ⟨n, k1, k2, k3⟩ := putT_at hz
 have hmb := (putT_ok hz).1
 have hA : argL s.st (gi e i) = (s.st.reverse.take (pN (gi e i))).reverse := by
  unfold argL
  rw [List.take_reverse, List.reverse_reverse]
 have hAl : (argL s.st (gi e i)).length = pN (gi e i) := by
  rw [hA, List.length_reverse, List.length_take, List.length_reverse]
  omega
 have hnd := node_ok hmb h1 hAl
 have hkid := (h.al.take (pN (gi e i))).mono hrep
 have harg : ∀ x ∈ argL s.st (gi e i), ∃ y : En, Rep l (stepL l limit s (gi e i)) e x y := fun x hx => by
  rw [hA, List.mem_reverse] at hx
  obtain ⟨y, _, hy⟩ := hkid.left x hx
  exact ⟨y, hy⟩
 have hch := stk_chain e i (fun j hj => by
  obtain ⟨q1, q2⟩ := he j (by omega)
  have := (mayN q1).1
  exact ⟨this, by unfold pN; omega⟩)
 have k2' : n < (stepL l limit s (gi e i)).b.keys.length := k2
 have k3' : termAt (stepL l limit s (gi e i)).b n = (termL l s.own (argL s.st (gi e i)) (gi e i), true) := k3
 have hta : (termL l s.own (argL s.st (gi e i)) (gi e i)).args = argL s.st (gi e i) := rfl
 have hnd' : ndT l (stepL l limit s (gi e i)).own (termL l s.own (argL s.st (gi e i)) (gi e i)) = (gi e i, true) := hnd
 have hfm : ∀ {A : List Int} {B : List En}, Al (Rep l (stepL l limit s (gi e i)) e) A B → A.reverse.flatMap (treeN l (stepL l limit s (gi e i)).b (stepL l limit s (gi e i)).own) = B.reverse.flatMap (spanN e) := by
  intro A
  induction A with
  | nil =>
   intro B hB
   cases B with
   | nil => rfl
   | cons _ _ => exact hB.elim
  | cons x A ih =>
   intro B hB
   cases B with
   | nil => exact hB.elim
   | cons y B =>
    obtain ⟨⟨m, rfl, _, q, _⟩, hB⟩ := hB
    rw [List.reverse_cons, List.flatMap_append, ih hB, List.reverse_cons, List.flatMap_append]
    simp only [List.flatMap_cons, List.flatMap_nil, List.append_nil, q]
 refine ⟨n, k1, k2', ?_, ?_⟩
 ·have hsp := span_kids (e := e) (pN (gi e i)) hch (by omega) hpl
  have hcd := (chain_drop (pN (gi e i)) hch hpl).2
  rw [treeN_eq hsf2.ain k2', k3', hta, hnd', hA, hfm (h.al.take (pN (gi e i))|>.mono hrep), hsp]
  show _ = (e.take (i + 1)).drop (if pN (gi e i) = 0 then i else (gi (stk e i) ((pN (gi e i) - 1 : Nat) : Int)).s)
  rw [List.take_succ_eq_append_getElem hi, List.drop_append_of_le_length (by simp; omega)]
  simp [gi, List.getD, hi]
 ·refine Nmd.mk hsf2.ain k2' ?_ (fun m hm => ?_)
  ·unfold unnamed
   rw [k3', hnd']
   rfl
  ·rw [k3', hta] at hm
   obtain ⟨y, q, hq, _, _, q2⟩ := harg _ hm
   have : m = q := by omega
   subst this
   exact q2
theorem LInv.all {l : List Sg} (hr : sigRight l = true) {s0 : Ls} (h0 : storeRight l s0.b = true) (hst : s0.st = []) {e : List Nd} (he : ndsMay e) (hb : s0.b.keys.length + e.length ≤ 1000000) {limit : Int} : ∀ i, i ≤ e.length → okN l limit s0 e i → LInv l s0 e i (stN l limit s0 e i)
 | 0, _, _ => ⟨h0, .refl _, ⟨[], by simp [stN]⟩, by simp [stN, hst, stk, Al], by simp [stN]⟩
 | i + 1, hi, ho => (LInv.all hr h0 hst he hb i (by omega) (fun j hj => ho j (by omega))).step hr he (by omega) hb (ho i (by omega))
end Go.AM

namespace Go.AM
open Go.Proofs
set_option maxRecDepth 100000
set_option linter.unusedVariables false
set_option linter.unusedSimpArgs false
attribute [local go_sem] Function.comp_def argsT Opd.ev Tm.get put ares mapMo ares1 snilP bldParts bslParts putAt AV.cells AV.one astore aload loadCs callArgs abin abinInt aapp elems appMore appNone preLen aFa aFld apart aExt aPick aNot aLens aEqa cellsK fitsA LK.fitsA leavesA leafA nilD aNilc aCint aCid alive alen alenOk Rle lePs len_flat
/-! ### load.Load's laws -/
theorem right_good {e : List Nd} (he : ndsMay e) : goodN e e.length := fun j hj => by
 obtain ⟨q1, q2⟩ := he j hj
 have := (mayN q1).1
 exact ⟨this, by unfold pN; omega⟩
theorem loadP_ok {l : List Sg} {a : Kd} {names : List ByteArray} {e : List Nd} {limit : Int} (h : (loadP l a names e limit).2.2.2 = 0) : okN l limit ⟨a, names, []⟩ e e.length ∧ loadP l a names e limit = ((stN l limit ⟨a, names, []⟩ e e.length).b, (stN l limit ⟨a, names, []⟩ e e.length).own, gi (stN l limit ⟨a, names, []⟩ e e.length).st 0, 0) := by
 unfold loadP at h ⊢
 by_cases hz : (runL l limit ⟨a, names, []⟩ e).2 = 0
 ·obtain ⟨h1, h2⟩ := run_end hz
  rw [if_pos hz, h2]
  exact ⟨h1, rfl⟩
 ·rw [if_neg hz] at h
  exact absurd h hz
theorem load_ok {l : List Sg} {a : Kd} {names : List ByteArray} {e : List Nd} {limit : Int} (hr : sigRight l = true) (hs : storeRight l a = true) (hR : rightN e = true) (hb : a.keys.length + e.length ≤ 1000000) (h : (loadP l a names e limit).2.2.2 = 0) :
  ∃ n : Nat, loadP l a names e limit = ((stN l limit ⟨a, names, []⟩ e e.length).b, (stN l limit ⟨a, names, []⟩ e e.length).own, (n : Int), 0) ∧ okN l limit ⟨a, names, []⟩ e e.length ∧ LInv l ⟨a, names, []⟩ e e.length (stN l limit ⟨a, names, []⟩ e e.length) ∧ (stN l limit ⟨a, names, []⟩ e e.length).st = [(n : Int)] ∧ n < (stN l limit ⟨a, names, []⟩ e e.length).b.keys.length ∧ treeN l (stN l limit ⟨a, names, []⟩ e e.length).b (stN l limit ⟨a, names, []⟩ e e.length).own n = e ∧ Nmd l (stN l limit ⟨a, names, []⟩ e e.length).b (stN l limit ⟨a, names, []⟩ e e.length).own n := by
 obtain ⟨h1, h2⟩ := loadP_ok h
 obtain ⟨k1, k2, k3, k4⟩ := rightN_spec hR
 have hI := LInv.all hr (s0 := ⟨a, names, []⟩) hs rfl k1 hb (limit := limit) e.length (Nat.le_refl _) h1
 generalize stN l limit ⟨a, names, []⟩ e e.length = s at *
 have hch := stk_chain e e.length (right_good k1)
 have hal := hI.al
 obtain ⟨x, hx⟩ : ∃ x, stk e e.length = [x] := List.length_eq_one_iff.1 k2
 rw [hx] at hch hal
 have hl := hal.len
 rw [List.length_reverse] at hl
 obtain ⟨id, hid⟩ : ∃ id, s.st = [id] := List.length_eq_one_iff.1 hl
 rw [hid] at hal
 obtain ⟨⟨n, rfl, q1, q2, q3⟩, _⟩ := hal
 obtain ⟨c1, c2, c3⟩ := hch
 have c3 : x.s = 0 := c3
 refine ⟨n, by rw [h2, hid]; rfl, h1, hI, hid, q1, ?_, q3⟩
 rw [q2]
 unfold spanN
 rw [c1, c3, List.take_length, List.drop_zero]
theorem nodes_back {l : List Sg} {b : Kd} {own : List ByteArray} {e : List Nd} {n : Nat} (hsf : SF l b) (hn : n < b.keys.length) (ht : treeN l b own n = e) (hN : Nmd l b own n) (hR : rightN e = true) (h3 : e.length ≤ 300) : nodesP l b own n = (e, 0) := by
 unfold nodesP
 rw [if_neg (by omega), if_neg, ht, if_neg (by omega), if_neg (by simp [hR])]
 rintro ⟨k, h1, h2⟩
 have := (mem_belowP hsf.ain h1).2.2.2.2
 rw [Int.toNat_natCast] at this
 rw [hN k this] at h2
 cases h2
theorem text_back {l : List Sg} {b : Kd} {own : List ByteArray} {e : List Nd} {n : Nat} (hsf : SF l b) (hn : n < b.keys.length) (ht : treeN l b own n = e) (hN : Nmd l b own n) (hR : rightN e = true) (h3 : e.length ≤ 300) : textP l b own n = (enN e (e.length - 1)).t := by
 unfold textP
 rw [nodes_back hsf hn ht hN hR h3]
 rfl
/-! ### Loaded again -/
end Go.AM

namespace Go.AM
open Go.Proofs
set_option maxRecDepth 100000
set_option linter.unusedVariables false
set_option linter.unusedSimpArgs false
attribute [local go_sem] Function.comp_def argsT Opd.ev Tm.get put ares mapMo ares1 snilP bldParts bslParts putAt AV.cells AV.one astore aload loadCs callArgs abin abinInt aapp elems appMore appNone preLen aFa aFld apart aExt aPick aNot aLens aEqa cellsK fitsA LK.fitsA leavesA leafA nilD aNilc aCint aCid alive alen alenOk Rle lePs len_flat
/-! ### The laws' own example -/
def l0 : List Sg := [⟨⟨#[99]⟩, ⟨#[43]⟩⟩]
def e0 : List Nd := [⟨2, ⟨#[88]⟩, 0⟩, ⟨3, ⟨#[99]⟩, 1⟩]
theorem sig0 : sigRight l0 = true := by decide
theorem new0 : storeRight l0 newK = true := by kernel_rfl
theorem load0 : (loadP l0 newK [] e0 9).2 = ([⟨#[88]⟩], 3, 0) := by kernel_rfl
theorem load0k : (loadP l0 newK [] e0 9).1.keys.length = 4 := by kernel_rfl
theorem may0 : ndsMay e0 := fun i hi => by
 have : i = 0 ∨ i = 1 := by simp [e0] at hi; omega
 rcases this with rfl | rfl
 ·exact ⟨by kernel_rfl, by decide⟩
 ·exact ⟨by kernel_rfl, by decide⟩
theorem stk0 : (stk e0 e0.length).length = 1 := by kernel_rfl
theorem dep0 : (enN e0 (e0.length - 1)).d ≤ 40 := by decide
theorem txt0 : (enN e0 (e0.length - 1)).t = ⟨#[99, 40, 88, 41]⟩ := by kernel_rfl
theorem right0 : rightN e0 = true := by
 unfold rightN
 simp only [Bool.and_eq_true, decide_eq_true_eq]
 exact ⟨may0, stk0, dep0⟩
theorem nm0 : namesOk [⟨#[88]⟩] = true := by kernel_rfl
theorem text0 : textP l0 (loadP l0 newK [] e0 9).1 [⟨#[88]⟩] 3 = ⟨#[99, 40, 88, 41]⟩ := by
 have h0 : (loadP l0 newK [] e0 9).2.2.2 = 0 := by rw [load0]
 obtain ⟨n, h1, _, hI, _, h3, h4, h5⟩ := load_ok sig0 new0 right0 (by decide) h0
 have h2 := load0
 rw [h1] at h2 ⊢
 simp only [Prod.mk.injEq] at h2
 have hn : (3 : Int) = (n : Int) := h2.2.1.symm
 rw [hn, ← h2.1]
 have hk : newK.keys.length = 2 := rfl
 have hf := hI.few
 have he : e0.length = 2 := rfl
 rw [text_back (sf_of sig0 hI.right (by simp only [hk] at hf; omega)) h3 h4 h5 right0 (by decide), txt0]
theorem c9_ok : cFn Tryz.prog an0 Tryz.f9 = some c9 := by kernel_rfl
theorem shown_PF : PF Tryz.prog 9 [] (.bool true) := by
 refine PFk 9 hm Tryz.func9 c9_ok (Nat.le_of_ble_eq_true rfl) (by simp) (by simp) ?_
 have hl := load_PF (l := l0) (a := newK) (e := e0) (right_term new0).1 (right_good may0) (fun j hj h => by have := (mayN (may0 j hj).1).2.2.1 h; omega) (by rw [stk0]; omega) (by decide) [] (by decide) 9
 have ht := text0
 have h2 := load0
 have hk := load0k
 have hs : storeRight l0 (loadP l0 newK [] e0 9).1 = true := by
  have h0 : (loadP l0 newK [] e0 9).2.2.2 = 0 := by rw [load0]
  obtain ⟨n, h1, _, hI, _⟩ := load_ok sig0 new0 right0 (by decide) h0
  rw [h1]
  exact hI.right
 generalize loadP l0 newK [] e0 9 = p at *
 obtain ⟨b, p2⟩ := p
 simp only at h2 hk hs ht
 subst h2
 have ht2 := text16_PF (sf_of sig0 hs (by omega)) [⟨#[88]⟩] 3
 rw [ht] at ht2
 have hn := named10_PF [⟨#[88]⟩]
 rw [nm0] at hn
 simp (maxSteps := 3000000) [go_sem,-List.length_flatten,-List.map_drop,-List.map_take, c9]
 refine PF.call rnew_PF 9 (by simp [lePs]) ?_
 simp (maxSteps := 3000000) [go_sem,-List.length_flatten,-List.map_drop,-List.map_take, Kc]
 refine PF.call hl 9 (by simp [lePs, l0, e0]) ?_
 have hgi : gi [(⟨#[88]⟩ : ByteArray)] 0 = ⟨#[88]⟩ := rfl
 simp (maxSteps := 3000000) [go_sem,-List.length_flatten,-List.map_drop,-List.map_take, Kc, hk, hgi]
 intro _ _
 refine PF.call ht2 9 (by simp [lePs, l0]) ?_
 simp (maxSteps := 3000000) [go_sem,-List.length_flatten,-List.map_drop,-List.map_take, Kc]
 refine PF.call hn 9 (by simp [lePs]) ?_
 simp (maxSteps := 3000000) [go_sem,-List.length_flatten,-List.map_drop,-List.map_take, Kc]
end Go.AM

namespace Go.AM
open Go.Proofs
set_option maxRecDepth 100000
set_option linter.unusedVariables false
set_option linter.unusedSimpArgs false
attribute [local go_sem] Function.comp_def argsT Opd.ev Tm.get put ares mapMo ares1 snilP bldParts bslParts putAt AV.cells AV.one astore aload loadCs callArgs abin abinInt aapp elems appMore appNone preLen aFa aFld apart aExt aPick aNot aLens aEqa cellsK fitsA LK.fitsA leavesA leafA nilD aNilc aCint aCid alive alen alenOk Rle lePs len_flat
def c3b : AFn := ⟨90, .seq (.reg false [⟨some 1, .box (.tmp 0), none⟩, ⟨some 2, .mov (.lit (.bool false)), none⟩]) (.seq (.reg false [⟨some 13, .fa 0 (.tmp 1), none⟩, ⟨some 14, .load 1 false (.tmp 13), none⟩, ⟨some 3, .mov (.tmp 14), none⟩]) (.seq (.reg false [⟨some 15, .fa 1 (.tmp 1), none⟩, ⟨some 16, .load 2 true (.tmp 15), none⟩, ⟨some 4, .alloc [.nilS, .nilS], none⟩, ⟨none, .store 2 (.tmp 4) (.tmp 16), none⟩]) (.seq (.reg false [⟨some 17, .fa 3 (.tmp 1), none⟩, ⟨some 18, .load 1 false (.tmp 17), none⟩, ⟨some 5, .mov (.tmp 18), none⟩]) (.seq (.reg false [⟨some 19, .fa 4 (.tmp 1), none⟩, ⟨some 20, .load 1 false (.tmp 19), none⟩, ⟨some 6, .mov (.tmp 20), none⟩]) (.seq (.reg false [⟨some 21, .call (.lit (.fn (.func 9) [] [])) [], none⟩, ⟨some 7, .mov (.tmp 21), none⟩]) (.seq (.seq (.reg false [⟨some 22, .mov (.tmp 5), none⟩, ⟨some 23, .len (.tmp 22), none⟩, ⟨some 24, .bin .gtr (.tmp 23) (.lit (.int .i64 100)), none⟩]) (.cond (.tmp 24) (.seq (.reg false [⟨some 25, .mov (.tmp 7), none⟩, ⟨some 2, .mov (.tmp 25), none⟩]) .ret) .skip)) (.seq (.seq (.reg false [⟨some 8, .mov (.lit (.int .i64 0)), none⟩]) (.block 0 (.loop (.seq (.seq (.reg false [⟨some 26, .mov (.tmp 8), none⟩, ⟨some 27, .mov (.tmp 5), none⟩, ⟨some 28, .len (.tmp 27), none⟩, ⟨some 29, .bin .lss (.tmp 26) (.tmp 28), none⟩]) (.cond (.tmp 29) .skip (.exit 0))) (.seq (.block 1 (.seq (.reg false [⟨some 32, .mov (.tmp 5), none⟩, ⟨some 33, .mov (.tmp 8), none⟩, ⟨some 34, .ia 1 (.tmp 32) (.tmp 33), none⟩, ⟨some 35, .load 1 false (.tmp 34), none⟩, ⟨some 36, .lens (.tmp 35), none⟩, ⟨some 37, .bin .gtr (.tmp 36) (.lit (.int .i64 50)), none⟩]) (.cond (.tmp 37) (.seq (.reg false [⟨some 38, .mov (.tmp 7), none⟩, ⟨some 2, .mov (.tmp 38), none⟩]) .ret) .skip))) (.reg false [⟨some 30, .mov (.tmp 8), none⟩, ⟨some 31, .bin .add (.tmp 30) (.lit (.int .i64 1)), none⟩, ⟨some 8, .mov (.tmp 31), none⟩])))))) (.seq (.seq (.reg false [⟨some 39, .mov (.tmp 5), none⟩, ⟨some 40, .call (.lit (.fn (.func 10) [] [])) [.tmp 39], none⟩, ⟨some 41, .mov (.tmp 5), none⟩, ⟨some 42, .call (.lit (.fn (.func 11) [] [])) [.tmp 41], none⟩, ⟨some 43, .eqa true false [.bool] (.tmp 40) (.tmp 42), none⟩]) (.cond (.tmp 43) (.seq (.reg false [⟨some 2, .mov (.lit (.bool false)), none⟩]) .ret) .skip)) (.seq (.seq (.reg false [⟨some 44, .mov (.tmp 3), none⟩, ⟨some 45, .load 2 true (.tmp 4), none⟩, ⟨some 46, .mov (.tmp 5), none⟩, ⟨some 47, .call (.lit (.fn (.func 12) [] [])) [.tmp 44, .tmp 45, .tmp 46], none⟩, ⟨some 48, .not (.tmp 47), none⟩]) (.cond (.tmp 48) (.seq (.reg false [⟨some 49, .mov (.tmp 7), none⟩, ⟨some 2, .mov (.tmp 49), none⟩]) .ret) .skip)) (.seq (.reg false [⟨some 51, .mov (.tmp 3), none⟩, ⟨some 52, .load 2 true (.tmp 4), none⟩, ⟨some 53, .mov (.tmp 5), none⟩, ⟨some 54, .mov (.tmp 6), none⟩, ⟨some 55, .call (.lit (.fn (.func 13) [] [])) [.tmp 51, .tmp 52, .tmp 53, .tmp 54], none⟩, ⟨some 50, .mov (.tmp 55), none⟩, ⟨some 56, .ext (.tmp 50) 0, none⟩, ⟨some 57, .ext (.tmp 50) 1, none⟩, ⟨some 9, .mov (.tmp 56), none⟩, ⟨some 10, .mov (.tmp 57), none⟩]) (.seq (.reg false [⟨some 59, .mov (.tmp 3), none⟩, ⟨some 60, .load 2 true (.tmp 4), none⟩, ⟨some 61, .mov (.tmp 5), none⟩, ⟨some 62, .mov (.tmp 6), none⟩, ⟨some 63, .call (.lit (.fn (.func 14) [] [])) [.tmp 59, .tmp 60, .tmp 61, .tmp 62], none⟩, ⟨some 58, .mov (.tmp 63), none⟩, ⟨some 64, .ext (.tmp 58) 0, none⟩, ⟨some 65, .ext (.tmp 58) 1, none⟩, ⟨some 11, .mov (.tmp 64), none⟩, ⟨some 12, .mov (.tmp 65), none⟩]) (.seq (.reg true [⟨some 66, .mov (.tmp 7), none⟩, ⟨some 67, .mov (.tmp 66), none⟩, ⟨some 68, .mov (.tmp 9), some ((67, true))⟩, ⟨some 69, .mov (.tmp 11), some ((67, true))⟩, ⟨some 70, .call (.lit (.fn (.func 15) [] [])) [.tmp 68, .tmp 69], some ((67, true))⟩, ⟨some 71, .pick (.tmp 67) (.tmp 70) (.lit (.bool false)), none⟩, ⟨some 72, .mov (.tmp 71), none⟩, ⟨some 73, .mov (.tmp 10), some ((72, true))⟩, ⟨some 74, .mov (.tmp 12), some ((72, true))⟩, ⟨some 75, .bin .eql (.tmp 73) (.tmp 74), some ((72, true))⟩, ⟨some 76, .pick (.tmp 72) (.tmp 75) (.lit (.bool false)), none⟩, ⟨some 77, .mov (.tmp 76), none⟩, ⟨some 78, .mov (.tmp 3), some ((77, true))⟩, ⟨some 79, .load 2 true (.tmp 4), some ((77, true))⟩, ⟨some 80, .mov (.tmp 5), some ((77, true))⟩, ⟨some 81, .mov (.tmp 6), some ((77, true))⟩, ⟨some 82, .call (.lit (.fn (.func 16) [] [])) [.tmp 78, .tmp 79, .tmp 80, .tmp 81], some ((77, true))⟩, ⟨some 83, .mov (.tmp 3), some ((77, true))⟩, ⟨some 84, .load 2 true (.tmp 4), some ((77, true))⟩, ⟨some 85, .mov (.tmp 5), some ((77, true))⟩, ⟨some 86, .mov (.tmp 6), some ((77, true))⟩, ⟨some 87, .call (.lit (.fn (.func 17) [] [])) [.tmp 83, .tmp 84, .tmp 85, .tmp 86], some ((77, true))⟩, ⟨some 88, .bin .eql (.tmp 82) (.tmp 87), some ((77, true))⟩, ⟨some 89, .pick (.tmp 77) (.tmp 88) (.lit (.bool false)), none⟩, ⟨some 2, .mov (.tmp 89), none⟩]) .ret)))))))))))), [.tmp 2]⟩
/-! ### LoadTells -/
theorem of_parts {l : List Sg} {a : Kd} {names : List ByteArray} (h : ofN l a names = true) : l.length ≤ 64 ∧ names.length ≤ 100 ∧ sigRight l = true ∧ few a = true ∧ storeRight l a = true ∧ namesOk names = true := by
 simpa [ofN] using h
theorem psum_keys : ∀ (ks : List (List Int)) (n : Nat), n + ks.length ≤ psum n ks
 | [], n => by simp [psum]
 | k :: ks, n => by
  have := psum_keys ks (n + 1 + k.length)
  simp only [psum, List.foldl_cons, List.length_cons] at this ⊢
  omega
theorem few_keys {a : Kd} (h : few a = true) : a.keys.length ≤ 2000 := by
 have h1 := of_decide_eq_true h
 have := psum_keys a.keys a.slots.length
 omega
theorem c3_ok : cFn Tryz.prog an0 Tryz.f3 = some c3b := by kernel_rfl
theorem law3_PF (l : List Sg) (a : Kd) (names : List ByteArray) (id : Int) (hs : ∀ i : Nat, i < l.length → (gi l i).args.size ≤ maxA) (hk : a.keys.length ≤ 1048576) (hks : ∀ i : Nat, i < a.keys.length → (gi a.keys i).length ≤ maxA) : PF Tryz.prog 3 [.agg [sigs l, intss a.keys, ints a.slots, strs names, i64 id]] (.bool true) := by
 refine PFk 9 hm Tryz.func3 c3_ok (Nat.le_of_ble_eq_true rfl) (by simp) (by simp) ?_
 simp (maxSteps := 3000000) [go_sem,-List.length_flatten,-List.map_drop,-List.map_take, c3b]
 refine PF.call shown_PF 9 (by simp [lePs]) ?_
 by_cases h1 : names.length ≤ 100
 ·have h1' : ¬ (100 : Int) < names.length := by omega
  simp (maxSteps := 3000000) [go_sem,-List.length_flatten,-List.map_drop,-List.map_take, Kc, h1']
  intro hA
  refine run_countK names.length 8 [(3, sigs l), (4, .ptr 1 0 0), (5, strs names), (6, i64 id), (7, .bool true)] [.cells 0 [sigs l, intss a.keys, ints a.slots, strs names, i64 id], .cells 0 a.cs] (fun i => True)
   (Wk.tell 2 (by omega) (by simp [Tm.get]) (by simp) (by simp) (by simp [RLB])) trivial ?_
  intro i hi _ KK kx kr kn
  by_cases h : i < names.length
  ·by_cases h2 : (50 : Int) < ((gi names i).size : Int)
   ·simp (maxSteps := 3000000) [go_sem,-List.length_flatten,-List.map_drop,-List.map_take, h, h2, kr]
   ·simp (maxSteps := 3000000) [go_sem,-List.length_flatten,-List.map_drop,-List.map_take, h, h2]
    intros
    exact kn _ _ (Kn_next 2 (by omega) (by omega) trivial (by simp [Tm.get, nxt h hA]) (by simp) (by simp) (by simp [RLB]))
  ·simp (maxSteps := 3000000) [go_sem,-List.length_flatten,-List.map_drop,-List.map_take, h, kx]
   intros
   refine PF.call (named10_PF names) 9 (by simp [lePs]) ?_
   simp (maxSteps := 3000000) [go_sem,-List.length_flatten,-List.map_drop,-List.map_take, Kc]
   refine PF.call (rnamed_PF names) 9 (by simp [lePs]) ?_
   simp (maxSteps := 3000000) [go_sem,-List.length_flatten,-List.map_drop,-List.map_take, Kc]
   refine PF.call (of12_PF l a names hs hk hks) 9 (by simp [lePs]) ?_
   cases ho : ofN l a names with
   | false => simp (maxSteps := 3000000) [go_sem,-List.length_flatten,-List.map_drop,-List.map_take, Kc]
   | true =>
   obtain ⟨_, _, o1, o2, o3, _⟩ := of_parts ho
   have hsf := sf_of o1 o3 (by have := few_keys o2; omega)
   have e1 := nodes_PF hsf names id
   have e2 := rnodes_PF hsf names id
   have e3 := text16_PF hsf names id
   have e4 := text17_PF hsf names id
   generalize textP l a names id = t at *
   generalize nodesP l a names id = p at *
   have e5 := ndSame_PF p.1 p.1
   simp (maxSteps := 3000000) [go_sem,-List.length_flatten,-List.map_drop,-List.map_take, Kc]
   refine PF.call e1 9 (by simp [lePs]) ?_
   simp (maxSteps := 3000000) [go_sem,-List.length_flatten,-List.map_drop,-List.map_take, Kc]
   refine PF.call e2 9 (by simp [lePs]) ?_
   simp (maxSteps := 3000000) [go_sem,-List.length_flatten,-List.map_drop,-List.map_take, Kc]
   refine ⟨_, e5, ?_⟩
   simp (maxSteps := 3000000) [go_sem,-List.length_flatten,-List.map_drop,-List.map_take, Kc]
   refine ⟨_, e3, _, e4, ?_⟩
   simp (maxSteps := 3000000) [go_sem,-List.length_flatten,-List.map_drop,-List.map_take, Kc]
 ·have h1' : (100 : Int) < names.length := by omega
  simp (maxSteps := 3000000) [go_sem,-List.length_flatten,-List.map_drop,-List.map_take, Kc, h1']
end Go.AM

namespace Go.AM
open Go.Proofs
set_option maxRecDepth 100000
set_option linter.unusedVariables false
set_option linter.unusedSimpArgs false
attribute [local go_sem] Function.comp_def argsT Opd.ev Tm.get put ares mapMo ares1 snilP bldParts bslParts putAt AV.cells AV.one astore aload loadCs callArgs abin abinInt aapp elems appMore appNone preLen aFa aFld apart aExt aPick aNot aLens aEqa cellsK fitsA LK.fitsA leavesA leafA nilD aNilc aCint aCid alive alen alenOk Rle lePs len_flat
/-! ### What comes in -/
def tyStrs : Ty := .slice .str
def strsFit (l : List ByteArray) : Prop := l.length ≤ lim ∧ ∀ s ∈ l, s.size ≤ lim
theorem is_strs {cs : List AV} (h : tyStrs.is cs) : ∃ l : List ByteArray, cs = [strs l] ∧ strsFit l := by
 simp only [tyStrs, Ty.is] at h
 obtain ⟨e1, rfl, hl1, hs1⟩ := h
 obtain ⟨l, rfl, hl⟩ := is_rows (f := fun s : ByteArray => [AV.str s]) (p := fun s => s.size ≤ lim) (fun u hu => hu) hs1
 exact ⟨l, rfl, by simpa using hl1, hl⟩
end Go.AM
