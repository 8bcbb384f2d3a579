/- The abstract machine, part 40: the library's sort by a function, of pairs, told of the call's own blocks. -/
import Derived.Test.YtiijekgpjnhdjaaAm4
import Derived.Shelf.SlSortCmp.InsertionK
namespace Go.AM
open Go.Sort Go.Proofs
set_option linter.unusedVariables false
set_option linter.unusedSimpArgs false
variable {P : Program} {X : Nat → Prop} {E : Env} {w : World} {H : AHeap}
abbrev prV (p : Int × Int) : List Value := [.int .i64 p.1, .int .i64 p.2]
abbrev prA (p : Int × Int) : List AV := [.int .i64 p.1, .int .i64 p.2]
def flatP (l : List (Int × Int)) : List Int := l.flatMap fun p => [p.1, p.2]
theorem flatP_len (l : List (Int × Int)) : (flatP l).length = l.length * 2 := by
  induction l with
  | nil => rfl
  | cons a l ih => simp only [flatP, List.flatMap_cons, List.length_append, List.length_cons, List.length_nil] at ih ⊢; omega
theorem flat_flatP (l : List (Int × Int)) : (l.map prA).flatten = i64s (flatP l) := by
  induction l with
  | nil => rfl
  | cons a l ih => simp only [flatP, List.map_cons, List.flatten_cons, List.flatMap_cons, List.map_append, List.map_cons, List.map_nil] at ih ⊢; rw [ih]
theorem flatP_get : ∀ (l : List (Int × Int)) (t : Nat), t < l.length * 2 → ((flatP l).map (Value.int .i64))[t]? = some ((prV l.toArray[t / 2]!)[t % 2]!)
  | [], t, h => by simp at h
  | a :: l, 0, _ => by simp [flatP]
  | a :: l, 1, _ => by simp [flatP]
  | a :: l, t + 2, h => by
    have e1 : (t + 2) / 2 = t / 2 + 1 := by omega
    have e2 : (t + 2) % 2 = t % 2 := by omega
    have hl : t < l.length * 2 := by simp at h; omega
    have ih := flatP_get l t hl
    have hlt : t / 2 < l.length := by omega
    rw [e1, e2]
    have : ((a :: l).toArray)[t / 2 + 1]! = l.toArray[t / 2]! := by simp [hlt]
    rw [this, ← ih]
    simp [flatP]
theorem flatK_P (l : List (Int × Int)) : flatK prV 2 l.toArray = ((flatP l).map (Value.int .i64)).toArray := by
  apply Array.ext_getElem?
  intro t
  rcases Nat.lt_or_ge t (l.length * 2) with h | h
  · have := flatP_get l t h
    have e : (((flatP l).map (Value.int .i64)).toArray)[t]? = some ((prV l.toArray[t / 2]!)[t % 2]!) := by rw [List.getElem?_toArray]; exact this
    rw [e]
    simp [flatK, h]
  · rw [Array.getElem?_eq_none (by simpa using h), Array.getElem?_eq_none (by simp [flatP_len]; omega)]
theorem putCells_map (zs : List Int) (off : Nat) (c : Array Value) : putCells id off (zs.map (Value.int .i64)).toArray c = putCells (Value.int .i64) off zs.toArray c := by
  apply Array.ext_getElem?
  intro k
  simp only [putCells, Array.getElem?_mapIdx]
  congr 1
  funext x
  by_cases h : off ≤ k ∧ k < off + zs.length
  · have hk : k - off < zs.length := by omega
    simp [h, hk]
  · simp [h]
theorem sortWorldK_P (l : List (Int × Int)) (B o n : Nat) (os : Array Obj) : sortWorldK prV 2 w B o n l.toArray os = rowW w B o (flatP l) n os := by
  unfold sortWorldK putRowK rowW
  rw [flatK_P]
  unfold putRow
  congr 2
  funext c
  exact putCells_map _ _ _
theorem holdsK_P {B o : Nat} {l : List (Int × Int)} (h : Holds (Value.int .i64) w B o (flatP l).toArray) : HoldsK prV 2 w B o l.toArray := by
  unfold HoldsK
  rw [flatK_P]
  intro j hj
  have hj' : j < (flatP l).length := by simpa using hj
  obtain ⟨h1, h2⟩ := h j (by simpa using hj')
  refine ⟨?_, h2⟩
  rw [h1]
  simp [hj']
/-- A call of plain values, as the library's sort wants it told. -/
theorem PF.grows {f : FuncId} {bs : List AV} {n : Int} {vals : Array Value} (h : PF P f bs (.int .i64 n)) (ha : ArgsR (fun _ => False) [] w bs vals) :
    Calls P f vals w fun e w' => e = .returned (.int .i64 n) ∧ ∃ q os', w' = grow (w.drewN q) os' := by
  have hr0 : HR (fun _ => False) [] w [] := ⟨rfl, fun i j ei ej B h => by simp at h, fun i e B h => by simp at h, fun i e b h => by simp at h, fun B hB => hB.elim⟩
  refine (h.2.2.2 _ [] w vals hr0 ha).mono ?_
  rintro e w' ⟨v, rv, E', H', rfl, rfl, k1, k2, k3⟩
  cases k1
  refine ⟨rfl, w'.drawn - w.drawn, w'.heap.extract w.heap.size w'.heap.size, ?_⟩
  have hh : w'.heap = w.heap ++ w'.heap.extract w.heap.size w'.heap.size := by
    apply Array.ext_getElem?
    intro i
    have hs := k3.size
    rcases Nat.lt_or_ge i w.heap.size with hi | hi
    · rw [Array.getElem?_append_left hi]
      exact k3.keep i hi (fun ⟨e, he, _⟩ => by cases he)
    · rw [Array.getElem?_append_right hi, Array.getElem?_extract]
      have e1 : w.heap.size + (i - w.heap.size) = i := by omega
      rw [e1]
      by_cases hlt : i < w'.heap.size
      · rw [if_pos (by omega)]
      · rw [if_neg (by omega), Array.getElem?_eq_none (by omega)]
  have hd : w.drawn + (w'.drawn - w.drawn) = w'.drawn := by have := k3.draw; omega
  have a1 := k3.os
  have a2 := k3.tape
  have a3 := k3.output
  obtain ⟨hp, tp, dr, o, out⟩ := w'
  obtain ⟨hp0, tp0, dr0, o0, out0⟩ := w
  simp only at hh hd a1 a2 a3
  subst a1 a2 a3
  simp only [grow, World.drewN]
  rw [← hh, hd]
theorem cmpLays {gf : FuncId} {cf : Int × Int → Int × Int → Int} (h : ∀ x y, PF P gf [.agg (prA x), .agg (prA y)] (.int .i64 (cf x y))) (B o size : Nat) (w : World) : CmpLays P gf #[] prV 2 cf B o size w := by
  intro m os dk hs x y
  refine PF.grows (h x y) ⟨rfl, fun j hj hj' => ?_⟩
  have key : ∀ x : Int × Int, ∀ w', VR (fun _ => False) [] w' (.agg (prA x)) (.agg (prV x).toArray) := fun x w' => .agg _ _ rfl fun j hj hj' => by
    match j, hj with
    | 0, _ => exact .int .i64 x.1
    | 1, _ => exact .int .i64 x.2
  match j, hj with
  | 0, _ => exact key x _
  | 1, _ => exact key y _
theorem sortP_FT {f gf : FuncId} {cf : Int × Int → Int × Int → Int} (hcl : Callable P f) (hcmp : ∀ x y, PF P gf [.agg (prA x), .agg (prA y)] (.int .i64 (cf x y)))
    (hC : ∀ (blk off cap : Nat) (d : Array (Int × Int)) (w : World), CmpLays P gf #[] prV 2 cf blk off d.size w → HoldsK prV 2 w blk off d → blk < w.heap.size → d.size < 4611686018427387904 →
      Calls P f #[.slice (some ⟨blk, off, none⟩) d.size cap, .func (.func gf) #[] #[]] w fun e w' => e = .returned (.tuple #[]) ∧ ∃ d' n os, PermIn 0 d.size d d' ∧ SortedIn (ltOf cf) 0 d.size d' ∧ w' = sortWorldK prV 2 w blk off n d' os)
    {k g : Nat} {c : Bool} {l : List (Int × Int)} (h0 : 0 < l.length) (h : H[k]? = some (.cells g (l.map prA).flatten)) :
    FT P f [.loc k g 0 l.length 2 c, .fn (.func gf) [] []] H fun rv H' => rv = .tuple [] ∧ ∃ l' : List (Int × Int), l'.Perm l ∧ (∀ i j : Nat, i < j → j < l'.length → ltOf cf l'[j]! l'[i]! = false) ∧ H' = H.set k (.cells g (l'.map prA).flatten) := by
  rw [flat_flatP] at h
  refine ⟨hcl, fun X E w vals hr ha => ?_⟩
  have hv := ha.2 0 (by simp) (by rw [ha.1]; simp)
  have hv1 := ha.2 1 (by simp) (by rw [ha.1]; simp)
  simp only [List.getElem_cons_zero, List.getElem_cons_succ] at hv hv1
  obtain ⟨e, he, hloc⟩ := loc_inv hv
  have hb := hr.br k e _ he h
  obtain ⟨a, cap, hve, m1, m2, m3, m4⟩ := hloc hb.1.symm
  obtain ⟨B, hB, rfl, hroom⟩ := m4 (by omega)
  have hvf : vals[1]'(by rw [ha.1]; simp) = .func (.func gf) #[] #[] := by
    generalize vals[1]'(by rw [ha.1]; simp) = u at hv1
    cases hv1 with
    | fn _ _ _ fs' cs' q1 q2 q3 q4 =>
      have : fs' = #[] := Array.size_eq_zero_iff.1 (by simpa using q1)
      have : cs' = #[] := Array.size_eq_zero_iff.1 (by simpa using q2)
      subst fs' cs'
      rfl
  have hvals : vals = #[.slice (some ⟨B, e.base + 0, none⟩) l.length cap, .func (.func gf) #[] #[]] := by
    have hs := ha.1
    simp at hs
    apply Array.ext
    · simpa using hs
    · intro i h1 h2
      have h3 : i < 2 := by simpa using h2
      match i, h3 with
      | 0, _ => simpa using hve
      | 1, _ => simpa using hvf
  rw [hvals]
  have hH := hr.holds h he hB
  refine (hC B (e.base + 0) cap l.toArray w (cmpLays hcmp _ _ _ _) (holdsK_P (by simpa using hH)) (hr.own k e B he hb.2.1 hB).2 (by unfold maxA at m1; simp; omega)).mono ?_
  rintro e' w' ⟨rfl, d', n, os, ⟨p1, p2, p3⟩, hsort, rfl⟩
  obtain ⟨l', rfl⟩ : ∃ l' : List (Int × Int), d' = l'.toArray := ⟨d'.toList, by simp⟩
  have hlen : l'.length = l.length := by simpa using p1
  rw [sortWorldK_P]
  obtain ⟨k1, k2⟩ := hr.row' h he hB (ys := flatP l') (by rw [flatP_len, flatP_len, hlen]) n os
  refine ⟨_, .tuple [], E, _, rfl, ⟨rfl, l', ?_, fun i j hij hj => ?_, rfl⟩, undefR, ?_, k1⟩
  · have e1 : ∀ m : List (Int × Int), m.length = l.length → (m.toArray.extract 0 l.toArray.size).toList = m := by
      intro m hm
      rw [show l.toArray.size = m.toArray.size from by simp [hm]]
      simp
    rw [e1 l' hlen, e1 l rfl] at p3
    exact p3
  · have := hsort i j (Nat.zero_le _) hij (by simpa [hlen] using hj)
    simpa using this
  · rw [flat_flatP]
    exact k2
end Go.AM

namespace Go.AM
set_option linter.unusedVariables false
set_option linter.unusedSimpArgs false
variable {P : Program} {X : Nat → Prop} {E : Env} {w : World} {H : AHeap}
/-- A slice of block j, told as one of block s. -/
def mvV (j g s g' : Nat) : AV → AV
  | .loc i g1 off len sz c => if i = j ∧ g1 = g then .loc s g' off len sz c else .loc i g1 off len sz c
  | v => v
def mvB (j g s g' : Nat) : ABlk → ABlk
  | .dead g1 => .dead g1
  | .cells g1 cs => .cells g1 (cs.map (mvV j g s g'))
  | .map g1 es => .map g1 (es.map fun p => (mvV j g s g' p.1, mvV j g s g' p.2))
def mvT (j g s g' : Nat) (T : Tm) : Tm := T.map fun p => (p.1, mvV j g s g' p.2)
theorem mvT_get {j g s g' k : Nat} : ∀ {T : Tm}, (∃ v, T.get k = v ∧ (mvT j g s g' T).get k = mvV j g s g' v) ∨ (mvT j g s g' T).get k = .any
  | [] => .inr rfl
  | (d, v) :: T => by
    simp only [mvT, List.map_cons, Tm.get]
    split
    · exact .inl ⟨v, rfl, rfl⟩
    · exact mvT_get
theorem Wk.move {lo : Nat} {T : Tm} {H : AHeap} (j s : Nat) {g g0 : Nat} {cs : List AV} (hj : H[j]? = some (.cells g cs)) (hs : H[s]? = some (.dead g0)) :
    Wk lo T H (mvT j g s (g0 + 1) T) (((H.map (mvB j g s (g0 + 1))).set s (.cells (g0 + 1) (cs.map (mvV j g s (g0 + 1))))).set j (.dead g)) := by
  rintro X E0 w0 m a w hlo ⟨E, h1, h2, h3, h4⟩
  obtain ⟨ej, hej, bj⟩ := h2.ent hj
  obtain ⟨es, hes, bs⟩ := h2.ent hs
  obtain ⟨b1, b2, b3, b4⟩ := bj
  obtain ⟨c1, c2⟩ := bs
  have hjs : j ≠ s := fun h => by
    subst h
    rw [hj] at hs
    cases hs
  have lj := lt_of_get hej
  have ls := lt_of_get hes
  have lHj := lt_of_get hj
  have lHs := lt_of_get hs
  have key : ∀ (i : Nat) (e : Ent), ((E.set s ⟨g0 + 1, ej.blk, ej.base, ej.room, true⟩).set j { ej with live := false })[i]? = some e → (i = j ∧ e = { ej with live := false }) ∨ (i = s ∧ e = ⟨g0 + 1, ej.blk, ej.base, ej.room, true⟩) ∨ (i ≠ j ∧ i ≠ s ∧ E[i]? = some e) := by
    intro i e hi
    by_cases hij : j = i
    · subst hij
      rw [List.getElem?_set_self (by simpa using lj)] at hi
      injection hi with hi
      exact .inl ⟨rfl, hi.symm⟩
    · rw [List.getElem?_set_ne hij] at hi
      by_cases his : s = i
      · subst his
        rw [List.getElem?_set_self ls] at hi
        injection hi with hi
        exact .inr (.inl ⟨rfl, hi.symm⟩)
      · rw [List.getElem?_set_ne his] at hi
        exact .inr (.inr ⟨fun h => hij h.symm, fun h => his h.symm, hi⟩)
  have ga : ((E.set s ⟨g0 + 1, ej.blk, ej.base, ej.room, true⟩).set j { ej with live := false })[j]? = some { ej with live := false } := List.getElem?_set_self (by simpa using lj)
  have gs : ((E.set s ⟨g0 + 1, ej.blk, ej.base, ej.room, true⟩).set j { ej with live := false })[s]? = some ⟨g0 + 1, ej.blk, ej.base, ej.room, true⟩ := by
    rw [List.getElem?_set_ne hjs, List.getElem?_set_self ls]
  have go : ∀ (i : Nat), i ≠ j → i ≠ s → ((E.set s ⟨g0 + 1, ej.blk, ej.base, ej.room, true⟩).set j { ej with live := false })[i]? = E[i]? := fun i h1 h2 => by
    rw [List.getElem?_set_ne (fun h => h1 h.symm), List.getElem?_set_ne (fun h => h2 h.symm)]
  have hev : Ev E w ((E.set s ⟨g0 + 1, ej.blk, ej.base, ej.room, true⟩).set j { ej with live := false }) w := by
    refine ⟨rfl, rfl, rfl, Nat.le_refl _, fun _ _ _ => rfl, fun B hB => ?_, fun i e hi => ?_, Nat.le_refl _⟩
    · obtain ⟨e, he, q1, q2⟩ := hB
      obtain ⟨i, hi, rfl⟩ := List.getElem_of_mem he
      rcases key i _ (List.getElem?_eq_getElem hi) with ⟨_, q⟩ | ⟨_, q⟩ | ⟨_, _, q⟩
      · rw [q] at q1; cases q1
      · rw [q] at q2
        exact .inl ⟨ej, List.mem_of_getElem? hej, b2, q2⟩
      · exact .inl ⟨_, List.mem_of_getElem? q, q1, q2⟩
    · by_cases hij : i = j
      · subst hij
        rw [hej] at hi
        injection hi with hi
        subst hi
        exact ⟨_, ga, Nat.le_refl _, fun _ => ⟨rfl, rfl, rfl⟩⟩
      · by_cases his : i = s
        · subst his
          rw [hes] at hi
          injection hi with hi
          subst hi
          exact ⟨_, gs, by show es.gen ≤ g0 + 1; omega, fun h => by have h : es.gen = g0 + 1 := h; omega⟩
        · exact ⟨e, by rw [go i hij his]; exact hi, Nat.le_refl _, fun _ => ⟨rfl, rfl, rfl⟩⟩
  have hv : ∀ {v : AV} {u : Value}, VR X E w v u → VR X ((E.set s ⟨g0 + 1, ej.blk, ej.base, ej.room, true⟩).set j { ej with live := false }) w (mvV j g s (g0 + 1) v) u := by
    intro v u h
    cases v with
    | loc i g1 off len sz c =>
      simp only [mvV]
      split
      · rename_i hc
        obtain ⟨rfl, rfl⟩ := hc
        cases h with
        | loc _ _ _ _ _ _ e _ he q1 hg q2 =>
          rw [hej] at he
          injection he with he
          subst he
          refine .loc _ _ _ _ _ _ _ _ gs q1 (Nat.le_refl _) (fun _ => ?_)
          exact q2 b1.symm
      · exact h.mono hev
    | _ => exact h.mono hev
  refine ⟨_, h1.trans hev, ⟨by simp [h2.len], fun i k ei ek B q1 q2 q3 q4 q5 q6 => ?_, fun i e B q1 q2 q3 => ?_, fun i e b q1 q2 => ?_, h2.bound⟩, ⟨fun k => ?_⟩, h4⟩
  · rcases key i ei q1 with ⟨_, r⟩ | ⟨r1, r⟩ | ⟨r1, r2, r⟩
    · rw [r] at q3; cases q3
    · rcases key k ek q2 with ⟨_, t⟩ | ⟨t1, t⟩ | ⟨t1, t2, t⟩
      · rw [t] at q4; cases q4
      · rw [r1, t1]
      · rw [r] at q5
        exact absurd (h2.inj k j ek ej B t hej q4 b2 q6 q5) t1
    · rcases key k ek q2 with ⟨_, t⟩ | ⟨t1, t⟩ | ⟨t1, t2, t⟩
      · rw [t] at q4; cases q4
      · rw [t] at q6
        exact absurd (h2.inj i j ei ej B r hej q3 b2 q5 q6) r1
      · exact h2.inj i k ei ek B r t q3 q4 q5 q6
  · rcases key i e q1 with ⟨_, r⟩ | ⟨_, r⟩ | ⟨_, _, r⟩
    · rw [r] at q2; cases q2
    · rw [r] at q3
      exact h2.own j ej B hej b2 q3
    · exact h2.own i e B r q2 q3
  · rcases key i e q1 with ⟨rfl, rfl⟩ | ⟨rfl, rfl⟩ | ⟨r1, r2, r⟩
    · rw [List.getElem?_set_self (by simpa using lHj)] at q2
      injection q2 with q2
      subst q2
      exact ⟨b1, rfl⟩
    · rw [List.getElem?_set_ne hjs, List.getElem?_set_self (by simpa using lHs)] at q2
      injection q2 with q2
      subst q2
      refine ⟨rfl, rfl, fun h => by rw [b3 h]; rfl, fun B hB => ?_⟩
      obtain ⟨arr, t, lo, hi', k1, k2, k3, k4, k5⟩ := b4 B hB
      refine ⟨arr, t, lo, hi', k1, k2, by simpa using k3, k4, fun x hx => ?_⟩
      obtain ⟨u, u1, u2⟩ := k5 x (by simpa using hx)
      refine ⟨u, u1, ?_⟩
      simp only [List.getElem_map]
      exact hv u2
    · rw [List.getElem?_set_ne (fun h => r1 h.symm), List.getElem?_set_ne (fun h => r2 h.symm), List.getElem?_map] at q2
      cases hHi : H[i]? with
      | none => rw [hHi] at q2; cases q2
      | some b0 =>
        rw [hHi] at q2
        injection q2 with q2
        subst q2
        have hb0 := h2.br i e b0 r hHi
        cases b0 with
        | dead g' => exact hb0
        | cells g' cs' =>
          obtain ⟨d1, d2, d3, d4⟩ := hb0
          refine ⟨d1, d2, fun h => by rw [d3 h]; rfl, fun B hB => ?_⟩
          obtain ⟨arr, t, lo, hi', k1, k2, k3, k4, k5⟩ := d4 B hB
          refine ⟨arr, t, lo, hi', k1, k2, by simpa using k3, k4, fun x hx => ?_⟩
          obtain ⟨u, u1, u2⟩ := k5 x (by simpa using hx)
          refine ⟨u, u1, ?_⟩
          simp only [List.getElem_map]
          exact hv u2
        | map g' es =>
          obtain ⟨d1, d2, B, ents, clock, k1, k2, k3, k4, k5⟩ := hb0
          refine ⟨d1, d2, B, ents, clock, k1, k2, by simpa using k3, fun x hx hx' => ?_, k5⟩
          have := k4 x (by simpa using hx) hx'
          simp only [List.getElem_map]
          exact ⟨hv this.1, hv this.2⟩
  · rcases mvT_get (j := j) (g := g) (s := s) (g' := g0 + 1) (k := k) (T := T) with ⟨v, hv', hf⟩ | hf
    · rw [hf]
      have := h3.rel k
      rw [hv'] at this
      exact hv this
    · rw [hf]
      exact .any _
end Go.AM

namespace Go.AM
set_option linter.unusedVariables false
set_option linter.unusedSimpArgs false
theorem Wk.leT {lo : Nat} {T T' : Tm} {H : AHeap} (n : Nat) (h : al (fun p => leP n (T.get p.1) p.2) T') : Wk lo T H T' H := by
  rintro X E0 w0 m a w hlo ⟨E, h1, h2, h3, h4⟩
  refine ⟨E, h1, h2, ⟨fun k => ?_⟩, h4⟩
  rcases get_mem (T := T') (k := k) with e | ⟨p, hp, rfl, e⟩
  · rw [e]
    exact .any _
  · rw [e]
    exact (h3.rel p.1).le n (al_mem h p hp)
end Go.AM
