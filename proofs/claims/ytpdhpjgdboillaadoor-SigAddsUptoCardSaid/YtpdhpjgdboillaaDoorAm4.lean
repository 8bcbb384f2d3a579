/- The abstract machine, part 30: what comes in, by the program's types. -/
import Derived.Test.YtpdhpjgdboillaaDoorAm3
import Derived.OpenShut
namespace Go.AM
set_option linter.unusedVariables false
set_option linter.unusedSimpArgs false
variable {P : Program} {w : World}

theorem no_agg {W : World} {base : Nat} {t : TypeId} {xs : Array Value} (h : Cell.okWide P W .any base t (.agg xs)) : False := by
  unfold Cell.okWide Cell.ok at h
  split at h <;> first | (split at h <;> simp_all; done) | simp_all
theorem wide_agg {W : World} {base : Nat} {t : TypeId} {v : Value} (h : Value.okWide P W .any base t v) : wideT P t = true ↔ ∃ xs, v = .agg xs := by
  unfold Value.okWide at h
  unfold wideT
  split at h
  · rename_i fs hu
    obtain ⟨cs, rfl, _⟩ := h
    simp [hu]
  · rename_i n e hu
    obtain ⟨cs, rfl, _⟩ := h
    simp [hu]
  · rename_i h1 h2
    constructor
    · intro hw
      exfalso
      split at hw
      · rename_i n e hu; exact h2 n e hu
      · rename_i fs hu; exact h1 fs hu
      · cases hw
    · rintro ⟨xs, rfl⟩
      exact (no_agg h).elim
/-- What an argument is, by its type. -/
def Ty.arg (ty : Ty) (wide : Bool) (a : AV) : Prop := if wide then ∃ as, a = .agg as ∧ ty.is as else ty.is [a]
theorem trod_argW {H : Type} {enc : TypeId × Value → H} {base b2 : Nat} {sp : Nat → Bool} {held : Bool} {B : DataW H → Nat} (hB : Bulk B) (ty : Ty) {t : TypeId} {v : Value} {d : DataW H} {ps : List MemPlace} (wide : Bool) (hw : wideT P t = wide) (h1 : wide = true ∨ ty.size = 1) (hf : ty.fits P t = true)
    (hok : Value.okWide P w .any b2 t v) (h : DataW.Trod enc P w base sp held t v d ps) (hb : B d ≤ lim) :
    ∃ a, ty.arg wide a ∧ RL 0 a ∧ VR (fun _ => False) [] w a v := by
  obtain ⟨fuel, h⟩ := h
  obtain ⟨as, k1, k2, k3, k4⟩ := trod_is hB ty t fuel _ (d, ps) hf h hb
  subst hw
  by_cases hw : wideT P t = true
  · obtain ⟨xs, rfl⟩ := (wide_agg hok).1 hw
    refine ⟨.agg as, by simp only [Ty.arg, hw, if_true]; exact ⟨as, rfl, k1⟩, by simpa using k4, ?_⟩
    refine .agg as xs (by simpa [Value.cells] using k2.1) (fun j hj hj' => ?_)
    have := k2.2 j hj (by simpa [Value.cells] using hj')
    simpa [Value.cells] using this
  · have hn : ¬ ∃ xs, v = .agg xs := fun h => hw ((wide_agg hok).2 h)
    have hc := cells_toList_one hn
    rw [hc] at k2
    have hs := h1.resolve_left hw
    match as, k1, k2, k3, k4 with
    | [a], k1, k2, k3, k4 => exact ⟨a, by simp only [Ty.arg, hw]; exact k1, k4 a (by simp), k2.2 0 (by simp) (by simp)⟩
    | [], _, k2, _, _ => have := k2.1; simp at this
    | _ :: _ :: _, _, k2, _, _ => have := k2.1; simp at this

/-! ### The program's types -/
def tySigs : Ty := .slice (.struct [.str, .str])
def tyInts : Ty := .slice (.int .i64)
def tyIntss : Ty := .slice (.slice (.int .i64))
def tyKeyed : Ty := .struct [tyIntss, tyInts]
def sigsFit (l : List Sg) : Prop := l.length ≤ lim ∧ ∀ s ∈ l, s.name.size ≤ lim ∧ s.args.size ≤ lim
def intsFit (l : List Int) : Prop := l.length ≤ lim ∧ ∀ n ∈ l, (Lit.int .i64 n).wf = true
def intssFit (l : List (List Int)) : Prop := l.length ≤ lim ∧ ∀ k ∈ l, intsFit k
def kdFit (a : Kd) : Prop := intssFit a.keys ∧ intsFit a.slots
theorem is_sigs {as : List AV} (h : tySigs.is as) : ∃ l : List Sg, as = [sigs l] ∧ sigsFit l := by
  simp only [tySigs, Ty.is, Ty.isL] at h
  obtain ⟨e1, rfl, hl1, hs1⟩ := h
  obtain ⟨l, rfl, hl⟩ := is_rows (f := fun s : Sg => [AV.str s.name, AV.str s.args]) (p := fun s => s.name.size ≤ lim ∧ s.args.size ≤ lim) (fun z hz => by
    obtain ⟨_, _, rfl, ⟨s1, rfl, k1⟩, _, _, rfl, ⟨s2, rfl, k2⟩, rfl⟩ := hz
    exact ⟨⟨s1, s2⟩, rfl, k1, k2⟩) hs1
  exact ⟨l, rfl, by simpa using hl1, hl⟩
theorem is_ints {as : List AV} (h : tyInts.is as) : ∃ l : List Int, as = [ints l] ∧ intsFit l := by
  simp only [tyInts, Ty.is] at h
  obtain ⟨e1, rfl, hl1, hs1⟩ := h
  obtain ⟨l, rfl, hl⟩ := is_rows (f := fun n : Int => [i64 n]) (p := fun n => (Lit.int .i64 n).wf = true) (fun u hu => hu) hs1
  exact ⟨l, rfl, by simpa using hl1, hl⟩
theorem is_intss {as : List AV} (h : tyIntss.is as) : ∃ l : List (List Int), as = [intss l] ∧ intssFit l := by
  have h' : ∃ es, as = [.rows false tyInts.size es] ∧ es.length ≤ lim ∧ ∀ x ∈ es, tyInts.is x := by simpa [tyIntss, tyInts, Ty.is] using h
  obtain ⟨e1, rfl, hl1, hs1⟩ := h'
  obtain ⟨l, rfl, hl⟩ := is_rows (f := fun k : List Int => [ints k]) (p := intsFit) (fun u hu => is_ints hu) hs1
  exact ⟨l, rfl, by simpa using hl1, hl⟩
theorem is_keyed {as : List AV} (h : tyKeyed.is as) : ∃ a : Kd, as = a.cs ∧ kdFit a := by
  simp only [tyKeyed, Ty.is, Ty.isL] at h
  obtain ⟨_, _, rfl, h1, _, _, rfl, h2, rfl⟩ := h
  obtain ⟨ks, rfl, k1⟩ := is_intss h1
  obtain ⟨sl, rfl, k2⟩ := is_ints h2
  exact ⟨⟨ks, sl⟩, rfl, k1, k2⟩
theorem is_int {k : IntKind} {as : List AV} (h : (Ty.int k).is as) : ∃ n : Int, as = [.int k n] ∧ (Lit.int k n).wf = true := h
theorem is_str {as : List AV} (h : Ty.str.is as) : ∃ s : ByteArray, as = [.str s] ∧ s.size ≤ lim := h
theorem sigsFit.args {l : List Sg} (h : sigsFit l) (i : Nat) (hi : i < l.length) : (gi l i).args.size ≤ maxA := by
  have := (h.2 (gi l i) (by simp [gi, List.getD, hi])).2
  unfold lim at this
  unfold maxA
  omega
theorem kdFit.many {a : Kd} (h : kdFit a) : a.keys.length ≤ 1048576 := h.1.1
theorem kdFit.keys {a : Kd} (h : kdFit a) (i : Nat) (hi : i < a.keys.length) : (gi a.keys i).length ≤ maxA := by
  have := (h.1.2 (gi a.keys i) (by simp [gi, List.getD, hi])).1
  unfold lim at this
  unfold maxA
  omega
end Go.AM

namespace Go.AM
set_option linter.unusedVariables false
set_option linter.unusedSimpArgs false
variable {P : Program} {lo : Nat} {K : AEx → Tm → AHeap → Prop} {T : Tm} {H : AHeap}
/-- What a body needs to know of what follows it. -/
structure Shut (KK K : AEx → Tm → AHeap → Prop) : Prop where
  exit : ∀ id, KK (.exit id) = K (.exit id)
  ret : KK .ret = K .ret
theorem run_loopK {a : ACode} (I : Nat → Tm → AHeap → Prop) (n : Nat) (T' : Tm) (H' : AHeap) (hw : Wk lo T H T' H') (hi : I n T' H')
    (h : ∀ n T H, I n T H → ∀ KK, (∀ id, KK (.exit id) = K (.exit id)) → KK .ret = K .ret → (∀ T H, Kl lo I n K .normal T H → KK .normal T H) → run P lo a KK T H) : run P lo (.loop a) K T H :=
  run_loop I n T' H' hw hi fun n T H hI => h n T H hI _ (fun _ => rfl) rfl (fun _ _ h => h)
theorem run_countK {a : ACode} (N t : Nat) (B : Tm) (H0 : AHeap) (φ : Nat → Prop) (hw : Wk lo T H ((t, i64 0) :: B) H0) (h0 : φ 0)
    (h : ∀ i : Nat, i ≤ N → φ i → ∀ KK, (∀ id, KK (.exit id) = K (.exit id)) → KK .ret = K .ret → (∀ T H, Kn lo N t B H0 φ i K .normal T H → KK .normal T H) → run P lo a KK ((t, i64 i) :: B) H0) : run P lo (.loop a) K T H :=
  run_count N t B H0 φ hw h0 fun i hi hf => h i hi hf _ (fun _ => rfl) rfl (fun _ _ h => h)
theorem run_markT (T' : Tm) (H' : AHeap) (hw : Wk lo T H T' H') (h : K .normal T' H') : run P lo .mark K T H := ⟨T', H', hw, h⟩
/-- A state that several ways lead to. -/
theorem by_way {A B : Prop} (h : (Unit → A) → B) (ha : A) : B := h fun _ => ha
end Go.AM

namespace Go.AM
set_option linter.unusedVariables false
set_option linter.unusedSimpArgs false
variable {P : Program}
theorem FT.take {f : FuncId} {as : List AV} {H : AHeap} {R R' : AV → AHeap → Prop} (h : FT P f as H R') (hR : ∀ rv H', R' rv H' → RL H.length rv ∧ (∀ b ∈ H'.take H.length, RLB H.length b) ∧ R rv (H'.take H.length)) : FT P f as H R := by
  refine ⟨h.1, fun X E w vals hr ha => (h.2 X E w vals hr ha).mono ?_⟩
  rintro e w' ⟨v, rv, E', H', k1, k2, k3, k4, k5⟩
  obtain ⟨r1, r2, r3⟩ := hR rv H' k2
  exact ⟨v, rv, E'.take H.length, H'.take H.length, k1, r3, k3.take _ r1, k4.take _ r2, k5.take _ (by rw [hr.len]; exact Nat.le_refl _)⟩
/-- What a function leaves in its caller's heap. -/
theorem FTt {an : An} {f : FuncId} {fn : Func} {af : AFn} {args : List AV} {H : AHeap} {R : AV → AHeap → Prop} (hm : P.follows .mixedOrders = true) (hf : P.funcs[f]? = some fn) (hc : cFn P an fn = some af) (hn : args.length ≤ af.n)
    (h : run P H.length af.code (Kend af.res fun rv H' => RL H.length rv ∧ (∀ b ∈ H'.take H.length, RLB H.length b) ∧ R rv (H'.take H.length)) (argsT 0 args) H) : FT P f args H R :=
  (FTk hm hf hc hn h).take fun _ _ h => h
abbrev u8s (l : List Int) : AV := .rows false 1 (l.map fun n => [.int .u8 n])
def bl (s : ByteArray) : List Int := s.data.toList.map fun b => (b.toNat : Int)
@[simp] theorem aS2b_bl {s : ByteArray} : aS2b (.str s) = if s.size ≤ maxA then some (u8s (bl s)) else none := by
  have e : s.data.toList.map (fun b => [AV.int .u8 (b.toNat : Int)]) = (bl s).map fun n => [AV.int .u8 n] := by
    unfold bl
    rw [List.map_map]
    rfl
  simp only [aS2b, e]
theorem bl_len (s : ByteArray) : (bl s).length = s.size := by simp [bl]
theorem bl_gi (s : ByteArray) (i : Int) : gi (bl s) i = byte s i := by
  unfold gi byte bl
  by_cases h : i.toNat < s.size
  · simp [List.getD, Array.getD, h]
  · simp [List.getD, Array.getD, h]
theorem byte_range (s : ByteArray) (i : Int) : 0 ≤ byte s i ∧ byte s i < 256 := by
  unfold byte
  have := (s.data.getD i.toNat 0).toNat_lt
  omega
end Go.AM
