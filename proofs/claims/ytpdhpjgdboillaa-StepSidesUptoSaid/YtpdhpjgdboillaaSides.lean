/- The row of StepSides, from its law's contract. -/
import Derived.Test.YtpdhpjgdboillaaRows
import Derived.Test.YtpdhpjgdboillaaF3
import Derived.WalkKit
import Derived.ProofKit
import Derived.OpenShut
import Derived.JoinedCond
namespace Go.Proofs.Ytpdhpjgdboillaa.stepSides
open Go.ChangeShapes Go.WideShapes Go.ChangeAt Go.RowKit Go.AM
set_option linter.unusedVariables false
set_option linter.unusedSimpArgs false

theorem own : ownKnob Try.prog.godebug = none := by kernel_rfl
theorem laidOut : laidOutB Try.prog = true := by kernel_rfl

theorem part_le {H : Type} {d : DataW H} {l : List (DataW H)} (h : d ∈ l) : Rows.uptoBulk d ≤ Rows.uptoBulkAll l := by
  induction l with
  | nil => cases h
  | cons x r ih =>
    simp only [Rows.uptoBulkAll]
    cases List.mem_cons.1 h with
    | inl e => subst e; omega
    | inr e => have := ih e; omega
theorem one_le {H : Type} (d : DataW H) : 1 ≤ Rows.uptoBulk d := by
  cases d with
  | lit l => cases l <;> simp [Rows.uptoBulk]
  | _ => simp [Rows.uptoBulk]
theorem length_le {H : Type} (l : List (DataW H)) : l.length ≤ Rows.uptoBulkAll l := by
  induction l with
  | nil => simp [Rows.uptoBulkAll]
  | cons x r ih => have := one_le x; simp only [Rows.uptoBulkAll, List.length_cons]; omega
theorem bulk {H : Type} : Bulk (Rows.uptoBulk (H := H)) where
  str bs := by simp [Rows.uptoBulk]
  len es sp := by have := length_le es; simp only [Rows.uptoBulk]; omega
  el es sp e h := by have := part_le h; simp only [Rows.uptoBulk]; omega
  part ps p h := by have := part_le h; simp only [Rows.uptoBulk]; omega

def tyIn : Ty := .struct [.slice (.struct [.str, .str]), .struct [.slice (.slice (.int .i64)), .slice (.int .i64)], .int .i64, .int .i64]

theorem contract (H : Type) (enc : TypeId × Value → H) (W : World) (base : Nat) (args : Array Value) (ds gs : List (DataW H)) (before : List MemPlace)
    (hval : ∀ (j : Nat) t v, Try.f3.params[j]? = some t → args[j]? = some v → Value.okWide Try.prog W .any base t v)
    (hW : DataW.Whole enc Try.prog Try.f3.params.toList Rows.stepSidesSpec.vars false W args.toList ds gs before) (hk : Rows.uptoSmall H (ds ++ gs) = true) :
    Calls Try.prog 3 args W fun e W' => ∃ v, e = .returned v ∧ Rows.stepSidesSpec.post enc Try.prog Try.f3 false true false false W args v W' := by
  have hW' := hW
  obtain ⟨p, q, hA0, hV, rfl, hfz, hnd⟩ := hW
  have hA : DataW.TrodAll enc Try.prog W 0 (fun _ => true) true Try.f3.params.toList args.toList ds p := hA0
  rw [Try.params3] at hA hval
  obtain ⟨v0, vs0, d0, ds0, p0, q0, hargs, rfl, rfl, h0, r0⟩ := trodAll_cons hA
  obtain ⟨rfl, rfl, rfl⟩ := trodAll_nil r0
  obtain rfl : args = #[v0] := by cases args; simp_all
  obtain ⟨rfl, rfl⟩ := trodVars_none hV
  have lt0 : ∀ x ∈ p0, x.block < W.heap.size := by obtain ⟨m, hm⟩ := h0; exact DataW.trod_lt m _ _ _ hm
  clear hA0
  simp only [List.append_nil] at hW' hk
  have hb0 : Rows.uptoBulk d0 ≤ lim := by
    have h : Rows.uptoBulkAll [d0] ≤ 1048576 := of_decide_eq_true hk
    simp only [Rows.uptoBulkAll] at h
    unfold lim
    omega
  obtain ⟨cz, his, hrl, hvr⟩ := trod_argS bulk tyIn (by kernel_rfl) (by decide) h0 hb0
  simp only [tyIn, Ty.is, Ty.isL] at his
  obtain ⟨_, _, rfl, ⟨e1, rfl, hl1, hs1⟩, _, _, rfl, ⟨_, _, rfl, ⟨e2, rfl, hl2, hs2⟩, _, _, rfl, ⟨e3, rfl, hl3, hs3⟩, rfl⟩, _, _, rfl, ⟨x, rfl, wx⟩, _, _, rfl, ⟨y, rfl, wy⟩, rfl⟩ := his
  obtain ⟨l, rfl, hl⟩ := is_rows (f := fun s : Sg => [AV.str s.name, AV.str s.args]) (p := fun s => s.name.size ≤ lim ∧ s.args.size ≤ lim) (fun z hz => by
    obtain ⟨_, _, rfl, ⟨s1, rfl, k1⟩, _, _, rfl, ⟨s2, rfl, k2⟩, rfl⟩ := hz
    exact ⟨⟨s1, s2⟩, rfl, k1, k2⟩) hs1
  obtain ⟨ks, rfl, hks⟩ := is_rows (f := fun k : List Int => [ints k]) (p := fun k => k.length ≤ lim) (fun z hz => by
    obtain ⟨es, rfl, k1, k2⟩ := hz
    obtain ⟨zs, rfl, hz⟩ := is_rows (f := fun n : Int => [i64 n]) (p := fun n => (Lit.int .i64 n).wf = true) (fun u hu => hu) k2
    exact ⟨zs, rfl, by simpa using k1⟩) hs2
  obtain ⟨sl, rfl, hsl⟩ := is_rows (f := fun n : Int => [i64 n]) (p := fun n => (Lit.int .i64 n).wf = true) (fun u hu => hu) hs3
  have q1 : ∀ i : Nat, i < l.length → (gi l i).args.size ≤ maxA := fun i hi => by
    have := (hl (gi l i) (by simp [gi, List.getD, hi])).2
    unfold lim at this
    unfold maxA
    omega
  have q2 : ks.length ≤ 1048576 := by simpa [lim] using hl2
  have q3 : ∀ i : Nat, i < ks.length → (gi ks i).length ≤ maxA := fun i hi => by
    have := hks (gi ks i) (by simp [gi, List.getD, hi])
    unfold lim at this
    unfold maxA
    omega
  refine (FT.plain (law3_PF l ⟨ks, sl⟩ x y q1 q2 q3) (vals := #[v0]) ⟨rfl, fun j hj hj' => ?_⟩).mono ?_
  · simp at hj
    subst hj
    exact hvr
  rintro e W' ⟨v, rfl, hv, bel⟩
  obtain rfl := hv true rfl
  exact ⟨_, rfl, _, _, _, [], _, [], hW', trodAll_mk1 (shut_bool Try.underlying4 _), (trodAll_cons_mk (Below.trod laidOut (by kernel_rfl) (of_decide_eq_true (by kernel_rfl)) h0 bel lt0) trodAll_mk0), rfl, bel.frame _, fun h => by cases h⟩

set_option maxRecDepth 100000 in
theorem lifted (os : Os) (started : os.Started) (H : Type) (enc : TypeId × Value → H) (F : Stop.Interp) :
    ReturnsInHanded {} Try.checked os 3 .any ((Rows.OpenSpec.upto Rows.stepSidesSpec).pre6 enc Try.prog Try.f3 Rows.stepSidesUptoRow.domain false) (((Rows.OpenSpec.upto Rows.stepSidesSpec).at F).post enc Try.prog Try.f3 false true false false) := by
  refine returnsInHanded_of_cond (C := Try.checked) (s := Rows.OpenSpec.upto Rows.stepSidesSpec) (k := Rows.uptoSmall) rfl own started (by kernel_rfl) Try.func3
    (OpenSpec.witness (enc := enc) (C := Try.checked) (s := Rows.OpenSpec.upto Rows.stepSidesSpec) (k := Rows.uptoSmall) rfl false ⟨#[], #[.agg #[.slice none 0 0, .slice none 0 0, .slice none 0 0, .int .i64 0, .int .i64 0]], []⟩ 8 (by kernel_rfl) (by kernel_rfl) (by kernel_rfl)
      (x := ([.agg [.nil, .agg [.nil, .nil], .lit (.int .i64 0), .lit (.int .i64 0)]], [], [])) (by kernel_rfl) rfl (by kernel_rfl)) ?_
  intro W base args ds gs before hval hW _ hk _
  exact contract H enc W base args ds gs before hval hW hk

theorem proved : Rows.StepSidesUptoSaid :=
  OpenClaim.holds_of_cond 3 Try.f3 rfl rfl rfl rfl rfl rfl rfl ⟨rfl, rfl, rfl, rfl, rfl⟩ rfl rfl rfl rfl rfl (by kernel_rfl) Try.func3 (by kernel_rfl)
    (of_decide_eq_true (by kernel_rfl)) (by unfold Func.isWrapper; first | (rw [if_pos (by decide +kernel)]; kernel_rfl) | (rw [if_neg (by decide +kernel)]; exact ⟨rfl, rfl⟩))
    (fun os started H enc _ F => lifted os started H enc F)
end Go.Proofs.Ytpdhpjgdboillaa.stepSides
