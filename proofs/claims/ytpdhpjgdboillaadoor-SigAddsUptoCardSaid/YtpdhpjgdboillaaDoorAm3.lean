/- The abstract machine, part 22: other tellings of a state; equations for walks. -/
import Derived.Test.YtpdhpjgdboillaaDoorAm2
import Derived.Laws.BitsLemmas
import Derived.ProofKit
import Derived.Below
namespace Go.AM
set_option linter.unusedVariables false
set_option linter.unusedSimpArgs false
variable {P : Program}

/-! ### Other tellings -/
theorem Wk.refl (lo : Nat) (T : Tm) (H : AHeap) : Wk lo T H T H := fun _ _ _ _ _ _ _ h => h
theorem Wk.trans {lo : Nat} {T T' T'' : Tm} {H H' H'' : AHeap} (h : Wk lo T H T' H') (k : Wk lo T' H' T'' H'') : Wk lo T H T'' H'' :=
  fun X E0 w0 n a w hlo hs => k X E0 w0 n a w hlo (h X E0 w0 n a w hlo hs)
theorem get_mem : ∀ {T : Tm} {k : Nat}, T.get k = .any ∨ ∃ p ∈ T, p.1 = k ∧ T.get k = p.2
  | [], k => .inl rfl
  | (d, v) :: T, k => by
    simp only [Tm.get]
    split
    · rename_i h
      exact .inr ⟨(d, v), by simp, h, rfl⟩
    · rcases get_mem (T := T) (k := k) with h | ⟨p, h1, h2, h3⟩
      · exact .inl h
      · exact .inr ⟨p, by simp [h1], h2, h3⟩
/-- Fewer temporaries. -/
theorem Wk.sub {lo : Nat} {T T' : Tm} {H : AHeap} (h : ∀ p ∈ T', T.get p.1 = p.2) : Wk lo T H T' H := by
  rintro X E0 w0 n a w hlo ⟨E, h1, h2, h3, h4⟩
  refine ⟨E, h1, h2, h3.sub fun k => ?_, h4⟩
  rcases get_mem (T := T') (k := k) with h' | ⟨p, q1, q2, q3⟩
  · exact .inl h'
  · refine .inr ?_
    rw [q3, ← h p q1, q2]
/-- Fewer blocks. -/
theorem Wk.trunc {lo : Nat} {T : Tm} {H : AHeap} (n : Nat) (hlo : lo ≤ n) (hT : ∀ p ∈ T, RL n p.2) (hH : ∀ b ∈ H.take n, RLB n b) : Wk lo T H T (H.take n) := by
  rintro X E0 w0 m a w hlo' ⟨E, h1, h2, h3, h4⟩
  refine ⟨E.take n, h1.take n (by omega), h2.take n hH, ⟨fun k => ?_⟩, h4⟩
  rcases get_mem (T := T) (k := k) with h' | ⟨p, q1, q2, q3⟩
  · rw [h']; exact .any _
  · have := h3.rel k
    rw [q3] at this ⊢
    exact this.take n (hT p q1)
theorem Wk.to {lo : Nat} {T T' : Tm} {H H' : AHeap} (n : Nat) (hlo : lo ≤ n) (h1 : ∀ p ∈ T', T.get p.1 = p.2) (h2 : ∀ p ∈ T', RL n p.2) (h3 : H.take n = H') (h4 : ∀ b ∈ H', RLB n b) : Wk lo T H T' H' := by
  subst h3
  exact (Wk.sub h1).trans (Wk.trunc n hlo h2 h4)
/-- A nil slice as one of the call's own. -/
theorem Wk.nil {lo : Nat} {T : Tm} {H : AHeap} (t sz : Nat) (h : T.get t = .nilS) : Wk lo T H ((t, .loc H.length 0 0 0 sz false) :: T) (H ++ [.cells 0 []]) := by
  rintro X E0 w0 n a w hlo ⟨E, h1, h2, h3, h4⟩
  have hev : Ev E w (E ++ [⟨0, none, 0, 0, true⟩]) w := by
    refine ⟨rfl, rfl, rfl, Nat.le_refl _, fun _ _ _ => rfl, fun B hB => ?_, fun i e he => ⟨e, ?_, Nat.le_refl _, fun _ => ⟨rfl, rfl, rfl⟩⟩⟩
    · rcases Own.app.1 hB with h | ⟨e, he, _, hb⟩
      · exact .inl h
      · simp at he; subst he; cases hb
    · rw [List.getElem?_append_left (lt_of_get he)]; exact he
  have hr : HR X (E ++ [⟨0, none, 0, 0, true⟩]) w (H ++ [.cells 0 []]) := by
    have last : ∀ (i : Nat) (e : Ent), (E ++ [⟨0, none, 0, 0, true⟩])[i]? = some e → E[i]? = some e ∨ (i = E.length ∧ e = ⟨0, none, 0, 0, true⟩) := by
      intro i e he
      rcases Nat.lt_or_ge i E.length with h' | h'
      · rw [List.getElem?_append_left h'] at he; exact .inl he
      · rw [List.getElem?_append_right h'] at he
        rcases Nat.eq_zero_or_pos (i - E.length) with h0 | h0
        · rw [h0] at he; simp at he; exact .inr ⟨by omega, he.symm⟩
        · rw [List.getElem?_eq_none (by simp; omega)] at he; cases he
    refine ⟨by simp [h2.len], fun i j ei ej B q1 q2 q3 q4 q5 q6 => ?_, fun i e B q1 q2 q3 => ?_, fun i e b q1 q2 => ?_, h2.bound⟩
    · rcases last i ei q1 with q1 | ⟨_, rfl⟩
      · rcases last j ej q2 with q2 | ⟨_, rfl⟩
        · exact h2.inj i j ei ej B q1 q2 q3 q4 q5 q6
        · cases q6
      · cases q5
    · rcases last i e q1 with q1 | ⟨_, rfl⟩
      · exact h2.own i e B q1 q2 q3
      · cases q3
    · rcases last i e q1 with q1 | ⟨hi, rfl⟩
      · rw [List.getElem?_append_left (by rw [← h2.len]; exact lt_of_get q1)] at q2
        exact (h2.br i e b q1 q2).mono hev (fun _ _ _ => rfl)
      · subst hi
        rw [h2.len, List.getElem?_append_right (Nat.le_refl _)] at q2
        simp at q2
        subst q2
        exact ⟨rfl, rfl, fun _ => rfl, fun B hB => by cases hB⟩
  refine ⟨_, h1.trans hev, hr, ⟨fun k => ?_⟩, h4⟩
  simp only [Tm.get]
  split
  · rename_i hk
    subst hk
    have := h3.rel t
    rw [h] at this
    have hv : a.tmps.getD t undef = .slice none 0 0 := by generalize a.tmps.getD t undef = u at this; cases this; rfl
    rw [hv]
    exact .loc _ _ _ _ _ _ ⟨0, none, 0, 0, true⟩ _ (by rw [← h2.len]; simp) rfl (Nat.le_refl _) (fun _ => ⟨none, 0, rfl, by simp, Nat.le_refl _, fun _ => rfl, fun h => absurd rfl h⟩)
  · exact (h3.rel k).mono hev

/-! ### Equations -/
def ob {α : Type} (x : Option α) (K : α → Prop) : Prop :=
  match x with
  | some a => K a
  | none => False
@[simp] theorem ob_some {α : Type} (a : α) (K : α → Prop) : ob (some a) K = K a := rfl
@[simp] theorem ob_none {α : Type} (K : α → Prop) : ob none K = False := rfl
@[simp] theorem ob_ite {α : Type} {c : Prop} [Decidable c] (x y : Option α) (K : α → Prop) : ob (if c then x else y) K = if c then ob x K else ob y K := by split <;> rfl
@[simp] theorem ob_map {α β : Type} (f : α → β) (x : Option α) (K : β → Prop) : ob (x.map f) K = ob x fun a => K (f a) := by cases x <;> rfl

/-! What follows, shut until the value is there. -/
def obK (x : Option AV) (K : Tm → AHeap → Prop) (T : Tm) (dst : Option Nat) (H : AHeap) : Prop := ob x fun v => K (put T dst v) H
@[simp] theorem obK_some {v K T dst H} : obK (some v) K T dst H = K (put T dst v) H := rfl
@[simp] theorem obK_none {K T dst H} : obK none K T dst H = False := rfl
@[simp] theorem obK_ite {c : Prop} [Decidable c] {x y K T dst H} : obK (if c then x else y) K T dst H = if c then obK x K T dst H else obK y K T dst H := by split <;> rfl
def obP (x : Option (AV × AHeap)) (K : Tm → AHeap → Prop) (T : Tm) (dst : Option Nat) : Prop := ob x fun p => K (put T dst p.1) p.2
@[simp] theorem obP_some {v H K T dst} : obP (some (v, H)) K T dst = K (put T dst v) H := rfl
@[simp] theorem obP_none {K T dst} : obP none K T dst = False := rfl
@[simp] theorem obP_ite {c : Prop} [Decidable c] {x y K T dst} : obP (if c then x else y) K T dst = if c then obP x K T dst else obP y K T dst := by split <;> rfl
def obH (x : Option AHeap) (K : Tm → AHeap → Prop) (T : Tm) (dst : Option Nat) : Prop := ob x fun H' => K (put T dst .any) H'
@[simp] theorem obH_some {H K T dst} : obH (some H) K T dst = K (put T dst .any) H := rfl
@[simp] theorem obH_none {K T dst} : obH none K T dst = False := rfl
@[simp] theorem obH_ite {c : Prop} [Decidable c] {x y K T dst} : obH (if c then x else y) K T dst = if c then obH x K T dst else obH y K T dst := by split <;> rfl
def obL (x : Option Int) (A : Prop) (K : Tm → AHeap → Prop) (T : Tm) (dst : Option Nat) (H : AHeap) : Prop := ob x fun n => A → K (put T dst (.int .i64 n)) H
@[simp] theorem obL_some {n A K T dst H} : obL (some n) A K T dst H = (A → K (put T dst (.int .i64 n)) H) := rfl
@[simp] theorem obL_none {A K T dst H} : obL none A K T dst H = False := rfl
@[simp] theorem obL_ite {c : Prop} [Decidable c] {x y A K T dst H} : obL (if c then x else y) A K T dst H = if c then obL x A K T dst H else obL y A K T dst H := by split <;> rfl
def obS (x : Option (Bool → Prop)) (d neg : Bool) (K : Tm → AHeap → Prop) (T : Tm) (dst : Option Nat) (H : AHeap) : Prop := ob x fun p => d = false ∧ ∀ b, p b → K (put T dst (.bool (b != neg))) H
@[simp] theorem obS_some {p d neg K T dst H} : obS (some p) d neg K T dst H = (d = false ∧ ∀ b, p b → K (put T dst (.bool (b != neg))) H) := rfl
@[simp] theorem obS_none {d neg K T dst H} : obS none d neg K T dst H = False := rfl

/-- An element, by its place. -/
def gi {α : Type} [Inhabited α] (l : List α) (i : Int) : α := l.getD i.toNat default

def aIa (sz : Nat) (H : AHeap) (x i : AV) : Option AV :=
  match x with
  | .rows _ sz' es => match aindex es.length i with
    | some k => if sz' = sz then (match es[k]? with | some e => some (.rptr e) | none => none) else none
    | none => none
  | .loc j g off len sz' _ => match aindex len i with
    | some k => if sz' = sz ∧ alive H j g = true then some (.ptr j g (off + k * sz)) else none
    | none => none
  | _ => none
def aIarr (len sz : Nat) (H : AHeap) (x i : AV) : Option AV :=
  match aindex len i with
  | some k => match x with
    | .ptr j g o => if alive H j g then some (.ptr j g (o + k * sz)) else none
    | .rptr cs => some (.rptr (cs.drop (k * sz)))
    | _ => none
  | none => none
def aIdx (len sz : Nat) (agg : Bool) (x i : AV) : Option AV :=
  match aindex len i with
  | some k => match x with
    | .agg cs => apart sz agg cs (k * sz)
    | _ => none
  | none => none
def aIdxs (x i : AV) : Option AV :=
  match x with
  | .str s => match aindex s.size i with
    | some k => some (.int .u8 (s.data.getD k 0).toNat)
    | none => none
  | _ => none
def aFa (off : Nat) (H : AHeap) (x : AV) : Option AV :=
  match x with
  | .ptr i g o => if alive H i g then some (.ptr i g (o + off)) else none
  | .rptr cs => some (.rptr (cs.drop off))
  | _ => none
def aFld (off n : Nat) (agg : Bool) (x : AV) : Option AV :=
  match x with
  | .agg cs => apart n agg cs off
  | _ => none
def aNot (x : AV) : Option AV := match x with | .bool b => some (.bool (!b)) | _ => none
def aNeg (x : AV) : Option AV := match x with | .int k n => some (.int k (k.wrap (0 - n))) | _ => none
def aCint (k : IntKind) (x : AV) : Option AV := match x with | .int _ n => some (.int k (k.wrap n)) | _ => none
def aCid (x : AV) : Option AV := match x with | .str s => some (.str s) | _ => none
def aExt (x : AV) (i : Nat) : Option AV := match x with | .tuple vs => vs[i]? | _ => none
def aLens (x : AV) : Option Int := match x with | .str s => some (s.size : Int) | _ => none
def aPick (c a b : AV) : Option AV := match c with | .bool t => some (if t then a else b) | _ => none
def aMx (x y : AV) : Option AV := match x, y with | .int k a, .int k' b => if k = k' then some (.int k (if b > a then b else a)) else none | _, _ => none
def aMn (x y : AV) : Option AV := match x, y with | .int k a, .int k' b => if k = k' then some (.int k (if b < a then b else a)) else none | _, _ => none
def aNilc (H : AHeap) (x : AV) : Option AV := match x with
  | .ptr i g o => if alive H i g then some (.ptr i g o) else none
  | .rptr cs => some (.rptr cs)
  | .fn (.func f) a b => some (.fn (.func f) a b)
  | _ => none
def aEqa (neg agg : Bool) (ks : List LK) (x y : AV) : Option AV := match cellsK agg ks x, cellsK agg ks y with
  | some cs, some ds => some (.bool (leavesA cs ds != neg))
  | _, _ => none
def aB2s (H : AHeap) (x : AV) : Option AV := match elems H x with
  | some (_, es) => match bytesA es with
    | some bs => some (.str ⟨bs.toArray⟩)
    | none => none
  | none => none
def aS2b (x : AV) : Option AV := match x with | .str s => if s.size ≤ maxA then some (.rows false 1 (s.data.toList.map fun b => [.int .u8 b.toNat])) else none | _ => none
def aSlstr (ρ : Opd → AV) (x : AV) (lo hi : Option Opd) : Option AV := match x with
  | .str s => match abound ρ s.size s.size hi with
    | some h => match abound ρ h 0 lo with
      | some l => some (.str (s.extract l h))
      | none => none
    | none => none
  | _ => none
def aMksl (sz bytes : Nat) (zero : List AV) (H : AHeap) (len cap : AV) : Option (AV × AHeap) := match len, cap with
  | .int _ l, .int _ c => if 0 ≤ l ∧ l ≤ c ∧ c * bytes ≤ limB ∧ c ≤ maxA then
      some (.loc H.length 0 0 l.toNat sz false, H ++ [.cells 0 (List.replicate l.toNat zero).flatten]) else none
  | _, _ => none

variable {d : Bool} {dst : Option Nat} {g : Option (Nat × Bool)} {K : Tm → AHeap → Prop} {T : Tm} {H : AHeap} {x y z : Opd}
@[simp] theorem rI_mov : runIns P d ⟨dst, .mov x, g⟩ K T H = K (put T dst (x.ev T)) H := by simp [runIns, apre, aop, asm]
@[simp] theorem rI_pick : runIns P d ⟨dst, .pick z x y, g⟩ K T H = obK (aPick (z.ev T) (x.ev T) (y.ev T)) K T dst H := by
  simp only [runIns, apre, true_implies, aop, asm, aPick]; cases z.ev T <;> simp
@[simp] theorem rI_alloc {cs : List AV} : runIns P d ⟨dst, .alloc cs, g⟩ K T H = K (put T dst (.ptr H.length 0 0)) (H ++ [.cells 0 cs]) := by simp [runIns, apre, aop, asm]
@[simp] theorem rI_box : runIns P d ⟨dst, .box x, g⟩ K T H = obP ((x.ev T).cells.map fun cs => (.ptr H.length 0 0, H ++ [.cells 0 cs])) K T dst := by
  simp only [runIns, apre, true_implies, aop, asm]; cases (x.ev T).cells <;> simp
@[simp] theorem rI_build {cs : List AV} {ps} : runIns P d ⟨dst, .build cs ps, g⟩ K T H = obK ((bldParts (Opd.ev T) cs ps).map .agg) K T dst H := by
  simp only [runIns, apre, true_implies, aop, asm]; cases bldParts (Opd.ev T) cs ps <;> simp
@[simp] theorem rI_bslice {sz len cs ps} : runIns P d ⟨dst, .bslice sz len cs ps, g⟩ K T H = obK ((bslParts (Opd.ev T) sz (List.replicate len cs) ps).map (.rows true sz)) K T dst H := by
  simp only [runIns, apre, true_implies, aop, asm]; cases bslParts (Opd.ev T) sz (List.replicate len cs) ps <;> simp
@[simp] theorem rI_bsloc {sz len cs ps} : runIns P d ⟨dst, .bsloc sz len cs ps, g⟩ K T H = obP ((bslParts (Opd.ev T) sz (List.replicate len cs) ps).map fun v => (.loc H.length 0 0 len sz false, H ++ [.cells 0 v.flatten])) K T dst := by
  simp only [runIns, apre, true_implies, aop, asm]; cases bslParts (Opd.ev T) sz (List.replicate len cs) ps <;> simp
@[simp] theorem rI_load {n agg} : runIns P d ⟨dst, .load n agg x, g⟩ K T H = obK (aload n agg H (x.ev T)) K T dst H := by
  simp only [runIns, apre, true_implies, aop, asm]; cases aload n agg H (x.ev T) <;> simp
@[simp] theorem rI_store {n} : runIns P d ⟨dst, .store n x y, g⟩ K T H = obH (astore n H (x.ev T) (y.ev T)) K T dst := by
  simp only [runIns, apre, true_implies, aop, asm]; cases astore n H (x.ev T) (y.ev T) <;> simp
@[simp] theorem rI_bin {op} : runIns P d ⟨dst, .bin op x y, g⟩ K T H = obK (abin op (x.ev T) (y.ev T)) K T dst H := by
  simp only [runIns, apre, true_implies, aop, asm]; cases abin op (x.ev T) (y.ev T) <;> simp
@[simp] theorem rI_not : runIns P d ⟨dst, .not x, g⟩ K T H = obK (aNot (x.ev T)) K T dst H := by
  simp only [runIns, apre, true_implies, aop, asm, aNot]; cases x.ev T <;> simp
@[simp] theorem rI_neg : runIns P d ⟨dst, .neg x, g⟩ K T H = obK (aNeg (x.ev T)) K T dst H := by
  simp only [runIns, apre, true_implies, aop, asm, aNeg]; cases x.ev T <;> simp
@[simp] theorem rI_cint {k} : runIns P d ⟨dst, .cint k x, g⟩ K T H = obK (aCint k (x.ev T)) K T dst H := by
  simp only [runIns, apre, true_implies, aop, asm, aCint]; cases x.ev T <;> simp
@[simp] theorem rI_cid : runIns P d ⟨dst, .cid x, g⟩ K T H = obK (aCid (x.ev T)) K T dst H := by
  simp only [runIns, apre, true_implies, aop, asm, aCid]; cases x.ev T <;> simp
@[simp] theorem rI_b2s : runIns P d ⟨dst, .b2s x, g⟩ K T H = obK (aB2s H (x.ev T)) K T dst H := by
  simp only [runIns, apre, true_implies, aop, asm, aB2s]
  cases h1 : elems H (x.ev T) with
  | none => simp
  | some p => obtain ⟨a, b⟩ := p; simp; cases h2 : bytesA b <;> simp
@[simp] theorem rI_s2b : runIns P d ⟨dst, .s2b x, g⟩ K T H = obK (aS2b (x.ev T)) K T dst H := by
  simp only [runIns, apre, true_implies, aop, asm, aS2b]
  cases x.ev T <;> simp
  rename_i s
  by_cases h : s.size ≤ maxA <;> simp [h]
@[simp] theorem rI_mkif {t} : runIns P d ⟨dst, .mkif t x, g⟩ K T H = K (put T dst (.iface t (x.ev T))) H := by simp [runIns, apre, aop, asm]
@[simp] theorem rI_mkfn {f xs ys} : runIns P d ⟨dst, .mkfn f xs ys, g⟩ K T H = K (put T dst (.fn f (xs.map (Opd.ev T)) (ys.map (Opd.ev T)))) H := by simp [runIns, apre, aop, asm]
@[simp] theorem rI_mkmap : runIns P d ⟨dst, .mkmap, g⟩ K T H = K (put T dst (.mapr H.length 0)) (H ++ [.map 0 []]) := by simp [runIns, apre, aop, asm]
@[simp] theorem rI_mksl {sz bytes cs} : runIns P d ⟨dst, .mksl sz bytes cs x y, g⟩ K T H = obP (aMksl sz bytes cs H (x.ev T) (y.ev T)) K T dst := by
  simp only [runIns, apre, true_implies, aop, asm, aMksl]
  cases x.ev T <;> simp
  cases y.ev T <;> simp
  rename_i l _ c
  by_cases hc : 0 ≤ l ∧ l ≤ c ∧ c * bytes ≤ limB ∧ c ≤ maxA
  · simp only [if_pos hc, ob_some]
    simp [hc]
  · simp only [if_neg hc, ob_none]
    simp
    intro a b c' d'
    exact absurd ⟨a, b, c', d'⟩ hc
theorem rI_slc {sz lo hi mx} : runIns P d ⟨dst, .slc sz x lo hi mx, g⟩ K T H = obK (aslc H (Opd.ev T) sz x lo hi mx) K T dst H := by
  simp only [runIns, apre, true_implies, aop, asm]; cases aslc H (Opd.ev T) sz x lo hi mx <;> simp
@[simp] theorem rI_slstr {lo hi} : runIns P d ⟨dst, .slstr x lo hi, g⟩ K T H = obK (aSlstr (Opd.ev T) (x.ev T) lo hi) K T dst H := by
  simp only [runIns, apre, true_implies, aop, asm, aSlstr]
  cases x.ev T <;> simp
  rename_i s
  cases h1 : abound (Opd.ev T) s.size s.size hi with
  | none => simp
  | some h => simp; cases h2 : abound (Opd.ev T) h 0 lo <;> simp
@[simp] theorem rI_fa {off} : runIns P d ⟨dst, .fa off x, g⟩ K T H = obK (aFa off H (x.ev T)) K T dst H := by
  simp only [runIns, apre, true_implies, aop, asm, aFa]; cases x.ev T <;> simp
  rename_i i g' o
  by_cases hc : alive H i g' = true <;> simp [hc]
@[simp] theorem rI_fld {off n agg} : runIns P d ⟨dst, .fld off n agg x, g⟩ K T H = obK (aFld off n agg (x.ev T)) K T dst H := by
  simp only [runIns, apre, true_implies, aop, asm, aFld]; cases x.ev T <;> simp
  rename_i cs
  cases apart n agg cs off <;> simp
@[simp] theorem rI_ia {sz} : runIns P d ⟨dst, .ia sz x y, g⟩ K T H = obK (aIa sz H (x.ev T) (y.ev T)) K T dst H := by
  simp only [runIns, apre, true_implies, aop, asm, aIa]; cases x.ev T <;> simp
  · rename_i c sz' es
    cases h1 : aindex es.length (y.ev T) with
    | none => simp
    | some k =>
      simp only
      by_cases hc : sz' = sz
      · simp only [if_pos hc]; cases h2 : es[k]? <;> simp
      · simp [hc]
  · rename_i i g' off len sz' c
    cases h1 : aindex len (y.ev T) with
    | none => simp
    | some k =>
      simp only
      by_cases hc : sz' = sz ∧ alive H i g' = true
      · simp [hc]
      · simp only [if_neg hc]
        simp
@[simp] theorem rI_iarr {len sz} : runIns P d ⟨dst, .iarr len sz x y, g⟩ K T H = obK (aIarr len sz H (x.ev T) (y.ev T)) K T dst H := by
  simp only [runIns, apre, true_implies, aop, asm, aIarr]
  cases h1 : aindex len (y.ev T) with
  | none => simp
  | some k =>
    simp only
    cases x.ev T <;> simp
    rename_i i g' o
    by_cases hc : alive H i g' = true <;> simp [hc]
@[simp] theorem rI_idx {len sz agg} : runIns P d ⟨dst, .idx len sz agg x y, g⟩ K T H = obK (aIdx len sz agg (x.ev T) (y.ev T)) K T dst H := by
  simp only [runIns, apre, true_implies, aop, asm, aIdx]
  cases h1 : aindex len (y.ev T) with
  | none => simp
  | some k =>
    simp only
    cases x.ev T <;> simp
    rename_i cs
    cases apart sz agg cs (k * sz) <;> simp
@[simp] theorem rI_idxs : runIns P d ⟨dst, .idxs x y, g⟩ K T H = obK (aIdxs (x.ev T) (y.ev T)) K T dst H := by
  simp only [runIns, apre, true_implies, aop, asm, aIdxs]
  cases x.ev T <;> simp
  rename_i s
  cases h1 : aindex s.size (y.ev T) <;> simp
@[simp] theorem rI_ext {i} : runIns P d ⟨dst, .ext x i, g⟩ K T H = obK (aExt (x.ev T) i) K T dst H := by
  simp only [runIns, apre, true_implies, aop, asm, aExt]
  cases x.ev T <;> simp
  rename_i vs
  cases vs[i]? <;> simp
@[simp] theorem rI_len : runIns P d ⟨dst, .len x, g⟩ K T H = obL (alen H (x.ev T)) (alenOk (x.ev T)) K T dst H := by
  simp only [runIns, apre, true_implies, aop, asm]; cases alen H (x.ev T) <;> simp
@[simp] theorem rI_lens : runIns P d ⟨dst, .lens x, g⟩ K T H = obL (aLens (x.ev T)) (alenOk (x.ev T)) K T dst H := by
  simp only [runIns, apre, true_implies, aop, asm, aLens]
  cases x.ev T <;> simp
@[simp] theorem rI_appc {sz bytes} : runIns P d ⟨dst, .appc sz bytes x y, g⟩ K T H = obP (aappc sz bytes H (x.ev T) (y.ev T)) K T dst := by
  simp only [runIns, apre, true_implies, aop, asm]
  cases h : aappc sz bytes H (x.ev T) (y.ev T) with
  | none => simp
  | some p =>
    obtain ⟨a, b⟩ := p
    simp
@[simp] theorem rI_app {sz bytes} : runIns P d ⟨dst, .app sz bytes x y, g⟩ K T H = (preLen H (x.ev T) → preLen H (y.ev T) → obP (aapp sz bytes H (x.ev T) (y.ev T)) K T dst) := by
  simp only [runIns, apre, true_implies, aop, asm]
  cases h : aapp sz bytes H (x.ev T) (y.ev T) with
  | none => simp [h]
  | some p =>
    obtain ⟨a, b⟩ := p
    simp [h]
@[simp] theorem rI_mx : runIns P d ⟨dst, .mx x y, g⟩ K T H = obK (aMx (x.ev T) (y.ev T)) K T dst H := by
  simp only [runIns, apre, true_implies, aop, asm, aMx]
  cases x.ev T <;> simp
  cases y.ev T <;> simp
  rename_i k a k' b
  by_cases hc : k = k' <;> simp [hc]
@[simp] theorem rI_mn : runIns P d ⟨dst, .mn x y, g⟩ K T H = obK (aMn (x.ev T) (y.ev T)) K T dst H := by
  simp only [runIns, apre, true_implies, aop, asm, aMn]
  cases x.ev T <;> simp
  cases y.ev T <;> simp
  rename_i k a k' b
  by_cases hc : k = k' <;> simp [hc]
@[simp] theorem rI_nilc : runIns P d ⟨dst, .nilc x, g⟩ K T H = obK (aNilc H (x.ev T)) K T dst H := by
  simp only [runIns, apre, true_implies, aop, asm, aNilc]
  cases x.ev T <;> simp
  · rename_i i g' o
    by_cases hc : alive H i g' = true <;> simp [hc]
  · rename_i f a b
    cases f <;> simp
@[simp] theorem rI_eqa {neg agg ks} : runIns P d ⟨dst, .eqa neg agg ks x y, g⟩ K T H = obK (aEqa neg agg ks (x.ev T) (y.ev T)) K T dst H := by
  simp only [runIns, apre, true_implies, aop, asm, aEqa]
  cases cellsK agg ks (x.ev T) <;> simp
  cases cellsK agg ks (y.ev T) <;> simp
@[simp] theorem rI_isnil {neg k} : runIns P d ⟨dst, .isnil neg k x, g⟩ K T H = obK ((nilD k (x.ev T)).map fun b => .bool (b != neg)) K T dst H := by
  simp only [runIns, apre, true_implies, aop, asm]
  cases nilD k (x.ev T) <;> simp
@[simp] theorem rI_snil {neg} : runIns P d ⟨dst, .snil neg x, g⟩ K T H = obS (snilP H (x.ev T)) d neg K T dst H := by
  simp only [runIns]
  cases snilP H (x.ev T) <;> simp
@[simp] theorem rI_lkp {agg ks df ok} : runIns P d ⟨dst, .lkp agg ks df x y ok, g⟩ K T H = obK (alkp agg ks df ok H (x.ev T) (y.ev T)) K T dst H := by
  simp only [runIns, apre, true_implies, aop, asm]; cases alkp agg ks df ok H (x.ev T) (y.ev T) <;> simp
@[simp] theorem rI_upd {agg ks} : runIns P d ⟨dst, .upd agg ks x y z, g⟩ K T H = obH (aupd agg ks H (x.ev T) (y.ev T) (z.ev T)) K T dst := by
  simp only [runIns, apre, true_implies, aop, asm]; cases aupd agg ks H (x.ev T) (y.ev T) (z.ev T) <;> simp
/-- What follows a call: shut, until it is opened by its name. -/
def Kc (K : Tm → AHeap → Prop) (dst : Option Nat) (T : Tm) (rv : AV) (H : AHeap) : Prop := K (put T dst rv) H
@[simp] theorem rI_callF {f as} : runIns P false ⟨dst, .call f as, g⟩ K T H = ob (callArgs T f as) fun p => FT P p.1 p.2 H (Kc K dst T) := by
  simp only [runIns]; cases callArgs T f as <;> simp <;> rfl
@[simp] theorem rI_callT {f as} : runIns P true ⟨dst, .call f as, g⟩ K T H = ob (callArgs T f as) fun p => ∃ r, PF P p.1 p.2 r ∧ Kc K dst T r H := by
  simp only [runIns]; cases callArgs T f as <;> simp <;> rfl

@[simp] theorem runOps_nil : runOps P d [] K T H = K T H := rfl
@[simp] theorem runOps_cons {op is} : runOps P d (⟨dst, op, none⟩ :: is) K T H = runIns P d ⟨dst, op, none⟩ (runOps P d is K) T H := rfl
/-- Two ways, by a truth. -/
def gsplit (b : Bool) (A B : Prop) : Prop := (b = true → A) ∧ (b = false → B)
@[simp ↓] theorem gsplit_true {A B : Prop} : gsplit true A B = A := by simp [gsplit]
@[simp ↓] theorem gsplit_false {A B : Prop} : gsplit false A B = B := by simp [gsplit]
@[simp] theorem gsplit_eq {b : Bool} {A B : Prop} : gsplit b A B = ((b = true → A) ∧ (b = false → B)) := rfl
/-- A guarded operation, once the guard is there. -/
def gdo (v : AV) (P : Program) (d : Bool) (dst : Option Nat) (op : AOp) (gg : Nat) (want : Bool) (is : List AIns) (K : Tm → AHeap → Prop) (T : Tm) (H : AHeap) : Prop :=
  match v with
  | .bool b => (b = want → runIns P d ⟨dst, op, some (gg, want)⟩ (runOps P d is K) ((gg, .bool want) :: T) H) ∧ (b ≠ want → runOps P d is K (put ((gg, .bool (!want)) :: T) dst (.tuple [])) H)
  | .tuple vs => vs = [] ∧ runOps P d is K (put T dst (.tuple [])) H
  | _ => False
@[simp] theorem runOps_guard {op is gg want} : runOps P d (⟨dst, op, some (gg, want)⟩ :: is) K T H = gdo (T.get gg) P d dst op gg want is K T H := rfl
@[simp high] theorem gdo_tt {op is gg} : gdo (.bool true) P d dst op gg true is K T H = runIns P d ⟨dst, op, some (gg, true)⟩ (runOps P d is K) ((gg, .bool true) :: T) H := by simp [gdo]
@[simp high] theorem gdo_ff {op is gg} : gdo (.bool false) P d dst op gg false is K T H = runIns P d ⟨dst, op, some (gg, false)⟩ (runOps P d is K) ((gg, .bool false) :: T) H := by simp [gdo]
@[simp high] theorem gdo_tf {op is gg} : gdo (.bool true) P d dst op gg false is K T H = runOps P d is K (put ((gg, .bool true) :: T) dst (.tuple [])) H := by simp [gdo]
@[simp high] theorem gdo_ft {op is gg} : gdo (.bool false) P d dst op gg true is K T H = runOps P d is K (put ((gg, .bool false) :: T) dst (.tuple [])) H := by simp [gdo]
@[simp low] theorem gdo_T {b op is gg} : gdo (.bool b) P d dst op gg true is K T H = ((b = true → runIns P d ⟨dst, op, some (gg, true)⟩ (runOps P d is K) ((gg, .bool true) :: T) H) ∧ (b = false → runOps P d is K (put ((gg, .bool false) :: T) dst (.tuple [])) H)) := by
  cases b <;> simp [gdo]
@[simp low] theorem gdo_F {b op is gg} : gdo (.bool b) P d dst op gg false is K T H = ((b = true → runOps P d is K (put ((gg, .bool true) :: T) dst (.tuple [])) H) ∧ (b = false → runIns P d ⟨dst, op, some (gg, false)⟩ (runOps P d is K) ((gg, .bool false) :: T) H)) := by
  cases b <;> simp [gdo]
@[simp] theorem gdo_skip {op is gg want} : gdo (.tuple []) P d dst op gg want is K T H = runOps P d is K (put T dst (.tuple [])) H := by simp [gdo]

/-! ### Code -/
section
variable {lo : Nat} {K : AEx → Tm → AHeap → Prop}
@[simp] theorem run_skip : run P lo .skip K T H = K .normal T H := rfl
theorem run_mark : run P lo .mark K T H = ∃ T' H', Wk lo T H T' H' ∧ K .normal T' H' := rfl
@[simp] theorem run_reg {d ops} : run P lo (.reg d ops) K T H = runOps P d ops (K .normal) T H := rfl
def Ks (P : Program) (lo : Nat) (b : ACode) (K : AEx → Tm → AHeap → Prop) : AEx → Tm → AHeap → Prop
  | .normal => run P lo b K
  | e => K e
def Kb (id : Nat) (K : AEx → Tm → AHeap → Prop) : AEx → Tm → AHeap → Prop
  | .exit id' => if id' = id then K .normal else K (.exit id')
  | e => K e
@[simp] theorem run_seq {a b} : run P lo (.seq a b) K T H = run P lo a (Ks P lo b K) T H := by
  simp only [run]
  congr 1
/-- Two ways, once the truth is there. -/
def cdo (v : AV) (P : Program) (lo : Nat) (a b : ACode) (K : AEx → Tm → AHeap → Prop) (T : Tm) (H : AHeap) : Prop :=
  match v with
  | .bool t => (t = true → run P lo a K T H) ∧ (t = false → run P lo b K T H)
  | _ => False
@[simp] theorem run_cond {c a b} : run P lo (.cond c a b) K T H = cdo (c.ev T) P lo a b K T H := rfl
@[simp high] theorem cdo_t {a b} : cdo (.bool true) P lo a b K T H = run P lo a K T H := by simp [cdo]
@[simp high] theorem cdo_f {a b} : cdo (.bool false) P lo a b K T H = run P lo b K T H := by simp [cdo]
@[simp low] theorem cdo_b {t a b} : cdo (.bool t) P lo a b K T H = ((t = true → run P lo a K T H) ∧ (t = false → run P lo b K T H)) := rfl
@[simp] theorem run_block {id a} : run P lo (.block id a) K T H = run P lo a (Kb id K) T H := by
  simp only [run]
  congr 1
@[simp] theorem run_exit {id} : run P lo (.exit id) K T H = K (.exit id) T H := rfl
@[simp] theorem run_ret : run P lo .ret K T H = K .ret T H := rfl
@[simp] theorem Ks_normal {b} : Ks P lo b K .normal = run P lo b K := rfl
@[simp] theorem Ks_exit {b id} : Ks P lo b K (.exit id) = K (.exit id) := rfl
@[simp] theorem Ks_ret {b} : Ks P lo b K .ret = K .ret := rfl
@[simp] theorem Kb_normal {id} : Kb id K .normal = K .normal := rfl
@[simp] theorem Kb_exit {id id'} : Kb id K (.exit id') = if id' = id then K .normal else K (.exit id') := rfl
@[simp] theorem Kb_ret {id} : Kb id K .ret = K .ret := rfl
/-- What follows a round. -/
def Kl (lo : Nat) (I : Nat → Tm → AHeap → Prop) (n : Nat) (K : AEx → Tm → AHeap → Prop) : AEx → Tm → AHeap → Prop
  | .normal => fun T' H' => ∃ m T'' H'', m < n ∧ Wk lo T' H' T'' H'' ∧ I m T'' H''
  | e => K e
@[simp] theorem Kl_exit {I n id} : Kl lo I n K (.exit id) = K (.exit id) := rfl
@[simp] theorem Kl_ret {I n} : Kl lo I n K .ret = K .ret := rfl
theorem run_loop {a} (I : Nat → Tm → AHeap → Prop) (n : Nat) (T' : Tm) (H' : AHeap) (hw : Wk lo T H T' H') (hi : I n T' H') (h : ∀ n T H, I n T H → run P lo a (Kl lo I n K) T H) : run P lo (.loop a) K T H := by
  refine ⟨I, n, ⟨T', H', hw, hi⟩, fun n T H hI => ?_⟩
  have := h n T H hI
  exact Eq.mp (congrArg (fun q => run P lo a q T H) (funext (fun e => by cases e <;> rfl))) this
end

theorem FT.monoK {f : FuncId} {as : List AV} {H : AHeap} {R R' : AV → AHeap → Prop} (hR : ∀ rv H', R rv H' → R' rv H') (h : FT P f as H R) : FT P f as H R' := h.mono hR
theorem runIns_mono {d : Bool} {i : AIns} {K K' : Tm → AHeap → Prop} (hK : ∀ T H, K T H → K' T H) {T : Tm} {H : AHeap} (h : runIns P d i K T H) : runIns P d i K' T H := by
  unfold runIns at *
  split at h
  · split at h
    · exact ⟨h.1, fun b hb => hK _ _ (h.2 b hb)⟩
    · exact h
  · split at h
    · split at h
      · rename_i hd
        obtain ⟨r, h1, h2⟩ := h
        rw [if_pos hd]
        exact ⟨r, h1, hK _ _ h2⟩
      · rename_i hd
        rw [if_neg hd]
        exact h.monoK (fun rv H' => hK _ _)
    · exact h
  · intro hp
    have h := h hp
    split at h
    · exact fun ha => hK _ _ (h ha)
    · exact h
theorem runOps_mono {d : Bool} : ∀ {is : List AIns} {K K' : Tm → AHeap → Prop}, (∀ T H, K T H → K' T H) → ∀ {T : Tm} {H : AHeap}, runOps P d is K T H → runOps P d is K' T H
  | [], K, K', hK, T, H, h => hK _ _ h
  | i :: is, K, K', hK, T, H, h => by
    simp only [runOps] at h ⊢
    split at h
    · exact runIns_mono (fun T H => runOps_mono hK) h
    · split at h
      · exact ⟨fun hb => runIns_mono (fun T H => runOps_mono hK) (h.1 hb), fun hb => runOps_mono hK (h.2 hb)⟩
      · exact ⟨h.1, runOps_mono hK h.2⟩
      · exact h
theorem run_mono {lo : Nat} : ∀ {c : ACode} {K K' : AEx → Tm → AHeap → Prop}, (∀ e T H, K e T H → K' e T H) → ∀ {T : Tm} {H : AHeap}, run P lo c K T H → run P lo c K' T H
  | .skip, K, K', hK, T, H, h => hK _ _ _ h
  | .mark, K, K', hK, T, H, h => by
    obtain ⟨T', H', h1, h2⟩ := h
    exact ⟨T', H', h1, hK _ _ _ h2⟩
  | .reg d ops, K, K', hK, T, H, h => runOps_mono (hK _) h
  | .seq a b, K, K', hK, T, H, h => by
    rw [run_seq] at h ⊢
    refine run_mono (fun e T H h => ?_) h
    cases e with
    | normal => exact run_mono hK h
    | exit id => exact hK _ _ _ h
    | ret => exact hK _ _ _ h
  | .cond c a b, K, K', hK, T, H, h => by
    simp only [run] at h ⊢
    split at h
    · exact ⟨fun ht => run_mono hK (h.1 ht), fun ht => run_mono hK (h.2 ht)⟩
    · exact h
  | .block id a, K, K', hK, T, H, h => by
    rw [run_block] at h ⊢
    refine run_mono (fun e T H h => ?_) h
    cases e with
    | normal => exact hK _ _ _ h
    | exit id' =>
      simp only [Kb_exit] at h ⊢
      split at h
      · rename_i hid; rw [if_pos hid]; exact hK _ _ _ h
      · rename_i hid; rw [if_neg hid]; exact hK _ _ _ h
    | ret => exact hK _ _ _ h
  | .loop a, K, K', hK, T, H, h => by
    obtain ⟨I, n, hI, hr⟩ := h
    refine ⟨I, n, hI, fun n T H hI => run_mono (fun e T H h => ?_) (hr n T H hI)⟩
    cases e with
    | normal => exact h
    | exit id => exact hK _ _ _ h
    | ret => exact hK _ _ _ h
  | .exit id, K, K', hK, T, H, h => hK _ _ _ h
  | .ret, K, K', hK, T, H, h => hK _ _ _ h

/-- What a function leaves. -/
def Kend (res : List ARes) (R : AV → AHeap → Prop) : AEx → Tm → AHeap → Prop := fun e T H => (e = .normal ∨ e = .ret) ∧ ob (ares res T H) fun rv => R rv H
@[simp] theorem Kend_ret {res R} : Kend res R .ret T H = ob (ares res T H) fun rv => R rv H := by simp [Kend]
@[simp] theorem Kend_normal {res R} : Kend res R .normal T H = ob (ares res T H) fun rv => R rv H := by simp [Kend]
@[simp] theorem Kend_exit {res R id} : Kend res R (.exit id) T H = False := by simp [Kend]
theorem ob_iff {α : Type} {x : Option α} {K : α → Prop} : ob x K ↔ ∃ a, x = some a ∧ K a := by cases x <;> simp
def Rle (n : Nat) (r : AV) (rv : AV) (H : AHeap) : Prop := leP n (frz true H n rv) r
theorem PFk {an : An} {f : FuncId} {fn : Func} {af : AFn} {args : List AV} {r : AV} (n : Nat) (hm : P.follows .mixedOrders = true) (hf : P.funcs[f]? = some fn) (hc : cFn P an fn = some af) (hn : args.length ≤ af.n) (ha : ∀ a ∈ args, RL 0 a) (hrl : RL 0 r)
    (h : run P 0 af.code (Kend af.res (Rle n r)) (argsT 0 args) []) : PF P f args r := by
  refine PF_of n hm hf hc hn ha hrl ?_
  have e : (Kend af.res (Rle n r)) = (fun e T H' => (e = .normal ∨ e = .ret) ∧ ∃ rv, ares af.res T H' = some rv ∧ leP n (frz true H' n rv) r) := by
    funext e T H'
    simp only [Kend, ob_iff]
    rfl
  rw [e] at h
  exact h
theorem FTk {an : An} {f : FuncId} {fn : Func} {af : AFn} {args : List AV} {R : AV → AHeap → Prop} (hm : P.follows .mixedOrders = true) (hf : P.funcs[f]? = some fn) (hc : cFn P an fn = some af) (hn : args.length ≤ af.n)
    (h : run P H.length af.code (Kend af.res R) (argsT 0 args) H) : FT P f args H R := by
  refine FT_of hm hf hc hn ?_
  have e : (Kend af.res R) = (fun e T H' => (e = .normal ∨ e = .ret) ∧ ∃ rv, ares af.res T H' = some rv ∧ R rv H') := by
    funext e T H'
    simp only [Kend, ob_iff]
  rw [e] at h
  exact h

/-- A slice of a slice, of values. -/
def aSlc (H : AHeap) (sz : Nat) (v : AV) (lo hi mx : Option AV) : Option AV :=
  let b (m d : Nat) (x : Option AV) : Option Nat := match x with
    | none => some d
    | some x => match aint x with
      | some n => if 0 ≤ n ∧ n ≤ m then some n.toNat else none
      | none => none
  match v with
  | .rows clip sz' es => if sz' = sz then
      match b es.length es.length hi with
      | some h => match b h 0 lo with
        | some l => match mx with
          | none => some (.rows (clip && h == es.length) sz ((es.take h).drop l))
          | some m => match b es.length 0 (some m) with
            | some m => if m = h then some (.rows true sz ((es.take h).drop l)) else none
            | none => none
        | none => none
      | none => none
    else none
  | .loc i g off len sz' clip => if sz' = sz ∧ alive H i g = true then
      match b len len hi with
      | some h => match b h 0 lo with
        | some l => match mx with
          | none => some (.loc i g (off + l * sz) (h - l) sz (clip && h == len))
          | some m => match b len 0 (some m) with
            | some m => if m = h then some (.loc i g (off + l * sz) (h - l) sz true) else none
            | none => none
        | none => none
      | none => none
    else none
  | .nilS => match b 0 0 hi, b 0 0 lo with
    | some _, some _ => match mx with
      | none => some .nilS
      | some m => match b 0 0 (some m) with
        | some _ => some .nilS
        | none => none
    | _, _ => none
  | _ => none
theorem abound_v {ρ : Opd → AV} {m d : Nat} {x : Option Opd} : abound ρ m d x = (match x.map ρ with
    | none => some d
    | some x => match aint x with
      | some n => if 0 ≤ n ∧ n ≤ m then some n.toNat else none
      | none => none) := by cases x <;> rfl
theorem aslc_v {ρ : Opd → AV} {sz : Nat} {x : Opd} {lo hi mx : Option Opd} : aslc H ρ sz x lo hi mx = aSlc H sz (ρ x) (lo.map ρ) (hi.map ρ) (mx.map ρ) := by
  unfold aslc aSlc
  simp only [abound_v]
  cases mx <;> simp only [Option.map_none, Option.map_some] <;> rfl
@[simp] theorem rI_slcV {sz lo hi mx} : runIns P d ⟨dst, .slc sz x lo hi mx, g⟩ K T H = obK (aSlc H sz (x.ev T) (lo.map (Opd.ev T)) (hi.map (Opd.ev T)) (mx.map (Opd.ev T))) K T dst H := by
  rw [rI_slc, aslc_v]

end Go.AM

namespace Go.AM
set_option linter.unusedVariables false
set_option linter.unusedSimpArgs false

abbrev i64 (n : Int) : AV := .int .i64 n
abbrev ints (l : List Int) : AV := .rows false 1 (l.map fun n => [.int .i64 n])
abbrev intss (ks : List (List Int)) : AV := .rows false 1 (ks.map fun k => [ints k])

@[simp] theorem aindex_int {n : Nat} {k : IntKind} {i : Int} : aindex n (.int k i) = if 0 ≤ i ∧ i < n then some i.toNat else none := rfl
theorem gi_get {α : Type} [Inhabited α] {l : List α} {i : Int} (h0 : 0 ≤ i) (h1 : i < l.length) : l[i.toNat]? = some (gi l i) := by
  unfold gi
  rw [List.getElem?_eq_getElem (by omega)]
  simp [List.getD, List.getElem?_eq_getElem (show i.toNat < l.length by omega)]
@[simp] theorem aIa_map {α : Type} [Inhabited α] {sz sz' : Nat} {c : Bool} {H : AHeap} {f : α → List AV} {l : List α} {k : IntKind} {i : Int} :
    aIa sz H (.rows c sz' (l.map f)) (.int k i) = if 0 ≤ i ∧ i < l.length ∧ sz' = sz then some (.rptr (f (gi l i))) else none := by
  unfold aIa
  by_cases h : 0 ≤ i ∧ i < l.length
  · simp only [aindex_int, List.length_map, if_pos h]
    by_cases hs : sz' = sz
    · rw [if_pos hs, if_pos ⟨h.1, h.2, hs⟩]
      rw [List.getElem?_map, gi_get h.1 h.2]
      rfl
    · rw [if_neg hs, if_neg (fun hh => hs hh.2.2)]
  · simp only [aindex_int, List.length_map, if_neg h]
    rw [if_neg (fun hh => h ⟨hh.1, hh.2.1⟩)]

@[simp] theorem aIa_loc {sz sz' j g off len : Nat} {c : Bool} {H : AHeap} {k : IntKind} {i : Int} :
    aIa sz H (.loc j g off len sz' c) (.int k i) = if 0 ≤ i ∧ i < len then (if sz' = sz ∧ alive H j g = true then some (.ptr j g (off + i.toNat * sz)) else none) else none := by
  unfold aIa
  by_cases h : 0 ≤ i ∧ i < len
  · simp only [aindex_int, if_pos h]
  · simp only [aindex_int, if_neg h]
theorem loadCs_drop {α : Type} [Inhabited α] {f : α → AV} {l : List α} {k : Nat} (h : k < l.length) : loadCs 1 false ((l.map f).drop k) = some (f (gi l k)) := by
  unfold loadCs
  have : 1 ≤ ((l.map f).drop k).length := by simp; omega
  rw [if_pos this]
  simp [gi, List.getD, h]
theorem putAt_map {α : Type} {f : α → AV} {l : List α} {k : Nat} {v : α} : putAt (l.map f) k [f v] = (l.set k v).map f := by
  simp [putAt, List.map_set]
theorem chunk_one {α : Type} {f : α → AV} : ∀ {l : List α}, chunk 1 (l.map f) l.length = l.map fun x => [f x]
  | [] => rfl
  | a :: l => by
    simp only [List.map_cons, List.length_cons, chunk]
    rw [List.drop_succ_cons, List.drop_zero, chunk_one]
    rfl
@[simp] theorem alen_map {α : Type} {sz : Nat} {c : Bool} {H : AHeap} {f : α → List AV} {l : List α} : alen H (.rows c sz (l.map f)) = some (l.length : Int) := by simp [alen]
@[simp] theorem alenOk_map {α : Type} {sz : Nat} {c : Bool} {f : α → List AV} {l : List α} : alenOk (.rows c sz (l.map f)) = (l.length ≤ maxA) := by simp [alenOk]
@[simp] theorem aload_rptr {n : Nat} {agg : Bool} {H : AHeap} {cs : List AV} : aload n agg H (.rptr cs) = loadCs n agg cs := rfl
@[simp] theorem chunk_flat {α : Type} {sz : Nat} {f : α → List AV} {l : List α} (h : ∀ x, (f x).length = sz) : chunk sz (l.map f).flatten l.length = l.map f := by
  induction l with
  | nil => rfl
  | cons a l ih =>
    simp only [List.map_cons, List.flatten_cons, List.length_cons, chunk]
    rw [List.take_left' (h a), List.drop_left' (h a), ih]
theorem len_flat {α : Type} {sz : Nat} {f : α → List AV} {l : List α} (h : ∀ x, (f x).length = sz) : (l.map f).flatten.length = l.length * sz := by
  induction l with
  | nil => simp
  | cons a l ih =>
    simp only [List.map_cons, List.flatten_cons, List.length_append, List.length_cons, ih, h a]
    rw [Nat.add_mul]
    omega
theorem drop_map {α : Type} (f : α → List AV) (l : List α) (n : Nat) : (l.map f).drop n = (l.drop n).map f := by simp
@[simp] theorem aSlc_lo {α : Type} {H : AHeap} {sz sz' : Nat} {c : Bool} {f : α → List AV} {l : List α} {q : IntKind} {i : Int} :
    aSlc H sz (.rows c sz' (l.map f)) (some (.int q i)) none none = if sz' = sz ∧ 0 ≤ i ∧ i ≤ l.length then some (.rows c sz ((l.drop i.toNat).map f)) else none := by
  unfold aSlc
  by_cases hs : sz' = sz
  · by_cases h : 0 ≤ i ∧ i ≤ l.length
    · have e : (l.map f).take l.length = l.map f := List.take_of_length_le (by simp)
      simp [hs, h, aint, e]
    · simp only [hs, aint, List.length_map, if_true, Option.map, true_and, if_neg h]
  · simp [hs]
@[simp] theorem aSlc_hi {α : Type} {H : AHeap} {sz sz' : Nat} {f : α → List AV} {l : List α} {q : IntKind} {i : Int} :
    aSlc H sz (.rows false sz' (l.map f)) none (some (.int q i)) none = if sz' = sz ∧ 0 ≤ i ∧ i ≤ l.length then some (.rows false sz ((l.take i.toNat).map f)) else none := by
  unfold aSlc
  by_cases hs : sz' = sz
  · by_cases h : 0 ≤ i ∧ i ≤ l.length
    · simp [hs, h, aint]
    · simp [hs, aint]
      split <;> simp_all
  · simp [hs]
section
variable {k : Bool} {H : AHeap} {n : Nat}
@[simp] theorem frz_any : frz k H (n + 1) .any = .any := rfl
@[simp] theorem frz_bool {b} : frz k H (n + 1) (.bool b) = .bool b := rfl
@[simp] theorem frz_int {q v} : frz k H (n + 1) (.int q v) = .int q v := rfl
@[simp] theorem frz_str {s} : frz k H (n + 1) (.str s) = .str s := rfl
@[simp] theorem frz_nilFunc : frz k H (n + 1) .nilFunc = .nilFunc := rfl
@[simp] theorem frz_nilIface : frz k H (n + 1) .nilIface = .nilIface := rfl
@[simp] theorem frz_nilPtr : frz k H (n + 1) .nilPtr = .nilPtr := rfl
@[simp] theorem frz_nilMap : frz k H (n + 1) .nilMap = .nilMap := rfl
@[simp] theorem frz_nilS : frz k H (n + 1) .nilS = .nilS := rfl
@[simp] theorem frz_rows {c sz es} : frz k H (n + 1) (.rows c sz es) = .rows (k && c) sz (es.map fun e => e.map (frz k H n)) := rfl
@[simp] theorem frz_loc {i g off len sz c} : frz k H (n + 1) (.loc i g off len sz c) = match H[i]? with
      | some (.cells g' cs) => if g = g' ∧ off + len * sz ≤ cs.length then .rows (k && c) sz ((chunk sz (cs.drop off) len).map fun e => e.map (frz k H n)) else .any
      | _ => .any := rfl
@[simp] theorem frz_ptr {i g off} : frz k H (n + 1) (.ptr i g off) = match H[i]? with
      | some (.cells g' cs) => if g = g' then .rptr ((cs.drop off).map (frz k H n)) else .any
      | _ => .any := rfl
@[simp] theorem frz_rptr {cs} : frz k H (n + 1) (.rptr cs) = .rptr (cs.map (frz k H n)) := rfl
@[simp] theorem frz_fn {f fs cs} : frz k H (n + 1) (.fn f fs cs) = .fn f (fs.map (frz k H n)) (cs.map (frz k H n)) := rfl
@[simp] theorem frz_iface {t v} : frz k H (n + 1) (.iface t v) = .iface t (frz k H n v) := rfl
@[simp] theorem frz_agg {cs} : frz k H (n + 1) (.agg cs) = .agg (cs.map (frz k H n)) := rfl
@[simp] theorem frz_tuple {cs} : frz k H (n + 1) (.tuple cs) = .tuple (cs.map (frz k H n)) := rfl
@[simp] theorem leP_any {a} : leP (n + 1) a .any = True := by simp [leP]
@[simp] theorem leP_rows {c sz es c' sz' es'} : leP (n + 1) (.rows c' sz' es') (.rows c sz es) = (sz' = sz ∧ es' = es ∧ (c = true → c' = true)) := rfl
@[simp] theorem leP_nil {c sz es} : leP (n + 1) .nilS (.rows c sz es) = (es = []) := rfl
@[simp] theorem leP_agg {as bs} : leP (n + 1) (.agg as) (.agg bs) = lePs (leP n) as bs := rfl
@[simp] theorem leP_tuple {as bs} : leP (n + 1) (.tuple as) (.tuple bs) = lePs (leP n) as bs := rfl
@[simp] theorem leP_bool {a b} : leP (n + 1) a (.bool b) = (a = .bool b) := rfl
@[simp] theorem leP_int {a q v} : leP (n + 1) a (.int q v) = (a = .int q v) := rfl
@[simp] theorem leP_str {a s} : leP (n + 1) a (.str s) = (a = .str s) := rfl
@[simp] theorem leP_nilS {a} : leP (n + 1) a .nilS = (a = .nilS) := rfl
@[simp] theorem leP_fn {a f fs cs} : leP (n + 1) a (.fn f fs cs) = (a = .fn f fs cs) := rfl
@[simp] theorem leP_loc {a i g off len sz c} : leP (n + 1) a (.loc i g off len sz c) = (a = .loc i g off len sz c) := rfl
end
def al {α : Type} (p : α → Prop) : List α → Prop
  | [] => True
  | x :: l => p x ∧ al p l
@[simp] theorem al_nil {α : Type} {p : α → Prop} : al p [] = True := rfl
@[simp] theorem al_cons {α : Type} {p : α → Prop} {x : α} {l : List α} : al p (x :: l) = (p x ∧ al p l) := rfl
theorem al_mem {α : Type} {p : α → Prop} : ∀ {l : List α}, al p l → ∀ x ∈ l, p x
  | y :: l, h, x, hx => by
    rcases List.mem_cons.1 hx with rfl | hx
    · exact h.1
    · exact al_mem h.2 x hx
/-- Another telling: fewer temporaries, fewer blocks. -/
theorem Wk.tell {lo : Nat} {T T' : Tm} {H H' : AHeap} (k : Nat) (hlo : lo ≤ k) (h1 : al (fun p => T.get p.1 = p.2) T') (h2 : al (fun p => RL k p.2) T') (h3 : H.take k = H') (h4 : al (RLB k) H') : Wk lo T H T' H' :=
  Wk.to k hlo (al_mem h1) (al_mem h2) h3 (al_mem h4)
theorem Kl_next {lo : Nat} {I : Nat → Tm → AHeap → Prop} {n : Nat} {K : AEx → Tm → AHeap → Prop} {T T' : Tm} {H H' : AHeap} (m : Nat) (k : Nat) (hlo : lo ≤ k) (hi : I m T' H') (h1 : al (fun p => T.get p.1 = p.2) T') (h2 : al (fun p => RL k p.2) T') (h3 : H.take k = H') (h4 : al (RLB k) H') (hm : m < n) : Kl lo I n K .normal T H :=
  ⟨m, T', H', hm, Wk.tell k hlo h1 h2 h3 h4, hi⟩
/-- A slice of the call's own, let go: from now on a plain row. -/
theorem Wk.freeze {lo : Nat} {T : Tm} {H : AHeap} (t : Nat) {i g off len sz : Nat} {c : Bool} {cs : List AV} (h : T.get t = .loc i g off len sz c) (hH : H[i]? = some (.cells g cs)) (hlen : off + len * sz ≤ cs.length) :
    Wk lo T H ((t, .rows c sz (chunk sz (cs.drop off) len)) :: T) (H.set i (.dead g)) := by
  rintro X E0 w0 n a w hE0 ⟨E, h1, h2, h3, h4⟩
  obtain ⟨e, he, hb⟩ := h2.ent hH
  obtain ⟨hg, hlive, hnone, hbl⟩ := hb
  obtain ⟨hev, hr'⟩ := h2.kill he
  have hr2 : HR X (E.set i { e with live := false }) w (H.set i (.dead g)) := by
    have := hr'
    rw [show e.gen = g from hg] at this
    first | exact this | exact hg ▸ hr'
  refine ⟨_, h1.trans hev, hr2, ⟨fun k => ?_⟩, h4⟩
  simp only [Tm.get]
  split
  · rename_i hk
    subst hk
    have hv := h3.rel t
    rw [h] at hv
    obtain ⟨e', he', a', c', q1, q0, q2, q3, q4⟩ := hv.inv_loc h2 hH
    rw [he] at he'
    injection he' with he'
    subst he'
    rw [q1]
    obtain ⟨c1, c2, c3⟩ := chunk_spec (sz := sz) len (cs.drop off) (by simp; omega)
    by_cases hc0 : c' = 0
    · have hl0 : len = 0 := by omega
      subst hl0
      simp only [chunk]
      exact .rows c sz [] a' c' ⟨0, 0, none⟩ (fun _ _ => undef) (by simp) (by simp) (fun h => by have := q3 h; omega) (fun i hi => by simp at hi) (fun h => by simp at h) (fun h => by simp at h) (fun i j hi => by simp at hi) (fun i hi => by simp at hi)
    · obtain ⟨B, hB, ha, hroom⟩ := q4 hc0
      have hL := kill_lone h2 he hlive hB
      have key : ∀ j, j < cs.length → ∃ u, w.cell? ⟨B, e.base + j, none⟩ = some u ∧ ∀ hj : j < cs.length, VR X E w cs[j] u := fun j hj => by
        obtain ⟨u, u1, u2, _⟩ := h2.cell hH he hB j hj
        exact ⟨u, u1, fun _ => u2⟩
      have := VR.rows (X := X) (E := E.set i { e with live := false }) (w := w) c sz (chunk sz (cs.drop off) len) a' c' ⟨B, e.base + off, none⟩ (fun p j => (w.cell? ⟨B, e.base + (off + (p * sz + j)), none⟩).getD undef)
        (by rw [c1]; exact q0) (by rw [c1]; exact q2) (fun h => by rw [c1]; exact q3 h) (fun p hp => c2 _ (List.getElem_mem _)) (fun _ => by rw [ha]) (fun _ _ => hL) (fun p j hp hj => ?_) (fun p hp j hj => ?_)
      · rw [c1] at this
        exact this
      · rw [c1] at hp
        have hlt : p * sz + j < len * sz := by
          have : p * sz + sz ≤ len * sz := by
            have := Nat.mul_le_mul_right sz (show p + 1 ≤ len by omega)
            rw [Nat.add_mul] at this
            omega
          omega
        obtain ⟨u, u1, _⟩ := key (off + (p * sz + j)) (by omega)
        rw [u1, show e.base + off + (p * sz + j) = e.base + (off + (p * sz + j)) by omega, u1]
        rfl
      · have hp' : p < len := by rw [c1] at hp; exact hp
        have hjs : j < sz := by have := c2 _ (List.getElem_mem (l := chunk sz (cs.drop off) len) (n := p) hp); omega
        have hlt : p * sz + j < len * sz := by
          have : p * sz + sz ≤ len * sz := by
            have := Nat.mul_le_mul_right sz (show p + 1 ≤ len by omega)
            rw [Nat.add_mul] at this
            omega
          omega
        obtain ⟨u, u1, u2⟩ := key (off + (p * sz + j)) (by omega)
        simp only [u1, Option.getD_some]
        have hfe := flat_get c2 p j hp hjs
        rw [c3, List.getElem?_take, if_pos hlt, List.getElem?_drop, List.getElem?_eq_getElem (by omega), List.getElem?_eq_getElem hj] at hfe
        injection hfe with hfe
        rw [← hfe]
        exact (u2 (by omega)).mono hev
  · exact (h3.rel k).mono hev

/-! ### Loops that count -/
def Kn (lo N t : Nat) (B : Tm) (H0 : AHeap) (φ : Nat → Prop) (i : Nat) (K : AEx → Tm → AHeap → Prop) : AEx → Tm → AHeap → Prop
  | .normal => fun T' H' => i + 1 ≤ N ∧ φ (i + 1) ∧ Wk lo T' H' ((t, i64 ((i + 1 : Nat) : Int)) :: B) H0
  | e => K e
@[simp] theorem Kn_exit {lo N t B H0 φ i K id} : Kn lo N t B H0 φ i K (.exit id) = K (.exit id) := rfl
@[simp] theorem Kn_ret {lo N t B H0 φ i K} : Kn lo N t B H0 φ i K .ret = K .ret := rfl
theorem Kn_next {lo N t : Nat} {B : Tm} {H0 : AHeap} {φ : Nat → Prop} {i : Nat} {K : AEx → Tm → AHeap → Prop} {T : Tm} {H : AHeap} (k : Nat) (hlo : lo ≤ k) (h1 : i + 1 ≤ N) (h2 : φ (i + 1)) (ht : al (fun p => T.get p.1 = p.2) ((t, i64 ((i + 1 : Nat) : Int)) :: B))
    (hr : al (fun p => RL k p.2) B) (h3 : H.take k = H0) (h4 : al (RLB k) H0) : Kn lo N t B H0 φ i K .normal T H :=
  ⟨h1, h2, Wk.tell k hlo ht ⟨by simp, hr⟩ h3 h4⟩
theorem run_count {P : Program} {lo : Nat} {a : ACode} {K : AEx → Tm → AHeap → Prop} {T : Tm} {H : AHeap} (N t : Nat) (B : Tm) (H0 : AHeap) (φ : Nat → Prop) (hw : Wk lo T H ((t, i64 0) :: B) H0) (h0 : φ 0)
    (h : ∀ i : Nat, i ≤ N → φ i → run P lo a (Kn lo N t B H0 φ i K) ((t, i64 i) :: B) H0) : run P lo (.loop a) K T H := by
  refine run_loop (fun n T H => ∃ i : Nat, n = N - i ∧ i ≤ N ∧ φ i ∧ T = (t, i64 i) :: B ∧ H = H0) N _ _ hw ⟨0, by simp, by simp, h0, rfl, rfl⟩ ?_
  rintro n T H ⟨i, rfl, hi, hf, rfl, rfl⟩
  have := h i hi hf
  have e : Kn lo N t B H φ i K = Kl lo (fun n T H_1 => ∃ i : Nat, n = N - i ∧ i ≤ N ∧ φ i ∧ T = (t, i64 i) :: B ∧ H_1 = H) (N - i) K ∨ True := .inr trivial
  clear e
  refine run_mono (fun e T' H' hk => ?_) this
  cases e with
  | normal =>
    obtain ⟨k1, k2, k3⟩ := hk
    exact ⟨N - (i + 1), _, _, by omega, k3, i + 1, rfl, k1, k2, rfl, rfl⟩
  | exit id => exact hk
  | ret => exact hk
/-- A byte of a text, as a number. -/
def byte (s : ByteArray) (i : Int) : Int := ((s.data.getD i.toNat 0).toNat : Int)
@[simp] theorem aIdxs_str {s : ByteArray} {k : IntKind} {i : Int} : aIdxs (.str s) (.int k i) = if 0 ≤ i ∧ i < s.size then some (.int .u8 (byte s i)) else none := by
  unfold aIdxs
  by_cases h : 0 ≤ i ∧ i < s.size
  · simp [h, byte]
  · simp [h]

theorem w64 {n : Int} (h0 : -9223372036854775808 ≤ n) (h1 : n < 9223372036854775808) : IntKind.i64.wrap n = n := by
  rw [IntKind.wrap_i64]; omega

/-- The next number of a loop that counts. -/
theorem nxt {i n : Nat} (h : i < n) (hn : n ≤ maxA) : IntKind.i64.wrap ((i : Int) + 1) = ((i + 1 : Nat) : Int) := by
  unfold maxA at hn
  rw [w64 (by omega) (by omega)]
  simp

end Go.AM

namespace Go.AM
set_option linter.unusedVariables false
set_option linter.unusedSimpArgs false
variable {P : Program} {w : World}

inductive Ty where
  | bool
  | int (k : IntKind)
  | str
  | slice (e : Ty)
  | struct (fs : List Ty)

mutual
def Ty.size : Ty → Nat
  | .struct fs => Ty.sizes fs
  | _ => 1
def Ty.sizes : List Ty → Nat
  | [] => 0
  | f :: fs => f.size + Ty.sizes fs
end

mutual
/-- Is a type of the program's of this form? -/
def Ty.fits (P : Program) : Ty → TypeId → Bool
  | .bool, t => match P.underlying t with | some .bool => true | _ => false
  | .int k, t => match P.underlying t with | some (.int k') => decide (k' = k) | _ => false
  | .str, t => match P.underlying t with | some .string => true | _ => false
  | .slice e, t => match P.underlying t with | some (.slice e') => e.fits P e' && P.cellsOf e' == e.size && decide (0 < e.size) | _ => false
  | .struct fs, t => match P.underlying t with | some (.struct gs) => Ty.fitsL P fs 0 gs.toList && P.cellsOf t == Ty.sizes fs | _ => false
def Ty.fitsL (P : Program) : List Ty → Nat → List Field → Bool
  | [], _, [] => true
  | f :: fs, o, g :: gs => f.fits P g.type && g.offset == o && P.cellsOf g.type == f.size && Ty.fitsL P fs (o + f.size) gs
  | _, _, _ => false
end

def lim : Nat := 1048576
mutual
/-- The cells of a value of this form. -/
def Ty.is : Ty → List AV → Prop
  | .bool, cs => ∃ b, cs = [.bool b]
  | .int k, cs => ∃ n, cs = [.int k n] ∧ (Lit.int k n).wf = true
  | .str, cs => ∃ s : ByteArray, cs = [.str s] ∧ s.size ≤ lim
  | .slice e, cs => ∃ es, cs = [.rows false e.size es] ∧ es.length ≤ lim ∧ ∀ x ∈ es, e.is x
  | .struct fs, cs => Ty.isL fs cs
def Ty.isL : List Ty → List AV → Prop
  | [], cs => cs = []
  | f :: fs, cs => ∃ a b, cs = a ++ b ∧ f.is a ∧ Ty.isL fs b
end

theorem is_rows {α : Type} {e : List AV → Prop} {f : α → List AV} {p : α → Prop} (h : ∀ x, e x → ∃ a, x = f a ∧ p a) : ∀ {es : List (List AV)}, (∀ x ∈ es, e x) → ∃ l : List α, es = l.map f ∧ ∀ a ∈ l, p a
  | [], _ => ⟨[], rfl, fun a ha => by cases ha⟩
  | x :: es, hx => by
    obtain ⟨a, h1, h2⟩ := h x (hx x (by simp))
    obtain ⟨l, k1, k2⟩ := is_rows h (es := es) (fun y hy => hx y (by simp [hy]))
    exact ⟨a :: l, by simp [h1, k1], fun b hb => by rcases List.mem_cons.1 hb with rfl | hb; exact h2; exact k2 b hb⟩

/-- The values of cells. -/
def VRs (w : World) (as : List AV) (cs : List Value) : Prop := cs.length = as.length ∧ ∀ j (hj : j < as.length) (hj' : j < cs.length), VR (fun _ => False) [] w as[j] cs[j]
theorem VRs.app {as bs : List AV} {cs ds : List Value} (h : VRs w as cs) (k : VRs w bs ds) : VRs w (as ++ bs) (cs ++ ds) := by
  refine ⟨by simp [h.1, k.1], fun j hj hj' => ?_⟩
  by_cases hlt : j < as.length
  · rw [List.getElem_append_left hlt, List.getElem_append_left (by rw [h.1]; exact hlt)]
    exact h.2 j hlt (by rw [h.1]; exact hlt)
  · have hl := h.1
    rw [List.getElem_append_right (by omega), List.getElem_append_right (by omega)]
    have := k.2 (j - as.length) (by simp at hj; omega) (by rw [k.1]; simp at hj; omega)
    simpa only [hl] using this

theorem add_add (a : Addr) (m j : Nat) : (a.add m).add j = a.add (m + j) := by
  unfold Addr.add
  by_cases hj : j = 0
  · subst hj; simp
  · by_cases hm : m = 0
    · subst hm; simp [hj]
    · simp [hj, hm, Nat.add_assoc]

structure Bulk {H : Type} (B : DataW H → Nat) : Prop where
  str : ∀ bs, bs.length ≤ B (.lit (.string bs))
  len : ∀ es sp, es.length ≤ B (.slice es sp)
  el : ∀ es sp, ∀ e ∈ es, B e ≤ B (.slice es sp)
  part : ∀ ps, ∀ p ∈ ps, B p ≤ B (.agg ps)

theorem choose_list {α β : Type} {R : α → β → Prop} : ∀ {l : List α}, (∀ x ∈ l, ∃ y, R x y) → ∃ r : List β, r.length = l.length ∧ ∀ i (h1 : i < l.length) (h2 : i < r.length), R l[i] r[i]
  | [], _ => ⟨[], rfl, fun i h => by simp at h⟩
  | x :: l, h => by
    obtain ⟨y, hy⟩ := h x (by simp)
    obtain ⟨r, h1, h2⟩ := choose_list (l := l) (fun z hz => h z (by simp [hz]))
    refine ⟨y :: r, by simp [h1], fun i k1 k2 => ?_⟩
    cases i with
    | zero => exact hy
    | succ i => exact h2 i (by simpa using k1) (by simpa using k2)

section
variable {H : Type} {enc : TypeId × Value → H} {base : Nat} {sp : Nat → Bool} {held : Bool} {B : DataW H → Nat}

mutual
theorem trod_is (hB : Bulk B) : ∀ (ty : Ty) (t : TypeId) (fuel : Nat) (cs : List Value) (x : DataW H × List MemPlace), ty.fits P t = true → DataW.trod enc P w base sp held fuel t cs = some x → B x.1 ≤ lim →
    ∃ as, ty.is as ∧ VRs w as cs ∧ as.length = ty.size ∧ ∀ a ∈ as, RL 0 a
  | .bool, t, fuel, cs, x, hf, h, hb => by
    simp only [Ty.fits] at hf
    split at hf
    · rename_i hu
      obtain ⟨b, rfl, rfl⟩ := DataW.trod_bool hu h
      exact ⟨[.bool b], ⟨b, rfl⟩, ⟨rfl, fun j hj hj' => by simp at hj; subst hj; exact .bool b⟩, rfl, by simp⟩
    · cases hf
  | .int k, t, fuel, cs, x, hf, h, hb => by
    simp only [Ty.fits] at hf
    split at hf
    · rename_i k' hu
      have : k' = k := by simpa using hf
      subst this
      obtain ⟨n, rfl, rfl, hw⟩ := DataW.trod_int hu h
      exact ⟨[.int k' n], ⟨n, rfl, hw⟩, ⟨rfl, fun j hj hj' => by simp at hj; subst hj; exact .int k' n⟩, rfl, by simp⟩
    · cases hf
  | .str, t, fuel, cs, x, hf, h, hb => by
    simp only [Ty.fits] at hf
    split at hf
    · rename_i hu
      obtain ⟨s, rfl, rfl, hm⟩ := DataW.trod_string hu h
      have hs : s.size ≤ lim := by
        have := hB.str s.data.toList
        have e : s.data.toList.length = s.size := by rw [Array.length_toList]; rfl
        simp only at hb
        omega
      exact ⟨[.str s], ⟨s, rfl, hs⟩, ⟨rfl, fun j hj hj' => by simp at hj; subst hj; exact .str s (by unfold lim at hs; omega)⟩, rfl, by simp⟩
    · cases hf
  | .slice e, t, fuel, cs, x, hf, h, hb => by
    simp only [Ty.fits] at hf
    split at hf
    · rename_i e' hu
      simp only [Bool.and_eq_true, beq_iff_eq, decide_eq_true_eq] at hf
      obtain ⟨⟨hf1, hf2⟩, hf3⟩ := hf
      rcases DataW.trod_slice hu h with ⟨rfl, rfl⟩ | ⟨a, len, cap, elems, rest, n, rfl, rfl, rfl, hba, hl, hm, hlen, hel, _, _⟩
      · refine ⟨[.rows false e.size []], ⟨[], rfl, by simp [lim], fun x hx => by cases hx⟩, ⟨rfl, fun j hj hj' => ?_⟩, rfl, by simp⟩
        simp at hj
        subst hj
        exact .rows _ _ [] none 0 ⟨0, 0, none⟩ (fun _ _ => undef) (by simp) (by simp) (fun _ => rfl) (fun i hi => by simp at hi) (fun h => by simp at h) (fun h => by simp at h) (fun i j hi => by simp at hi) (fun i hi => by simp at hi)
      · simp only at hb
        have hll : elems.length ≤ lim := by
          have := hB.len (elems.map (·.1)) (rest.map (·.1))
          simp at this
          omega
        have each : ∀ i (hi : i < elems.length), ∃ cs', w.cells? base (a.add (i * P.cellsOf e')) (P.cellsOf e') = some cs' ∧ DataW.trod enc P w base sp held n e' cs' = some elems[i] := by
          intro i hi
          have := hel i (by omega)
          rw [List.getElem?_eq_getElem hi, Option.bind_eq_some_iff] at this
          exact this
        have one : ∀ i (hi : i < elems.length), ∃ q : List AV × List Value, (e.is q.1 ∧ VRs w q.1 q.2 ∧ q.1.length = e.size ∧ ∀ a ∈ q.1, RL 0 a) ∧ w.cells? base (a.add (i * P.cellsOf e')) (P.cellsOf e') = some q.2 := by
          intro i hi
          obtain ⟨cs', h1, h2⟩ := each i hi
          have hbi : B elems[i].1 ≤ lim := Nat.le_trans (hB.el (elems.map (·.1)) (rest.map (·.1)) elems[i].1 (List.mem_map.2 ⟨_, List.getElem_mem _, rfl⟩)) hb
          obtain ⟨as, k1, k2, k3, k4⟩ := trod_is hB e e' n cs' elems[i] hf1 h2 hbi
          exact ⟨(as, cs'), ⟨k1, k2, k3, k4⟩, h1⟩
        obtain ⟨r, r1, r2⟩ := choose_list (l := List.range elems.length) (R := fun i (q : List AV × List Value) => (e.is q.1 ∧ VRs w q.1 q.2 ∧ q.1.length = e.size ∧ ∀ a ∈ q.1, RL 0 a) ∧ w.cells? base (a.add (i * P.cellsOf e')) (P.cellsOf e') = some q.2) (fun i hi => one i (List.mem_range.1 hi))
        have r1' : r.length = elems.length := by simpa using r1
        have rr : ∀ i (hi : i < r.length), (e.is r[i].1 ∧ VRs w r[i].1 r[i].2 ∧ r[i].1.length = e.size ∧ ∀ a ∈ r[i].1, RL 0 a) ∧ w.cells? base (a.add (i * P.cellsOf e')) (P.cellsOf e') = some r[i].2 := by
          intro i hi
          have := r2 i (by simp; omega) hi
          simpa using this
        have cell : ∀ i j (hi : i < r.length) (hj : j < e.size), ∃ hj' : j < r[i].2.length, w.cell? (a.add (i * e.size + j)) = some r[i].2[j] := by
          intro i j hi hj
          obtain ⟨⟨k1, k2, k3, _⟩, hc⟩ := rr i hi
          rw [hf2] at hc
          obtain ⟨c1, c2, c3⟩ := World.cells?_some hc
          have hj' : j < r[i].2.length := by omega
          refine ⟨hj', ?_⟩
          have := c3 j hj
          rw [add_add] at this
          rw [this]
          exact List.getElem?_eq_getElem hj'
        have spot : 0 < r.length → a = ⟨a.block, a.off, none⟩ := by
          intro h0
          obtain ⟨_, hc⟩ := cell 0 0 h0 hf3
          have e0 : a.add (0 * e.size + 0) = a := by simp [Addr.add]
          rw [e0] at hc
          unfold World.cell? at hc
          split at hc
          · split at hc
            · cases hc
            · rename_i hsp
              obtain ⟨b, o, s⟩ := a
              simp at hsp
              subst hsp
              rfl
          · cases hc
        refine ⟨[.rows false e.size (r.map (·.1))], ⟨r.map (·.1), rfl, by simp; omega, fun x hx => ?_⟩, ⟨rfl, fun j hj hj' => ?_⟩, rfl, ?_⟩
        · obtain ⟨q, hq, rfl⟩ := List.mem_map.1 hx
          obtain ⟨i, hi, rfl⟩ := List.getElem_of_mem hq
          exact (rr i hi).1.1
        · simp at hj
          subst hj
          have hlr : (r.map (·.1)).length = len := by simp; omega
          have := VR.rows (X := fun _ => False) (E := []) (w := w) false e.size (r.map (·.1)) (some a) cap ⟨a.block, a.off, none⟩ (fun i j => (w.cell? (a.add (i * e.size + j))).getD undef)
            (by rw [hlr]; unfold maxA; unfold lim at hll; omega) (by rw [hlr]; exact hl) (fun h => by cases h) (fun i hi => by
              simp at hi
              simp only [List.getElem_map]
              exact (rr i hi).1.2.2.1) (fun h0 => by rw [← spot (by simpa using h0)]) (fun _ _ => ⟨fun h => h, fun ⟨e, he, _⟩ => by cases he⟩) (fun i j hi hj => by
              simp at hi
              obtain ⟨hj', hc⟩ := cell i j hi hj
              have e0 := spot (by omega)
              rw [hc]
              rw [e0, add_none] at hc
              exact hc) (fun i hi j hj => by
              simp at hi
              simp only [List.getElem_map] at hj ⊢
              obtain ⟨⟨_, k2, k3, _⟩, _⟩ := rr i hi
              obtain ⟨hj', hc⟩ := cell i j hi (by omega)
              rw [hc]
              exact k2.2 j hj hj')
          rw [hlr] at this
          exact this
        · intro x hx
          simp at hx
          subst hx
          simp
          intro y z hq u hu
          obtain ⟨i, hi, he⟩ := List.getElem_of_mem hq
          have := (rr i hi).1.2.2.2
          rw [he] at this
          exact this u hu
    · cases hf
  | .struct fs, t, fuel, cs, x, hf, h, hb => by
    simp only [Ty.fits] at hf
    split at hf
    · rename_i gs hu
      simp only [Bool.and_eq_true, beq_iff_eq] at hf
      obtain ⟨xs, n, rfl, rfl, hc, hxl, hall⟩ := DataW.trod_struct hu h
      obtain ⟨as, k1, k2, k3, k4⟩ := trod_isL hB fs gs.toList 0 cs xs n hf.1 (by simpa using hxl.symm) (fun i f hi => hall i f (by simpa using hi)) (fun y hy => Nat.le_trans (hB.part (xs.map (·.1)) y.1 (List.mem_map.2 ⟨y, hy, rfl⟩)) hb) (by rw [hc, hf.2]; omega)
      exact ⟨as, k1, by simpa using k2, k3, k4⟩
    · cases hf
theorem trod_isL (hB : Bulk B) : ∀ (fs : List Ty) (gs : List Field) (o : Nat) (cs : List Value) (xs : List (DataW H × List MemPlace)) (n : Nat), Ty.fitsL P fs o gs = true → gs.length = xs.length →
    (∀ (i : Nat) (f : Field), gs[i]? = some f → DataW.trod enc P w base sp held n f.type ((cs.drop f.offset).take (P.cellsOf f.type)) = xs[i]?) → (∀ y ∈ xs, B y.1 ≤ lim) → cs.length = o + Ty.sizes fs →
    ∃ as, Ty.isL fs as ∧ VRs w as (cs.drop o) ∧ as.length = Ty.sizes fs ∧ ∀ a ∈ as, RL 0 a
  | [], [], o, cs, xs, n, hf, hl, hall, hb, hc => by
    refine ⟨[], rfl, ⟨?_, fun j hj => by simp at hj⟩, rfl, fun a ha => by cases ha⟩
    simp [Ty.sizes] at hc
    simp [hc]
  | f :: fs, g :: gs, o, cs, xs, n, hf, hl, hall, hb, hc => by
    simp only [Ty.fitsL, Bool.and_eq_true, beq_iff_eq] at hf
    obtain ⟨⟨⟨h1, h2⟩, h3⟩, h4⟩ := hf
    cases xs with
    | nil => simp at hl
    | cons x xs =>
      simp only [Ty.sizes] at hc
      have hx := hall 0 g rfl
      simp only [List.getElem?_cons_zero] at hx
      rw [h2, h3] at hx
      obtain ⟨as, k1, k2, k3, k4⟩ := trod_is hB f g.type n _ x h1 hx (hb x (by simp))
      obtain ⟨bs, q1, q2, q3, q4⟩ := trod_isL hB fs gs (o + f.size) cs xs n h4 (by simpa using hl) (fun i g' hi => by have := hall (i + 1) g' (by simpa using hi); simpa using this) (fun y hy => hb y (by simp [hy])) (by omega)
      refine ⟨as ++ bs, ⟨as, bs, rfl, k1, q1⟩, ?_, by simp [Ty.sizes, k3, q3], fun a ha => (List.mem_append.1 ha).elim (k4 a) (q4 a)⟩
      have := k2.app q2
      rw [← List.drop_drop, List.take_append_drop] at this
      exact this
  | [], _ :: _, o, cs, xs, n, hf, _, _, _, _ => by simp [Ty.fitsL] at hf
  | _ :: _, [], o, cs, xs, n, hf, _, _, _, _ => by simp [Ty.fitsL] at hf
end
end

/-- From a reading of an argument to the machine's value. -/
theorem trod_arg {H : Type} {enc : TypeId × Value → H} {base : Nat} {sp : Nat → Bool} {held : Bool} {B : DataW H → Nat} (hB : Bulk B) (ty : Ty) {t : TypeId} {v : Value} {d : DataW H} {ps : List MemPlace} (hf : ty.fits P t = true)
    (hagg : wideT P t = true ↔ ∃ xs, v = .agg xs) (h : DataW.Trod enc P w base sp held t v d ps) (hb : B d ≤ lim) :
    ∃ as, ty.is as ∧ (∀ a ∈ as, RL 0 a) ∧ VR (fun _ => False) [] w (if wideT P t then .agg as else as.headD .any) v := by
  obtain ⟨fuel, h⟩ := h
  obtain ⟨as, k1, k2, k3, k4⟩ := trod_is hB ty t fuel _ (d, ps) hf h hb
  refine ⟨as, k1, k4, ?_⟩
  by_cases hw : wideT P t = true
  · obtain ⟨xs, rfl⟩ := hagg.1 hw
    rw [if_pos hw]
    refine .agg as xs (by simpa [Value.cells] using k2.1) (fun j hj hj' => ?_)
    have := k2.2 j hj (by simpa [Value.cells] using hj')
    simpa [Value.cells] using this
  · rw [if_neg hw]
    have hn : ¬ ∃ xs, v = .agg xs := fun h => hw (hagg.2 h)
    have hc := cells_toList_one hn
    rw [hc] at k2
    match as, k2 with
    | [a], k2 => exact k2.2 0 (by simp) (by simp)
    | [], k2 => have := k2.1; simp at this
    | _ :: _ :: _, k2 => have := k2.1; simp at this

theorem trod_argS {H : Type} {enc : TypeId × Value → H} {base : Nat} {sp : Nat → Bool} {held : Bool} {B : DataW H → Nat} (hB : Bulk B) (ty : Ty) {t : TypeId} {v : Value} {d : DataW H} {ps : List MemPlace} (hf : ty.fits P t = true)
    (hsz : ty.size ≠ 1) (h : DataW.Trod enc P w base sp held t v d ps) (hb : B d ≤ lim) : ∃ as, ty.is as ∧ (∀ a ∈ as, RL 0 a) ∧ VR (fun _ => False) [] w (.agg as) v := by
  obtain ⟨fuel, h⟩ := h
  obtain ⟨as, k1, k2, k3, k4⟩ := trod_is hB ty t fuel _ (d, ps) hf h hb
  refine ⟨as, k1, k4, ?_⟩
  have hl : v.cells.size ≠ 1 := by
    have := k2.1
    simp at this
    omega
  have : ∃ xs, v = .agg xs := by cases v <;> first | exact ⟨_, rfl⟩ | exact absurd rfl hl
  obtain ⟨xs, rfl⟩ := this
  refine .agg as xs (by simpa [Value.cells] using k2.1) (fun j hj hj' => ?_)
  have := k2.2 j hj (by simpa [Value.cells] using hj')
  simpa [Value.cells] using this

/-- A call that has told its answer has touched nothing of what was there. -/
theorem FT.plain {f : FuncId} {args : List AV} {r : AV} (h : PF P f args r) {vals : Array Value} (ha : ArgsR (fun _ => False) [] w args vals) :
    Calls P f vals w fun e w' => ∃ v, e = .returned v ∧ (∀ b, r = .bool b → v = .bool b) ∧ RowKit.Below w.heap.size w w' := by
  have hr0 : HR (fun _ => False) [] w [] := ⟨rfl, fun i j ei ej B h => by simp at h, fun i e B h => by simp at h, fun i e b h => by simp at h, fun B hB => hB.elim⟩
  refine (h.2.2.2 _ [] w vals hr0 ha).mono ?_
  rintro e w' ⟨v, rv, E', H', rfl, rfl, k1, k2, k3⟩
  refine ⟨v, rfl, fun b hb => by rw [hb] at k1; exact k1.inv_bool, ⟨k3.os, k3.tape, k3.output, k3.size, fun B hB => k3.keep B hB (fun ⟨e, he, _⟩ => by cases he)⟩⟩

end Go.AM

namespace Go.AM
set_option linter.unusedVariables false
set_option linter.unusedSimpArgs false

structure Tm0 where
  kind : Int
  sym : Int
  part : Int
  args : List Int
  deriving Inhabited, DecidableEq
abbrev Tm0.cs (t : Tm0) : List AV := [i64 t.kind, i64 t.sym, i64 t.part, ints t.args]
def termOf (key : List Int) : Tm0 × Bool := if key.length < 3 then (⟨0, 0, 0, []⟩, false) else (⟨gi key 0, gi key 1, gi key 2, key.drop 3⟩, true)

structure Kd where
  keys : List (List Int)
  slots : List Int
  deriving Inhabited, DecidableEq
abbrev Kd.cs (a : Kd) : List AV := [intss a.keys, ints a.slots]
def termAt (a : Kd) (id : Int) : Tm0 × Bool := if id < 0 ∨ id ≥ a.keys.length then (⟨0, 0, 0, []⟩, false) else termOf (gi a.keys id)

structure Sg where
  name : ByteArray
  args : ByteArray
  deriving Inhabited, DecidableEq
abbrev sigs (l : List Sg) : AV := .rows false 2 (l.map fun s => [.str s.name, .str s.args])

theorem eq_gi {α : Type} [Inhabited α] : ∀ {a b : List α}, a.length = b.length → (∀ j : Nat, j < a.length → gi a j = gi b j) → a = b
  | [], [], _, _ => rfl
  | x :: a, y :: b, h, hj => by
    have h0 := hj 0 (by simp)
    simp [gi] at h0
    rw [h0, eq_gi (a := a) (b := b) (by simpa using h) (fun j hl => by
      have := hj (j + 1) (by simpa using hl)
      simpa [gi, show ((j : Int) + 1).toNat = j + 1 by omega] using this)]
  | [], _ :: _, h, _ => by simp at h
  | _ :: _, [], h, _ => by simp at h

/-- The first place of a row where something holds; -1: nowhere. -/
def fstAt {α : Type} (p : α → Bool) (l : List α) : Int := match l.findIdx? p with
  | some i => i
  | none => -1
theorem fstAt_some {α : Type} [Inhabited α] {p : α → Bool} {l : List α} {i : Nat} (hi : i < l.length) (h : p (gi l i) = true) (hj : ∀ j : Nat, j < i → p (gi l j) = false) : fstAt p l = i := by
  unfold fstAt
  have : l.findIdx? p = some i := by
    rw [List.findIdx?_eq_some_iff_getElem]
    refine ⟨hi, ?_, fun j hl => ?_⟩
    · simpa [gi, List.getD, hi] using h
    · have := hj j hl
      simpa [gi, List.getD, show j < l.length by omega] using this
  rw [this]
theorem fstAt_none {α : Type} [Inhabited α] {p : α → Bool} {l : List α} (hj : ∀ j : Nat, j < l.length → p (gi l j) = false) : fstAt p l = -1 := by
  unfold fstAt
  have : l.findIdx? p = none := by
    rw [List.findIdx?_eq_none_iff]
    intro x hx
    obtain ⟨j, hl, rfl⟩ := List.getElem_of_mem hx
    simpa [gi, List.getD, hl] using hj j hl
  rw [this]

def argOk (c : Int) : Prop := c = 43 ∨ c = 45 ∨ c = 61
instance (c : Int) : Decidable (argOk c) := inferInstanceAs (Decidable (_ ∨ _))
def argsOk (s : ByteArray) : Bool := decide (∀ i : Nat, i < s.size → argOk (byte s i)) && decide (s.size ≤ 8)

def letter (c : Int) : Prop := 97 ≤ c ∧ c ≤ 122 ∨ 65 ≤ c ∧ c ≤ 90
def figure (c : Int) : Prop := 48 ≤ c ∧ c ≤ 57 ∨ c = 95
instance (c : Int) : Decidable (letter c) := inferInstanceAs (Decidable (_ ∨ _))
instance (c : Int) : Decidable (figure c) := inferInstanceAs (Decidable (_ ∨ _))
def nameOk (s : ByteArray) : Bool := decide (1 ≤ s.size) && decide (s.size ≤ 20) && decide (∀ i : Nat, i < s.size → letter (byte s i) ∨ 0 < i ∧ figure (byte s i))
theorem nameBad {s : ByteArray} {i : Nat} (h : i < s.size) (hn : ¬ (letter (byte s i) ∨ 0 < i ∧ figure (byte s i))) : nameOk s = false := by
  have : ¬ ∀ i : Nat, i < s.size → letter (byte s i) ∨ 0 < i ∧ figure (byte s i) := fun hh => hn (hh i h)
  simp [nameOk, this]
theorem nameGood {s : ByteArray} (h1 : 1 ≤ s.size) (h2 : s.size ≤ 20) (h : ∀ i : Nat, i < s.size → letter (byte s i) ∨ 0 < i ∧ figure (byte s i)) : nameOk s = true := by
  simp only [nameOk, Bool.and_eq_true, decide_eq_true_eq]
  exact ⟨⟨h1, h2⟩, h⟩

def conOk (s : ByteArray) : Bool := nameOk s && decide (97 ≤ byte s 0) && decide (byte s 0 ≤ 122)

theorem nameSize {s : ByteArray} (h : nameOk s = true) : 0 < s.size := by
  simp only [nameOk, Bool.and_eq_true, decide_eq_true_eq] at h
  omega

end Go.AM

namespace Go.AM
set_option linter.unusedVariables false
def nextAt (N p : Nat) : Nat := if p + 1 = N then 0 else p + 1
def probe (o : List Int) : Nat → Nat → Nat
  | 0, p => p
  | f + 1, p => if gi o p = 0 then p else probe o f (nextAt o.length p)
/-- How far it is from p to z. -/
def dist (N z p : Nat) : Nat := if p ≤ z then z - p else z + N - p
theorem dist_lt {N z p : Nat} (hz : z < N) (hp : p < N) : dist N z p < N := by unfold dist; split <;> omega
theorem nextAt_lt {N p : Nat} (hp : p < N) : nextAt N p < N := by unfold nextAt; split <;> omega
theorem dist_next {N z p : Nat} (hz : z < N) (hp : p < N) (hne : p ≠ z) : dist N z (nextAt N p) + 1 = dist N z p := by
  unfold dist nextAt
  split <;> split <;> split <;> omega
theorem probe_fuel {o : List Int} {z : Nat} (hz : z < o.length) (h0 : gi o z = 0) : ∀ (f p : Nat), p < o.length → dist o.length z p ≤ f → probe o (f + 1) p = probe o f p
  | 0, p, hp, hd => by
    have : p = z := by unfold dist at hd; split at hd <;> omega
    subst this
    simp [probe, h0]
  | f + 1, p, hp, hd => by
    have e1 : probe o (f + 1 + 1) p = if gi o p = 0 then p else probe o (f + 1) (nextAt o.length p) := rfl
    have e2 : probe o (f + 1) p = if gi o p = 0 then p else probe o f (nextAt o.length p) := rfl
    rw [e1, e2]
    by_cases h : gi o p = 0
    · rw [if_pos h, if_pos h]
    · rw [if_neg h, if_neg h]
      have hne : p ≠ z := fun e => h (by rw [e]; exact h0)
      have := dist_next hz hp hne
      exact probe_fuel hz h0 f _ (nextAt_lt hp) (by omega)
/-- The search, a step on. -/
theorem probe_step {o : List Int} {z p : Nat} (hz : z < o.length) (h0 : gi o z = 0) (hp : p < o.length) (h : gi o p ≠ 0) : probe o o.length p = probe o o.length (nextAt o.length p) := by
  have hne : p ≠ z := fun e => h (by rw [e]; exact h0)
  have hd := dist_next hz hp hne
  have hl := dist_lt hz hp
  obtain ⟨f, hf⟩ : ∃ f, o.length = f + 1 := ⟨o.length - 1, by omega⟩
  have := probe_fuel hz h0 f (nextAt o.length p) (nextAt_lt hp) (by omega)
  rw [← hf] at this
  rw [this]
  conv => lhs; rw [hf]
  rw [probe, if_neg h, hf]
theorem probe_stop {o : List Int} {p : Nat} (h : gi o p = 0) : ∀ f, probe o f p = p
  | 0 => rfl
  | f + 1 => by rw [probe, if_pos h]
/-- Fewer filled than there are: one is free. -/
theorem free {o : List Int} (h : o.countP (fun x => x != 0) < o.length) : ∃ z : Nat, z < o.length ∧ gi o z = 0 := by
  apply Classical.byContradiction
  intro hno
  have : ∀ x ∈ o, (x != 0) = true := by
    intro x hx
    obtain ⟨i, hi, rfl⟩ := List.getElem_of_mem hx
    have : gi o (i : Int) ≠ 0 := fun e => hno ⟨i, hi, e⟩
    simpa [gi, List.getD, hi] using this
  rw [List.countP_eq_length.2 this] at h
  omega
theorem count_set : ∀ {o : List Int} {p : Nat} {v : Int}, p < o.length → gi o p = 0 → v ≠ 0 → (o.set p v).countP (fun x => x != 0) = o.countP (fun x => x != 0) + 1
  | x :: o, 0, v, h, h0, hv => by
    simp [gi] at h0
    subst h0
    simp [hv]
  | x :: o, p + 1, v, h, h0, hv => by
    have : gi o (p : Int) = 0 := by simpa [gi, show ((p : Int) + 1).toNat = p + 1 by omega] using h0
    have := count_set (o := o) (p := p) (v := v) (by simpa using h) this hv
    simp only [List.set_cons_succ, List.countP_cons, this]
    omega
  | [], p, v, h, _, _ => by simp at h
end Go.AM

namespace Go.AM
set_option linter.unusedVariables false
set_option linter.unusedSimpArgs false
variable {P : Program}

theorem VR.letgo {X : Nat → Prop} {E : Env} {w : World} {H : AHeap} (h2 : HR X E w H) {i g off len sz : Nat} {c : Bool} {cs : List AV} {e : Ent} (he : E[i]? = some e) (hH : H[i]? = some (.cells g cs)) (hlen : off + len * sz ≤ cs.length)
    {v : Value} (hv : VR X E w (.loc i g off len sz c) v) : VR X (E.set i { e with live := false }) w (.rows c sz (chunk sz (cs.drop off) len)) v := by
  have hb := h2.br i e _ he hH
  obtain ⟨hg, hlive, hnone, hbl⟩ := hb
  obtain ⟨hev, hr'⟩ := h2.kill he
  obtain ⟨e', he', a', c', q1, q0, q2, q3, q4⟩ := hv.inv_loc h2 hH
  rw [he] at he'
  injection he' with he'
  subst he'
  rw [q1]
  obtain ⟨c1, c2, c3⟩ := chunk_spec (sz := sz) len (cs.drop off) (by simp; omega)
  by_cases hc0 : c' = 0
  · have hl0 : len = 0 := by omega
    subst hl0
    simp only [chunk]
    exact .rows c sz [] a' c' ⟨0, 0, none⟩ (fun _ _ => undef) (by simp) (by simp) (fun h => by have := q3 h; omega) (fun i hi => by simp at hi) (fun h => by simp at h) (fun h => by simp at h) (fun i j hi => by simp at hi) (fun i hi => by simp at hi)
  · obtain ⟨B, hB, ha, hroom⟩ := q4 hc0
    have hL := kill_lone h2 he hlive hB
    have key : ∀ j, j < cs.length → ∃ u, w.cell? ⟨B, e.base + j, none⟩ = some u ∧ ∀ hj : j < cs.length, VR X E w cs[j] u := fun j hj => by
      obtain ⟨u, u1, u2, _⟩ := h2.cell hH he hB j hj
      exact ⟨u, u1, fun _ => u2⟩
    have := VR.rows (X := X) (E := E.set i { e with live := false }) (w := w) c sz (chunk sz (cs.drop off) len) a' c' ⟨B, e.base + off, none⟩ (fun p j => (w.cell? ⟨B, e.base + (off + (p * sz + j)), none⟩).getD undef)
      (by rw [c1]; exact q0) (by rw [c1]; exact q2) (fun h => by rw [c1]; exact q3 h) (fun p hp => c2 _ (List.getElem_mem _)) (fun _ => by rw [ha]) (fun _ _ => hL) (fun p j hp hj => ?_) (fun p hp j hj => ?_)
    · rw [c1] at this
      exact this
    · rw [c1] at hp
      have hlt : p * sz + j < len * sz := by
        have : p * sz + sz ≤ len * sz := by
          have := Nat.mul_le_mul_right sz (show p + 1 ≤ len by omega)
          rw [Nat.add_mul] at this
          omega
        omega
      obtain ⟨u, u1, _⟩ := key (off + (p * sz + j)) (by omega)
      rw [u1, show e.base + off + (p * sz + j) = e.base + (off + (p * sz + j)) by omega, u1]
      rfl
    · have hp' : p < len := by rw [c1] at hp; exact hp
      have hjs : j < sz := by have := c2 _ (List.getElem_mem (l := chunk sz (cs.drop off) len) (n := p) hp); omega
      have hlt : p * sz + j < len * sz := by
        have : p * sz + sz ≤ len * sz := by
          have := Nat.mul_le_mul_right sz (show p + 1 ≤ len by omega)
          rw [Nat.add_mul] at this
          omega
        omega
      obtain ⟨u, u1, u2⟩ := key (off + (p * sz + j)) (by omega)
      simp only [u1, Option.getD_some]
      have hfe := flat_get c2 p j hp hjs
      rw [c3, List.getElem?_take, if_pos hlt, List.getElem?_drop, List.getElem?_eq_getElem (by omega), List.getElem?_eq_getElem hj] at hfe
      injection hfe with hfe
      rw [← hfe]
      exact (u2 (by omega)).mono hev

/-- A value, its slices of a block of the caller's own told as rows. -/
def fz (i g : Nat) (cs : List AV) : Nat → AV → AV
  | 0, av => av
  | n + 1, av => match av with
    | .loc j g' off len sz c => if j = i ∧ g' = g ∧ off + len * sz ≤ cs.length then .rows c sz (chunk sz (cs.drop off) len) else .loc j g' off len sz c
    | .agg as => .agg (as.map (fz i g cs n))
    | .tuple as => .tuple (as.map (fz i g cs n))
    | .fn f as bs => .fn f (as.map (fz i g cs n)) (bs.map (fz i g cs n))
    | .iface t v => .iface t (fz i g cs n v)
    | av => av

theorem VR.fz {X : Nat → Prop} {E : Env} {w : World} {H : AHeap} (h2 : HR X E w H) {i g : Nat} {cs : List AV} {e : Ent} (he : E[i]? = some e) (hH : H[i]? = some (.cells g cs)) :
    ∀ (n : Nat) {av : AV} {v : Value}, VR X E w av v → VR X (E.set i { e with live := false }) w (fz i g cs n av) v
  | 0, av, v, h => h.mono (h2.kill he).1
  | n + 1, av, v, h => by
    have hev := (h2.kill he).1
    cases av with
    | loc j g' off len sz c =>
      simp only [Go.AM.fz]
      split
      · rename_i hc
        obtain ⟨rfl, rfl, hl⟩ := hc
        exact h.letgo h2 he hH hl
      · exact h.mono hev
    | agg as =>
      cases h with
      | agg _ vs h1 h =>
        refine .agg _ vs (by simpa using h1) (fun j hj hj' => ?_)
        simp at hj
        simp only [List.getElem_map]
        exact (h j hj hj').fz h2 he hH n
    | tuple as =>
      cases h with
      | tuple _ vs h1 h =>
        refine .tuple _ vs (by simpa using h1) (fun j hj hj' => ?_)
        simp at hj
        simp only [List.getElem_map]
        exact (h j hj hj').fz h2 he hH n
    | iface t v =>
      cases h with
      | iface t v u h => exact .iface t _ u (h.fz h2 he hH n)
    | fn f as bs =>
      cases h with
      | fn f as bs fs' cs' h1 h2' hf hc =>
        refine .fn f _ _ fs' cs' (by simpa using h1) (by simpa using h2') (fun j hj hj' => ?_) (fun j hj hj' => ?_)
        · simp at hj
          simp only [List.getElem_map]
          exact (hf j hj hj').fz h2 he hH n
        · simp at hj
          simp only [List.getElem_map]
          exact (hc j hj hj').fz h2 he hH n
    | _ => exact h.mono hev

/-- A call whose arguments hold slices of the caller's own: these are let go. -/
theorem FT.letgo {f : FuncId} {as : List AV} {H : AHeap} {R : AV → AHeap → Prop} (i : Nat) {g : Nat} {cs : List AV} (n : Nat) (hH : H[i]? = some (.cells g cs))
    (h : FT P f (as.map (fz i g cs n)) (H.set i (.dead g)) R) : FT P f as H R := by
  refine ⟨h.1, fun X E w vals hr ha => ?_⟩
  obtain ⟨e, he, hb⟩ := hr.ent hH
  obtain ⟨hev, hr'⟩ := hr.kill he
  have hg : e.gen = g := hb.1
  subst hg
  refine (h.2 X _ w vals hr' ⟨by simpa using ha.1, fun j hj hj' => ?_⟩).mono ?_
  · simp at hj
    simp only [List.getElem_map]
    exact (ha.2 j hj hj').fz hr he hH n
  · rintro e w' ⟨v, rv, E', H', k1, k2, k3, k4, k5⟩
    exact ⟨v, rv, E', H', k1, k2, k3, k4, hev.trans k5⟩
end Go.AM

namespace Go.AM
set_option linter.unusedVariables false
set_option linter.unusedSimpArgs false

def mget {α β : Type} [DecidableEq α] : List (α × β) → α → Option β
  | [], _ => none
  | p :: l, a => if a = p.1 then some p.2 else mget l a
def mput {α β : Type} [DecidableEq α] : List (α × β) → α → β → List (α × β)
  | [], a, v => [(a, v)]
  | p :: l, a, v => if a = p.1 then (a, v) :: l else p :: mput l a v
theorem mget_mput {α β : Type} [DecidableEq α] (a : α) (v : β) (b : α) : ∀ l : List (α × β), mget (mput l a v) b = if b = a then some v else mget l b
  | [] => by simp [mget, mput]
  | p :: l => by
    simp only [mput]
    by_cases h : a = p.1
    · rw [if_pos h]
      simp only [mget]
      by_cases hb : b = a
      · simp [hb]
      · rw [if_neg hb, if_neg hb, if_neg (by rw [← h]; exact hb)]
    · rw [if_neg h]
      simp only [mget, mget_mput a v b l]
      by_cases hb : b = a
      · subst hb
        simp [h]
      · simp [hb]
theorem mput_len {α β : Type} [DecidableEq α] (a : α) (v : β) : ∀ l : List (α × β), (mput l a v).length = if (mget l a).isSome then l.length else l.length + 1
  | [] => by simp [mget, mput]
  | p :: l => by
    simp only [mput, mget]
    by_cases h : a = p.1
    · simp [h]
    · simp only [if_neg h, List.length_cons, mput_len a v l]
      split <;> rfl
theorem mget_some {α β : Type} [DecidableEq α] {a : α} {v : β} : ∀ {l : List (α × β)}, mget l a = some v → (a, v) ∈ l
  | p :: l, h => by
    simp only [mget] at h
    split at h
    · rename_i e
      subst e
      injection h with h
      subst h
      simp
    · exact List.mem_cons_of_mem _ (mget_some h)
theorem mget_none {α β : Type} [DecidableEq α] {a : α} : ∀ {l : List (α × β)}, mget l a = none ↔ a ∉ l.map (·.1)
  | [] => by simp [mget]
  | p :: l => by
    simp only [mget, List.map_cons, List.mem_cons, not_or]
    by_cases h : a = p.1
    · simp [h]
    · rw [if_neg h, mget_none]
      simp [h]
section
variable {α β : Type} [DecidableEq α] {agg : Bool} {ks : List LK} {K : α → AV} {C : α → List AV} {V : β → AV}
theorem lookA_map (hK : ∀ a, cellsK agg ks (K a) = some (C a)) (hC : ∀ a b, leavesA (C a) (C b) = decide (a = b)) (a : α) :
    ∀ l : List (α × β), lookA agg ks (C a) (l.map fun p => (K p.1, V p.2)) = some ((mget l a).map V)
  | [] => rfl
  | p :: l => by
    simp only [List.map_cons, lookA, hK, hC, decide_eq_true_eq, mget]
    split
    · rfl
    · exact lookA_map hK hC a l
theorem updA_map (hK : ∀ a, cellsK agg ks (K a) = some (C a)) (hC : ∀ a b, leavesA (C a) (C b) = decide (a = b)) (a : α) (v : β) :
    ∀ l : List (α × β), updA agg ks (C a) (K a) (V v) (l.map fun p => (K p.1, V p.2)) = some ((mput l a v).map fun p => (K p.1, V p.2))
  | [] => rfl
  | p :: l => by
    simp only [List.map_cons, updA, hK, hC, decide_eq_true_eq, mput]
    split
    · rfl
    · rw [updA_map hK hC a v l]
      rfl
/-- Of sets: all that is there is true. -/
theorem lookA_set (hK : ∀ a, cellsK agg ks (K a) = some (C a)) (hC : ∀ a b, leavesA (C a) (C b) = decide (a = b)) (a : α) {v : AV} :
    ∀ l : List α, lookA agg ks (C a) (l.map fun p => (K p, v)) = some (if a ∈ l then some v else none)
  | [] => by simp [lookA]
  | p :: l => by
    simp only [List.map_cons, lookA, hK, hC, decide_eq_true_eq, List.mem_cons]
    by_cases h : a = p
    · simp [h]
    · rw [if_neg h, lookA_set hK hC a l]
      simp [h]
theorem updA_set (hK : ∀ a, cellsK agg ks (K a) = some (C a)) (hC : ∀ a b, leavesA (C a) (C b) = decide (a = b)) (a : α) {v : AV} :
    ∀ l : List α, a ∉ l → updA agg ks (C a) (K a) v (l.map fun p => (K p, v)) = some ((l ++ [a]).map fun p => (K p, v))
  | [], _ => rfl
  | p :: l, h => by
    simp only [List.mem_cons, not_or] at h
    simp only [List.map_cons, updA, hK, hC, decide_eq_true_eq, if_neg h.1]
    rw [updA_set hK hC a l h.2]
    rfl
end
theorem alkp_set {α : Type} [DecidableEq α] {agg : Bool} {ks : List LK} {K : α → AV} {C : α → List AV} (hK : ∀ a, cellsK agg ks (K a) = some (C a)) (hC : ∀ a b, leavesA (C a) (C b) = decide (a = b))
    {H : AHeap} {i g : Nat} {S : List α} (hH : H[i]? = some (.map g (S.map fun p => (K p, .bool true)))) (a : α) : alkp agg ks (.bool false) false H (.mapr i g) (K a) = some (.bool (decide (a ∈ S))) := by
  simp only [alkp, amap, hH, if_pos, hK, lookA_set hK hC]
  by_cases h : a ∈ S <;> simp [h]
theorem aupd_set {α : Type} [DecidableEq α] {agg : Bool} {ks : List LK} {K : α → AV} {C : α → List AV} (hK : ∀ a, cellsK agg ks (K a) = some (C a)) (hC : ∀ a b, leavesA (C a) (C b) = decide (a = b))
    {H : AHeap} {i g : Nat} {S : List α} (hH : H[i]? = some (.map g (S.map fun p => (K p, .bool true)))) (a : α) (h : a ∉ S) : aupd agg ks H (.mapr i g) (K a) (.bool true) = some (H.set i (.map g ((S ++ [a]).map fun p => (K p, .bool true)))) := by
  simp only [aupd, hH, if_pos, hK, updA_set hK hC a S h]
/-- A pair of numbers, as a key. -/
theorem pairK {q q' : IntKind} (p : Int × Int) : cellsK true [.int q, .int q'] (.agg [.int q p.1, .int q' p.2]) = some [.int q p.1, .int q' p.2] := by simp [cellsK, fitsA, LK.fitsA]
theorem pairC {q q' : IntKind} (p r : Int × Int) : leavesA [.int q p.1, .int q' p.2] [.int q r.1, .int q' r.2] = decide (p = r) := by
  obtain ⟨a, b⟩ := p
  obtain ⟨c, d⟩ := r
  simp [leavesA, leafA]
theorem intK {q : IntKind} (p : Int) : cellsK false [.int q] (.int q p) = some [.int q p] := by simp [cellsK, fitsA, LK.fitsA]
theorem intC {q : IntKind} (p r : Int) : leavesA [.int q p] [.int q r] = decide (p = r) := by simp [leavesA, leafA]
theorem strK (p : ByteArray) : cellsK false [.str] (.str p) = some [.str p] := by simp [cellsK, fitsA, LK.fitsA]
theorem strC (p r : ByteArray) : leavesA [.str p] [.str r] = decide (p = r) := by simp [leavesA, leafA]
theorem app_flat {α : Type} {sz : Nat} {f : α → List AV} {l l' : List α} (h : ∀ x, (f x).length = sz) : ((l.map f).flatten.take (l.length * sz) ++ (l'.map f).flatten) = ((l ++ l').map f).flatten := by
  rw [← len_flat h, List.take_length]
  simp
theorem flat_RL {α : Type} {n : Nat} {f : α → List AV} (h : ∀ x, ∀ y ∈ f x, RL n y) (l : List α) : ∀ y ∈ (l.map f).flatten, RL n y := by
  intro y hy
  obtain ⟨x, hx, hy⟩ := List.mem_flatten.1 hy
  obtain ⟨a, _, rfl⟩ := List.mem_map.1 hx
  exact h a y hy
theorem drop_flat {α : Type} {sz : Nat} {f : α → List AV} (h : ∀ x, (f x).length = sz) : ∀ (k : Nat) (l : List α), (l.map f).flatten.drop (k * sz) = ((l.drop k).map f).flatten
  | 0, l => by simp
  | k + 1, [] => by simp
  | k + 1, x :: l => by
    simp only [List.map_cons, List.flatten_cons, List.drop_succ_cons]
    rw [← drop_flat h k l, show (k + 1) * sz = (f x).length + k * sz by rw [h x, Nat.add_mul]; omega, List.drop_append]
    simp
theorem drop_flat_at {α : Type} {sz : Nat} {f : α → List AV} (h : ∀ x, (f x).length = sz) (D L : List α) : ((D ++ L).map f).flatten.drop (D.length * sz) = (L.map f).flatten := by
  rw [drop_flat h, List.drop_left]
theorem take_flat {α : Type} {sz : Nat} {f : α → List AV} (h : ∀ x, (f x).length = sz) (L : List α) : (L.map f).flatten.take (L.length * sz) = (L.map f).flatten := by
  rw [← len_flat h, List.take_length]
theorem count_le {α : Type} {p q : α → Bool} (h : ∀ x, q x = true → p x = true) : ∀ l : List α, l.countP q ≤ l.countP p
  | [] => Nat.le_refl _
  | x :: l => by
    have := count_le h l
    simp only [List.countP_cons]
    by_cases hq : q x = true
    · simp [hq, h x hq]; omega
    · simp [hq]; omega
theorem count_less {α : Type} {p q : α → Bool} (h : ∀ x, q x = true → p x = true) {a : α} (ha : p a = true) (hb : q a = false) : ∀ {l : List α}, a ∈ l → l.countP q + 1 ≤ l.countP p
  | x :: l, hm => by
    simp only [List.countP_cons]
    rcases List.mem_cons.1 hm with rfl | hm
    · have := count_le h l
      simp [ha, hb]; omega
    · have := count_less h ha hb hm
      by_cases hq : q x = true
      · simp [hq, h x hq]; omega
      · simp [hq]; omega
@[simp] theorem aSlc_loc_lo {H : AHeap} {i g off len sz sz' : Nat} {c : Bool} {q : IntKind} {n : Int} :
    aSlc H sz (.loc i g off len sz' c) (some (.int q n)) none none = if (sz' = sz ∧ alive H i g = true) ∧ 0 ≤ n ∧ n ≤ len then some (.loc i g (off + n.toNat * sz) (len - n.toNat) sz c) else none := by
  unfold aSlc
  by_cases hs : sz' = sz ∧ alive H i g = true
  · by_cases h : 0 ≤ n ∧ n ≤ len
    · simp [hs, h, aint]
    · simp only [hs, aint, if_true, Option.map, if_neg h]
      simp [h]
  · simp [hs]
theorem flat_mid {α : Type} {sz : Nat} {f : α → List AV} (h : ∀ x, (f x).length = sz) (D L : List α) :
    (((D ++ L).map f).flatten.drop (D.length * sz)).take (L.length * sz) = (L.map f).flatten ∧ D.length * sz + L.length * sz ≤ ((D ++ L).map f).flatten.length := by
  constructor
  · rw [drop_flat_at h, take_flat h]
  · rw [len_flat h, List.length_append, Nat.add_mul]
    exact Nat.le_refl _
theorem load_flat {α : Type} {sz : Nat} {f : α → List AV} (h : ∀ x, (f x).length = sz) (D L : List α) (x : α) : loadCs sz true (((D ++ x :: L).map f).flatten.drop (D.length * sz)) = some (.agg (f x)) := by
  rw [drop_flat_at h]
  simp only [List.map_cons, List.flatten_cons, loadCs]
  rw [if_pos (by rw [List.length_append, h x]; omega), List.take_left' (h x)]
  rfl
section
variable {α : Type} [DecidableEq α] {agg : Bool} {ks : List LK} {K : α → AV} {C : α → List AV} {v : AV}
theorem lookA_in (hK : ∀ a, cellsK agg ks (K a) = some (C a)) (hC : ∀ a b, leavesA (C a) (C b) = decide (a = b)) {a : α} {l : List α} (h : a ∈ l) : lookA agg ks (C a) (l.map fun p => (K p, v)) = some (some v) := by
  rw [lookA_set hK hC]
  simp [h]
theorem lookA_out (hK : ∀ a, cellsK agg ks (K a) = some (C a)) (hC : ∀ a b, leavesA (C a) (C b) = decide (a = b)) {a : α} {l : List α} (h : a ∉ l) : lookA agg ks (C a) (l.map fun p => (K p, v)) = some none := by
  rw [lookA_set hK hC]
  simp [h]
end
theorem set_RL {α : Type} {n g : Nat} {K : α → AV} {v : AV} (hK : ∀ a, RL n (K a)) (hv : RL n v) (l : List α) : RLB n (.map g (l.map fun p => (K p, v))) := by
  rintro y hy
  obtain ⟨p, _, rfl⟩ := List.mem_map.1 hy
  exact ⟨hK p, hv⟩
/-- Things, told one behind the other. -/
def fl {α : Type} (f : α → List AV) (l : List α) : List AV := (l.map f).flatten
section
variable {α : Type} {sz n : Nat} {f : α → List AV}
theorem fl_def (l : List α) : (l.map f).flatten = fl f l := rfl
theorem fl_nil : fl f ([] : List α) = [] := rfl
theorem fl_cons (x : α) (l : List α) : fl f (x :: l) = f x ++ fl f l := by simp [fl]
theorem fl_app (l l' : List α) : fl f (l ++ l') = fl f l ++ fl f l' := by simp [fl]
theorem fl_len (h : ∀ x, (f x).length = sz) (l : List α) : (fl f l).length = l.length * sz := len_flat h
theorem app_fl (h : ∀ x, (f x).length = sz) (l l' : List α) : (fl f l).take (l.length * sz) ++ fl f l' = fl f (l ++ l') := app_flat h
theorem fl_mid (h : ∀ x, (f x).length = sz) (D L : List α) : ((fl f (D ++ L)).drop (D.length * sz)).take (L.length * sz) = fl f L ∧ D.length * sz + L.length * sz ≤ (fl f (D ++ L)).length := flat_mid h D L
theorem load_fl (h : ∀ x, (f x).length = sz) (D L : List α) (x : α) : loadCs sz true ((fl f (D ++ x :: L)).drop (D.length * sz)) = some (.agg (f x)) := load_flat h D L x
theorem fl_RL (h : ∀ x, ∀ y ∈ f x, RL n y) (l : List α) : ∀ y ∈ fl f l, RL n y := flat_RL h l
theorem chunk_fl (h : ∀ x, (f x).length = sz) (l : List α) : chunk sz (fl f l) l.length = l.map f := chunk_flat h
theorem chunk_mid (h : ∀ x, (f x).length = sz) (D L : List α) : chunk sz ((fl f (D ++ L)).drop (D.length * sz)) L.length = L.map f := by
  unfold fl
  rw [drop_flat_at h]
  exact chunk_flat h
end
end Go.AM

namespace Go.AM
set_option linter.unusedVariables false
set_option linter.unusedSimpArgs false
variable {P : Program}

/-- A value, without what is known of its slices' ends; a nil slice stays. -/
def dcl : Nat → AV → AV
  | 0, av => av
  | n + 1, av => match av with
    | .rows c sz es => .rows false sz (es.map fun e => e.map (dcl n))
    | .agg as => .agg (as.map (dcl n))
    | .tuple as => .tuple (as.map (dcl n))
    | av => av
theorem VR.dcl {X : Nat → Prop} {E : Env} {w : World} : ∀ (n : Nat) {av : AV} {v : Value}, VR X E w av v → VR X E w (dcl n av) v
  | 0, av, v, h => h
  | n + 1, av, v, h => by
    cases av with
    | rows c sz es =>
      cases h with
      | rows clip sz es a c ad f hn hc hclip hsz ha hL hcell hv =>
        simp only [Go.AM.dcl]
        have e : es.length = (es.map fun e => e.map (Go.AM.dcl n)).length := by simp
        rw [e]
        refine .rows _ sz _ a c ad f (by simpa using hn) (by simpa using hc) (fun h => by cases h) (fun i hi => ?_) (fun h0 => ha (by simpa using h0)) (fun h0 hz => hL (by simpa using h0) hz) (fun i j hi hj => hcell i j (by simpa using hi) hj) (fun i hi j hj => ?_)
        · simp only [List.getElem_map, List.length_map]
          exact hsz i (by simpa using hi)
        · simp only [List.getElem_map]
          simp at hi
          simp only [List.getElem_map, List.length_map] at hj
          exact (hv i hi j hj).dcl n
    | agg as =>
      cases h with
      | agg _ vs h1 h =>
        refine .agg _ vs (by simpa using h1) (fun j hj hj' => ?_)
        simp at hj
        simp only [List.getElem_map]
        exact (h j hj hj').dcl n
    | tuple as =>
      cases h with
      | tuple _ vs h1 h =>
        refine .tuple _ vs (by simpa using h1) (fun j hj hj' => ?_)
        simp at hj
        simp only [List.getElem_map]
        exact (h j hj hj').dcl n
    | _ => exact h
theorem FT.dcl {f : FuncId} {as : List AV} {H : AHeap} {R : AV → AHeap → Prop} (n : Nat) (h : FT P f (as.map (Go.AM.dcl n)) H R) : FT P f as H R := by
  refine ⟨h.1, fun X E w vals hr ha => h.2 X E w vals hr ⟨by simpa using ha.1, fun j hj hj' => ?_⟩⟩
  simp at hj
  simp only [List.getElem_map]
  exact (ha.2 j hj hj').dcl n
end Go.AM
