/- The closure of constraints, and a graph where nothing waits: what the one says the other says. -/
import Derived.Test.YtpdjffpdanmoeaaGreatL2
import Derived.KernelRfl
namespace Go.AM
set_option linter.unusedVariables false
set_option linter.unusedSimpArgs false
structure Sk where
 kd:Int→Int
 wk:Int→Int→Int
 ps:Int→Int→List (Int×Int)
 pA:Int→Int
 pB:Int→Int
 none:∀ x y,x=y∨kd x=0∨kd y=1→ps x y=[]∧wk x y=0
 un:∀ x y,¬ (x=y∨kd x=0∨kd y=1)→kd x=4→ps x y=[(pA x,y),(pB x,y)]∧wk x y=1
 int:∀ x y,¬ (x=y∨kd x=0∨kd y=1)→kd x≠4→kd y=5→ps x y=[(x,pA y),(x,pB y)]∧wk x y=1
 atm:∀ x y,¬ (x=y∨kd x=0∨kd y=1)→kd x≠4→kd y≠5→kd x=2∨kd y=2→ps x y=[]∧wk x y=2
 rest:∀ x y,¬ (x=y∨kd x=0∨kd y=1)→kd x≠4→kd y≠5→¬ (kd x=2∨kd y=2)→wk x y≠2
 clash:∀ x y,wk x y=3→(kd x=1∨kd x=3)∧(kd y=0∨kd y=3)
 parts:∀ x,kd x=4∨kd x=5→(0≤pA x∧pA x<x)∧0≤pB x∧pB x<x
namespace Sk
variable (K:Sk)
inductive Cl (first:Int×Int→Prop):Int→Int→Prop
 | base {x y}:first (x,y)→Cl first x y
 | step {x y u v}:Cl first x y→(u,v)∈K.ps x y→Cl first u v
 | trans {x Y z}:Cl first x Y→K.kd Y=2→Cl first Y z→Cl first x z
theorem Cl.mono {f f':Int×Int→Prop} (h:∀ p,f p→f' p) {x y}:K.Cl f x y→K.Cl f' x y:=by
 intro c
 induction c with
 | base h1=>exact .base (h _ h1)
 | step _ h1 ih=>exact .step ih h1
 | trans _ h1 _ ih ih'=>exact .trans ih h1 ih'
def lb (x:Int):Prop:=K.kd x=1∨K.kd x=2∨K.kd x=3
def rb (x:Int):Prop:=K.kd x=0∨K.kd x=2∨K.kd x=3∨K.kd x=6
structure Done (S:Int×Int→Prop) (first:Int×Int→Prop) (rep:Int→Int) (up dn:Int→Int→Prop):Prop where
 rnv:∀ x,K.kd x≠2→rep x=x
 rv:∀ x,K.kd x=2→K.kd (rep x)=2
 idem:∀ x,rep (rep x)=rep x
 upk:∀ x y,up x y→K.kd y=2∧rep x=x∧rep y=y
 dnk:∀ x y,dn x y→K.kd x=2∧rep x=x∧rep y=y
 F0:∀ x y,first (x,y)→S (x,y)
 F1:∀ x y,S (x,y)→K.lb x→K.rb y→x=y∨(K.kd x≠2∧K.kd y≠2)∨rep x=rep y∨up (rep x) (rep y)∨dn (rep x) (rep y)
 F2:∀ x v y,up x v→dn v y→x=y∨(K.kd x≠2∧K.kd y≠2∧S (x,y))∨up x y∨dn x y
 F3:∀ x y u v,S (x,y)→(u,v)∈K.ps x y→S (u,v)
 side:∀ x y,S (x,y)→(0≤K.kd x∧K.kd x≤6∧K.kd x≠5∧K.kd x≠6)∧0≤K.kd y∧K.kd y≤6∧K.kd y≠4
 inr:∀ x y,S (x,y)→0≤x∧0≤y
section
variable {K}
inductive Up (up:Int→Int→Prop):Int→Int→Prop
 | nil (x):Up up x x
 | snoc {x y z}:Up up x y→up y z→Up up x z
inductive Dn (dn:Int→Int→Prop):Int→Int→Prop
 | nil (x):Dn dn x x
 | cons {x y z}:dn x y→Dn dn y z→Dn dn x z
theorem Up.cons {up:Int→Int→Prop} {x y z} (h:up x y) (h1:Up up y z):Up up x z:=by
 induction h1 with
 | nil=>exact .snoc (.nil _) h
 | snoc _ h2 ih=>exact .snoc ih h2
theorem Up.trans {up:Int→Int→Prop} {x y z} (h:Up up x y) (h1:Up up y z):Up up x z:=by
 induction h1 with
 | nil=>exact h
 | snoc _ h2 ih=>exact .snoc ih h2
variable {S first:Int×Int→Prop} {rep:Int→Int} {up dn:Int→Int→Prop}
def Way (K:Sk) (S:Int×Int→Prop) (up dn:Int→Int→Prop) (x y:Int):Prop :=
 (∃ m,Dn dn x m∧Up up m y∧(K.kd m=2∨m=x∨m=y))∨(K.kd x≠2∧K.kd y≠2∧S (x,y))
theorem Dn.var (hD:K.Done S first rep up dn) {x y} (h:Dn dn x y):x=y∨K.kd x=2:=by
 cases h with
 | nil=>exact .inl rfl
 | cons h _=>exact .inr (hD.dnk _ _ h).1
theorem Up.var (hD:K.Done S first rep up dn) {x y} (h:Up up x y):x=y∨K.kd y=2:=by
 cases h with
 | nil=>exact .inl rfl
 | snoc _ h=>exact .inr (hD.upk _ _ h).1
theorem Way.up1 (hD:K.Done S first rep up dn) {v m y:Int} (hd:Dn dn v m):∀ x,up x v→Up up m y→(K.kd m=2∨m=v∨m=y)→Way K S up dn x y:=by
 induction hd with
 | nil v =>
  intro x h hu _
  exact .inl ⟨x,.nil _,.cons h hu,.inr (.inl rfl)⟩
 | @cons v t m h1 hd ih =>
  intro x h hu hm
  have hm':K.kd m=2∨m=y:=by
   rcases hm with hm|hm|hm
   ·exact .inl hm
   ·rw [hm];exact .inl (hD.dnk _ _ h1).1
   ·exact .inr hm
  rcases hD.F2 x v t h h1 with rfl|⟨q1,q2,q3⟩|q|q
  ·exact .inl ⟨m,hd,hu,hm'.elim .inl (fun h=>.inr (.inr h))⟩
  ·have e:t=m:=by
    rcases hd.var hD with h|h
    ·exact h
    ·exact absurd h q2
   subst e
   have e:t=y:=by
    rcases hm' with h|h
    ·exact absurd h q2
    ·exact h
   subst e
   exact .inr ⟨q1,q2,q3⟩
  ·exact ih x q hu (hm'.elim .inl (fun h=>.inr (.inr h)))
  ·exact .inl ⟨m,.cons q hd,hu,hm'.elim .inl (fun h=>.inr (.inr h))⟩
theorem Way.edge (hD:K.Done S first rep up dn) {x v y:Int} (h:up x v∨dn x v) (hv:K.kd v=2) (hw:Way K S up dn v y):Way K S up dn x y:=by
 rcases hw with ⟨m,hd,hu,hm⟩|⟨q,_,_⟩
 ·rcases h with h|h
  ·exact Way.up1 hD hd x h hu hm
  ·refine .inl ⟨m,.cons h hd,hu,?_⟩
   rcases hm with hm|hm|hm
   ·exact .inl hm
   ·exact .inl (hm▸hv)
   ·exact .inr (.inr hm)
 ·exact absurd hv q
inductive Pth (K:Sk) (up dn:Int→Int→Prop):Int→Int→Prop
 | one {x y}:up x y∨dn x y→Pth K up dn x y
 | cons {x v y}:up x v∨dn x v→K.kd v=2→Pth K up dn v y→Pth K up dn x y
theorem Pth.trans {x v y:Int} (h:Pth K up dn x v) (hv:K.kd v=2) (h1:Pth K up dn v y):Pth K up dn x y:=by
 induction h with
 | one h=>exact .cons h hv h1
 | cons h h2 _ ih=>exact .cons h h2 (ih hv h1)
theorem Pth.way (hD:K.Done S first rep up dn) {x y:Int} (h:Pth K up dn x y):Way K S up dn x y:=by
 induction h with
 | one h =>
  rcases h with h|h
  ·exact .inl ⟨_,.nil _,.cons h (.nil _),.inr (.inl rfl)⟩
  ·exact .inl ⟨_,.cons h (.nil _),.nil _,.inr (.inr rfl)⟩
 | cons h hv _ ih=>exact ih.edge hD h hv
def Bw (K:Sk) (S:Int×Int→Prop) (rep:Int→Int) (up dn:Int→Int→Prop) (x y:Int):Prop :=
 rep x=rep y∨(K.kd x≠2∧K.kd y≠2∧S (x,y))∨Pth K up dn (rep x) (rep y)
theorem Bw.trans (hD:K.Done S first rep up dn) {x Y z:Int} (h:Bw K S rep up dn x Y) (hY:K.kd Y=2) (h1:Bw K S rep up dn Y z):Bw K S rep up dn x z:=by
 rcases h with h|⟨_,h,_⟩|h
 ·rcases h1 with h1|⟨h1,_,_⟩|h1
  ·exact .inl (h.trans h1)
  ·exact absurd hY h1
  ·exact .inr (.inr (h▸h1))
 ·exact absurd hY h
 ·rcases h1 with h1|⟨h1,_,_⟩|h1
  ·exact .inr (.inr (h1▸h))
  ·exact absurd hY h1
  ·exact .inr (.inr (h.trans (hD.rv _ hY) h1))
inductive R (K:Sk) (S:Int×Int→Prop) (rep:Int→Int) (up dn:Int→Int→Prop):Int→Int→Prop
 | zero {x y}:K.kd x=0→R K S rep up dn x y
 | one {x y}:K.kd y=1→R K S rep up dn x y
 | un {x y}:K.kd x=4→R K S rep up dn (K.pA x) y→R K S rep up dn (K.pB x) y→R K S rep up dn x y
 | int {x y}:K.kd y=5→R K S rep up dn x (K.pA y)→R K S rep up dn x (K.pB y)→R K S rep up dn x y
 | bs {x y}:K.lb x→K.rb y→Bw K S rep up dn x y→R K S rep up dn x y
theorem R.unI {x y:Int} (h:R K S rep up dn x y) (hk:K.kd x=4):R K S rep up dn (K.pA x) y∧R K S rep up dn (K.pB x) y:=by
 induction h with
 | zero h=>omega
 | one h=>exact ⟨.one h,.one h⟩
 | un _ h1 h2=>exact ⟨h1,h2⟩
 | int h _ _ i1 i2=>exact ⟨.int h (i1 hk).1 (i2 hk).1,.int h (i1 hk).2 (i2 hk).2⟩
 | bs h _ _=>unfold lb at h;omega
theorem R.intI {x y:Int} (h:R K S rep up dn x y) (hk:K.kd y=5):R K S rep up dn x (K.pA y)∧R K S rep up dn x (K.pB y):=by
 induction h with
 | zero h=>exact ⟨.zero h,.zero h⟩
 | one h=>omega
 | un h _ _ i1 i2=>exact ⟨.un h (i1 hk).1 (i2 hk).1,.un h (i1 hk).2 (i2 hk).2⟩
 | int _ h1 h2=>exact ⟨h1,h2⟩
 | bs _ h _=>unfold rb at h;omega
theorem R.trans (hD:K.Done S first rep up dn) {x Y z:Int} (h:R K S rep up dn x Y) (hY:K.kd Y=2) (h1:R K S rep up dn Y z):R K S rep up dn x z:=by
 induction h with
 | zero h=>exact .zero h
 | one h=>omega
 | un h _ _ i1 i2=>exact .un h (i1 hY h1) (i2 hY h1)
 | int h=>omega
 | @bs x Y hx hy0 hb =>
  clear hy0
  induction h1 with
  | zero h=>omega
  | one h=>exact .one h
  | un h=>omega
  | int h _ _ i1 i2=>exact .int h (i1 hb hY) (i2 hb hY)
  | bs _ hz hb'=>exact .bs hx hz (hb.trans hD hY hb')
theorem Done.seen (hD:K.Done S first rep up dn):∀ (n:Nat) (x y:Int),x.toNat+y.toNat<n→S (x,y)→R K S rep up dn x y
 | 0,x,y,h,_=>by omega
 | n+1,x,y,h,hs=>by
  obtain ⟨s1,s2,s3,s4⟩:=hD.side x y hs
  have hin:=hD.inr x y hs
  by_cases h0:K.kd x=0
  ·exact .zero h0
  by_cases h1:K.kd y=1
  ·exact .one h1
  by_cases he:x=y
  ·subst he
   exact .bs (by unfold lb;omega) (by unfold rb;omega) (.inl rfl)
  have hn:¬ (x=y∨K.kd x=0∨K.kd y=1):=by omega
  by_cases h4:K.kd x=4
  ·have hp:=K.parts x (.inl h4)
   have e:=(K.un x y hn h4).1
   exact .un h4 (hD.seen n _ _ (by omega) (hD.F3 x y _ _ hs (by rw [e];simp))) (hD.seen n _ _ (by omega) (hD.F3 x y _ _ hs (by rw [e];simp)))
  by_cases h5:K.kd y=5
  ·have hp:=K.parts y (.inr h5)
   have e:=(K.int x y hn h4 h5).1
   exact .int h5 (hD.seen n _ _ (by omega) (hD.F3 x y _ _ hs (by rw [e];simp))) (hD.seen n _ _ (by omega) (hD.F3 x y _ _ hs (by rw [e];simp)))
  have hl:K.lb x:=by unfold lb;omega
  have hr:K.rb y:=by unfold rb;omega
  refine .bs hl hr ?_
  rcases hD.F1 x y hs hl hr with q|⟨q1,q2⟩|q|q|q
  ·exact absurd q he
  ·exact .inr (.inl ⟨q1,q2,hs⟩)
  ·exact .inl q
  ·exact .inr (.inr (.one (.inl q)))
  ·exact .inr (.inr (.one (.inr q)))
theorem Done.both (hD:K.Done S first rep up dn) {x y:Int} (hx:K.kd x≠2) (hy:K.kd y≠2) (h:Bw K S rep up dn x y):x=y∨S (x,y):=by
 rcases h with h|h|h
 ·rw [hD.rnv x hx,hD.rnv y hy] at h
  exact .inl h
 ·exact .inr h.2.2
 ·rw [hD.rnv x hx,hD.rnv y hy] at h
  rcases h.way hD with ⟨m,hd,hu,_⟩|h
  ·have e:x=m:=by
    rcases hd.var hD with h|h
    ·exact h
    ·exact absurd h hx
   subst e
   have e:x=y:=by
    rcases hu.var hD with h|h
    ·exact h
    ·exact absurd h hy
   exact .inl e
  ·exact .inr h.2.2
theorem Done.whole (hD:K.Done S first rep up dn) {x y:Int} (h:K.Cl first x y):R K S rep up dn x y:=by
 induction h with
 | base h=>exact hD.seen _ _ _ (Nat.lt_succ_self _) (hD.F0 _ _ h)
 | trans _ h _ i1 i2=>exact i1.trans hD h i2
 | @step x y u v _ hm ih =>
  by_cases hn:x=y∨K.kd x=0∨K.kd y=1
  ·rw [(K.none x y hn).1] at hm
   simp at hm
  by_cases h4:K.kd x=4
  ·rw [(K.un x y hn h4).1] at hm
   have:=ih.unI h4
   simp at hm
   rcases hm with ⟨rfl,rfl⟩|⟨rfl,rfl⟩
   ·exact this.1
   ·exact this.2
  by_cases h5:K.kd y=5
  ·rw [(K.int x y hn h4 h5).1] at hm
   have:=ih.intI h5
   simp at hm
   rcases hm with ⟨rfl,rfl⟩|⟨rfl,rfl⟩
   ·exact this.1
   ·exact this.2
  by_cases h2:K.kd x=2∨K.kd y=2
  ·rw [(K.atm x y hn h4 h5 h2).1] at hm
   simp at hm
  cases ih with
  | zero h=>omega
  | one h=>omega
  | un h=>omega
  | int h=>omega
  | bs _ _ hb =>
   rcases hD.both (by omega) (by omega) hb with h|h
   ·omega
   ·exact hD.seen _ _ _ (Nat.lt_succ_self _) (hD.F3 _ _ _ _ h hm)
theorem Done.clash (hD:K.Done S first rep up dn) {x y:Int} (h:K.Cl first x y) (hw:K.wk x y=3):S (x,y):=by
 have hk:=K.clash x y hw
 have hne:¬ (x=y∨K.kd x=0∨K.kd y=1):=fun hn=>by
  have:=(K.none x y hn).2
  omega
 cases hD.whole h with
 | zero h=>omega
 | one h=>omega
 | un h=>omega
 | int h=>omega
 | bs _ _ hb =>
  rcases hD.both (by omega) (by omega) hb with h|h
  ·omega
  ·exact h
theorem Done.below (hD:K.Done S first rep up dn) {x v:Int} (h:K.Cl first x v) (hx:K.kd x=1∨K.kd x=3) (hv:K.kd v=2):Up up x (rep v):=by
 cases hD.whole h with
 | zero h=>omega
 | one h=>omega
 | un h=>omega
 | int h=>omega
 | bs _ _ hb =>
  have hrv:=hD.rv v hv
  rcases hb with h|h|h
  ·rw [hD.rnv x (by omega)] at h
   rw [←h] at hrv
   omega
  ·omega
  ·rw [hD.rnv x (by omega)] at h
   rcases h.way hD with ⟨m,hd,hu,_⟩|h
   ·have e:x=m:=by
     rcases hd.var hD with h|h
     ·exact h
     ·omega
    exact e▸hu
   ·omega
structure Sound (S:Int×Int→Prop) (first:Int×Int→Prop) (rep:Int→Int) (up dn:Int→Int→Prop):Prop where
 seen:∀ x y,S (x,y)→K.Cl first x y
 up:∀ x y,up x y→K.Cl first x y
 dn:∀ x y,dn x y→K.Cl first x y
 rep:∀ x,K.kd x=2→x=rep x∨K.Cl first x (rep x)∧K.Cl first (rep x) x
theorem Sound.ways (hD:K.Done S first rep up dn) (hs:K.Sound S first rep up dn) {x y:Int} (h:Up up x y):x=y∨K.Cl first x y:=by
 induction h with
 | nil=>exact .inl rfl
 | @snoc y z h1 h2 ih =>
  rcases ih with rfl|ih
  ·exact .inr (hs.up _ _ h2)
  ·rcases h1.var hD with h|h
   ·subst h;exact .inr (hs.up _ _ h2)
   ·exact .inr (.trans ih h (hs.up _ _ h2))
theorem below_iff (hD:K.Done S first rep up dn) (hs:K.Sound S first rep up dn) {x v:Int} (hx:K.kd x=1∨K.kd x=3) (hv:K.kd v=2):K.Cl first x v↔Up up x (rep v):=by
 refine ⟨fun h=>hD.below h hx hv,fun h=>?_⟩
 have hrv:=hD.rv v hv
 rcases hs.ways hD h with h|h
 ·rw [h] at hx;omega
 ·rcases hs.rep v hv with e|⟨_,e⟩
  ·rw [e];exact h
  ·exact .trans h hrv e
end
end Sk
end Go.AM
namespace Go.AM
set_option linter.unusedVariables false
set_option linter.unusedSimpArgs false
namespace Sk
structure Gh where
 rep:Int→Int
 pre:Int→Int→Prop
 suc:Int→Int→Prop
def Gh.up (G:Gh) (x y:Int):Prop:=∃ z,G.pre y z∧G.rep z=x
def Gh.dn (G:Gh) (x y:Int):Prop:=∃ t,G.suc x t∧G.rep t=y
variable (K:Sk)
def Cov (S Q:Int×Int→Prop) (G:Gh) (x y:Int):Prop :=
 (∃ q1 q2,Q (q1,q2)∧G.rep q1=G.rep x∧G.rep q2=G.rep y)∨G.rep x=G.rep y∨(K.kd x≠2∧K.kd y≠2∧S (x,y))∨G.up (G.rep x) (G.rep y)∨G.dn (G.rep x) (G.rep y)
structure Inv (first:Int×Int→Prop) (lt:Int→Int→Prop) (S Q:Int×Int→Prop) (G:Gh):Prop where
 rnv:∀ x,K.kd x≠2→G.rep x=x
 rv:∀ x,K.kd x=2→K.kd (G.rep x)=2
 idem:∀ x,G.rep (G.rep x)=G.rep x
 pk:∀ v z,G.pre v z→(K.kd v=2∧G.rep v=v)∧K.lb z
 sk:∀ v t,G.suc v t→(K.kd v=2∧G.rep v=v)∧K.rb t
 QS:∀ p,Q p→S p
 I1:∀ x y,S (x,y)→K.lb x→K.rb y→K.Cov S Q G x y
 I2:∀ v z t,G.pre v z→G.suc v t→K.Cov S Q G z t
 I3:∀ x y u v,S (x,y)→¬ Q (x,y)→(u,v)∈K.ps x y→S (u,v)
 side:∀ x y,S (x,y)→(0≤K.kd x∧K.kd x≤6∧K.kd x≠5∧K.kd x≠6)∧0≤K.kd y∧K.kd y≤6∧K.kd y≠4
 inr:∀ x y,S (x,y)→0≤x∧0≤y
 seen:∀ x y,S (x,y)→K.Cl first x y
 cp:∀ v z,G.pre v z→K.Cl first z v
 cs:∀ v t,G.suc v t→K.Cl first v t
 crep:∀ x,K.kd x=2→x=G.rep x∨K.Cl first x (G.rep x)∧K.Cl first (G.rep x) x
 pl:∀ v z,G.pre v z→K.kd z=2→lt (G.rep z) v
 sl:∀ v t,G.suc v t→K.kd t=2→lt (G.rep t) v
variable {K} {first S Q:Int×Int→Prop} {lt:Int→Int→Prop} {G:Gh}
theorem Inv.done (h:K.Inv first lt S Q G) (h0:∀ p,first p→S p) (hQ:∀ p,¬ Q p):K.Done S first G.rep G.up G.dn where
 rnv:=h.rnv
 rv:=h.rv
 idem:=h.idem
 upk:=fun x y ⟨z,h1,h2⟩=>⟨(h.pk _ _ h1).1.1,by rw [←h2,h.idem],(h.pk _ _ h1).1.2⟩
 dnk:=fun x y ⟨z,h1,h2⟩=>⟨(h.sk _ _ h1).1.1,(h.sk _ _ h1).1.2,by rw [←h2,h.idem]⟩
 F0:=fun x y=>h0 _
 F1:=fun x y hs hx hy=>by
  rcases h.I1 x y hs hx hy with ⟨_,_,q,_⟩|q|q|q|q
  ·exact absurd q (hQ _)
  ·exact .inr (.inr (.inl q))
  ·exact .inr (.inl ⟨q.1,q.2.1⟩)
  ·exact .inr (.inr (.inr (.inl q)))
  ·exact .inr (.inr (.inr (.inr q)))
 F2:=fun x v y ⟨z,h1,h2⟩ ⟨t,h3,h4⟩=>by
  subst h2 h4
  rcases h.I2 v z t h1 h3 with ⟨_,_,q,_⟩|q|q|q|q
  ·exact absurd q (hQ _)
  ·exact .inl q
  ·rw [h.rnv _ q.1,h.rnv _ q.2.1];exact .inr (.inl q)
  ·exact .inr (.inr (.inl q))
  ·exact .inr (.inr (.inr q))
 F3:=fun x y u v hs=>h.I3 x y u v hs (hQ _)
 side:=h.side
 inr:=h.inr
theorem Inv.rl (h:K.Inv first lt S Q G) {z:Int} (hz:K.lb z):K.lb (G.rep z):=by
 by_cases h2:K.kd z=2
 ·exact .inr (.inl (h.rv z h2))
 ·rw [h.rnv z h2];exact hz
theorem Inv.rr (h:K.Inv first lt S Q G) {z:Int} (hz:K.rb z):K.rb (G.rep z):=by
 by_cases h2:K.kd z=2
 ·exact .inr (.inl (h.rv z h2))
 ·rw [h.rnv z h2];exact hz
def Eqv (K:Sk) (first:Int×Int→Prop) (x y:Int):Prop:=x=y∨K.Cl first x y∧K.Cl first y x
theorem Inv.eqv (h:K.Inv first lt S Q G) (x:Int):Eqv K first x (G.rep x):=by
 by_cases h2:K.kd x=2
 ·exact h.crep x h2
 ·exact .inl (h.rnv x h2).symm
theorem Eqv.symm {x y:Int} (h:Eqv K first x y):Eqv K first y x:=h.elim (fun h=>.inl h.symm) (fun h=>.inr ⟨h.2,h.1⟩)
theorem Eqv.trans {x y z:Int} (h:Eqv K first x y) (hy:K.kd y=2) (h1:Eqv K first y z):Eqv K first x z:=by
 rcases h with rfl|h
 ·exact h1
 ·rcases h1 with rfl|h1
  ·exact .inr h
  ·exact .inr ⟨.trans h.1 hy h1.1,.trans h1.2 hy h.2⟩
theorem Eqv.cl {x y z:Int} (h:Eqv K first x y) (hy:K.kd y=2) (h1:K.Cl first y z):K.Cl first x z:=by
 rcases h with rfl|h
 ·exact h1
 ·exact .trans h.1 hy h1
theorem Eqv.cl' {x y z:Int} (h1:K.Cl first x y) (hy:K.kd y=2) (h:Eqv K first y z):K.Cl first x z:=by
 rcases h with rfl|h
 ·exact h1
 ·exact .trans h1 hy h.1
theorem Inv.clr (h:K.Inv first lt S Q G) {x y:Int} (hc:K.Cl first x y):K.Cl first (G.rep x) (G.rep y):=by
 have h1:K.Cl first (G.rep x) y:=by
  by_cases h2:K.kd x=2
  ·exact (h.eqv x).symm.cl h2 hc
  ·rw [h.rnv x h2];exact hc
 by_cases h2:K.kd y=2
 ·exact Eqv.cl' h1 h2 (h.eqv y)
 ·rw [h.rnv y h2];exact h1
theorem Inv.sound (h:K.Inv first lt S Q G):K.Sound S first G.rep G.up G.dn where
 seen:=h.seen
 up:=fun x y ⟨z,h1,h2⟩=>by
  have:=h.clr (h.cp _ _ h1)
  rwa [h2,(h.pk _ _ h1).1.2] at this
 dn:=fun x y ⟨z,h1,h2⟩=>by
  have:=h.clr (h.cs _ _ h1)
  rwa [h2,(h.sk _ _ h1).1.2] at this
 rep:=h.crep
theorem Cov.mono {S' Q':Int×Int→Prop} (hS:∀ p,S p→S' p) (hQ:∀ p,Q p→Q' p) {x y:Int} (h:K.Cov S Q G x y):K.Cov S' Q' G x y:=by
 rcases h with ⟨q1,q2,h1,h2⟩|h|h|h
 ·exact .inl ⟨q1,q2,hQ _ h1,h2⟩
 ·exact .inr (.inl h)
 ·exact .inr (.inr (.inl ⟨h.1,h.2.1,hS _ h.2.2⟩))
 ·exact .inr (.inr (.inr h))
theorem Inv.cov (h:K.Inv first lt S Q G) {x y:Int} (hc:K.Cov S Q G (G.rep x) (G.rep y)):K.Cov S Q G x y:=by
 unfold Cov at hc ⊢
 simp only [h.idem] at hc
 rcases hc with hc|hc|⟨h1,h2,h3⟩|hc
 ·exact .inl hc
 ·exact .inr (.inl hc)
 ·have e1:K.kd x≠2:=fun e=>h1 (h.rv x e)
  have e2:K.kd y≠2:=fun e=>h2 (h.rv y e)
  rw [h.rnv x e1,h.rnv y e2] at h3
  exact .inr (.inr (.inl ⟨e1,e2,h3⟩))
 ·exact .inr (.inr (.inr hc))
theorem Inv.put (h:K.Inv first lt S Q G) (p:Int×Int) (hc:K.Cl first p.1 p.2) (hr:0≤p.1∧0≤p.2)
  (hs:(0≤K.kd p.1∧K.kd p.1≤6∧K.kd p.1≠5∧K.kd p.1≠6)∧0≤K.kd p.2∧K.kd p.2≤6∧K.kd p.2≠4) {S' Q':Int×Int→Prop}
  (hS:∀ q,S' q↔S q∨q=p) (hQ:∀ q,Q' q↔Q q∨(¬ S p∧q=p)):K.Inv first lt S' Q' G:=by
 have mS:∀ q,S q→S' q:=fun q h=>(hS q).2 (.inl h)
 have mQ:∀ q,Q q→Q' q:=fun q h=>(hQ q).2 (.inl h)
 refine { h with QS:=fun q hq=>?_,I1:=fun x y hq hx hy=>?_,I2:=fun v z t h1 h2=>(h.I2 v z t h1 h2).mono mS mQ,I3:=fun x y u v hq hn hm=>?_,side:=fun x y hq=>?_,inr:=fun x y hq=>?_,seen:=fun x y hq=>?_ }
 ·rcases (hQ q).1 hq with hq|⟨_,rfl⟩
  ·exact mS _ (h.QS _ hq)
  ·exact (hS _).2 (.inr rfl)
 ·by_cases hp:S (x,y)
  ·exact (h.I1 x y hp hx hy).mono mS mQ
  ·rcases (hS _).1 hq with hq|rfl
   ·exact absurd hq hp
   ·exact .inl ⟨x,y,(hQ _).2 (.inr ⟨hp,rfl⟩),rfl,rfl⟩
 ·by_cases hp:S (x,y)
  ·exact mS _ (h.I3 x y u v hp (fun hq=>hn (mQ _ hq)) hm)
  ·rcases (hS _).1 hq with hq|rfl
   ·exact absurd hq hp
   ·exact absurd ((hQ _).2 (.inr ⟨hp,rfl⟩)) hn
 ·rcases (hS _).1 hq with hq|rfl
  ·exact h.side x y hq
  ·exact hs
 ·rcases (hS _).1 hq with hq|rfl
  ·exact h.inr x y hq
  ·exact hr
 ·rcases (hS _).1 hq with hq|rfl
  ·exact h.seen x y hq
  ·exact hc
theorem Inv.drop (h:K.Inv first lt S Q G) {p:Int×Int} (hp:K.ps p.1 p.2=[]∨∀ u v,(u,v)∈K.ps p.1 p.2→S (u,v)) (hSp:S p)
  (hg:K.lb p.1→K.rb p.2→(K.kd p.1≠2∧K.kd p.2≠2)∨G.rep p.1=G.rep p.2∨G.up (G.rep p.1) (G.rep p.2)∨G.dn (G.rep p.1) (G.rep p.2)) {Q':Int×Int→Prop}
  (hQ:∀ q,Q' q↔Q q∧q≠p):K.Inv first lt S Q' G:=by
 have cov:∀ x y,K.lb x→K.rb y→K.Cov S Q G x y→K.Cov S Q' G x y:=by
  intro x y hx hy hc
  rcases hc with ⟨q1,q2,hq,e1,e2⟩|hc|hc|hc
  ·by_cases he:(q1,q2)=p
   ·subst he
    have el:K.lb q1∧(K.kd q1≠2→x=q1):=by
     by_cases h2:K.kd q1=2
     ·exact ⟨.inr (.inl h2),fun h=>absurd h2 h⟩
     ·rw [h.rnv _ h2] at e1
      have hx2:K.kd x≠2:=fun e=>h2 (by rw [e1];exact h.rv _ e)
      rw [h.rnv _ hx2] at e1
      exact ⟨e1▸hx,fun _=>e1.symm⟩
    have er:K.rb q2∧(K.kd q2≠2→y=q2):=by
     by_cases h2:K.kd q2=2
     ·exact ⟨.inr (.inl h2),fun h=>absurd h2 h⟩
     ·rw [h.rnv _ h2] at e2
      have hx2:K.kd y≠2:=fun e=>h2 (by rw [e2];exact h.rv _ e)
      rw [h.rnv _ hx2] at e2
      exact ⟨e2▸hy,fun _=>e2.symm⟩
    rcases hg el.1 er.1 with ⟨g1,g2⟩|g|g
    ·rw [el.2 g1,er.2 g2]
     exact .inr (.inr (.inl ⟨g1,g2,hSp⟩))
    ·exact .inr (.inl (by rw [←e1,←e2];exact g))
    ·simp only [e1,e2] at g
     exact .inr (.inr (.inr g))
   ·exact .inl ⟨q1,q2,(hQ _).2 ⟨hq,he⟩,e1,e2⟩
  ·exact .inr (.inl hc)
  ·exact .inr (.inr (.inl hc))
  ·exact .inr (.inr (.inr hc))
 refine { h with QS:=fun q hq=>h.QS _ ((hQ _).1 hq).1,I1:=fun x y hq hx hy=>cov x y hx hy (h.I1 x y hq hx hy),I2:=fun v z t h1 h2=>cov z t (h.pk _ _ h1).2 (h.sk _ _ h2).2 (h.I2 v z t h1 h2),I3:=fun x y u v hq hn hm=>?_ }
 by_cases he:(x,y)=p
 ·subst he
  rcases hp with hp|hp
  ·simp only at hp;rw [hp] at hm;simp at hm
  ·exact hp u v hm
 ·exact h.I3 x y u v hq (fun hq'=>hn ((hQ _).2 ⟨hq',he⟩)) hm
theorem Inv.addS (h:K.Inv first lt S Q G) {x y:Int} (hx:K.kd x=2) (hrx:G.rep x=x) (hy:K.rb y) (hry:G.rep y=y) (hc:K.Cl first x y) (hl:K.kd y=2→lt y x)
  (hp:∀ z,G.pre x z→S (G.rep z,y)) {G':Gh} (e1:∀ x,G'.rep x=G.rep x) (e2:∀ v z,G'.pre v z↔G.pre v z) (e3:∀ v t,G'.suc v t↔G.suc v t∨(v=x∧t=y)):K.Inv first lt S Q G':=by
 have cov:∀ a b,K.Cov S Q G a b→K.Cov S Q G' a b:=by
  intro a b hc
  unfold Cov at hc ⊢
  simp only [e1]
  rcases hc with hc|hc|hc|⟨z,h1,h2⟩|⟨z,h1,h2⟩
  ·exact .inl hc
  ·exact .inr (.inl hc)
  ·exact .inr (.inr (.inl hc))
  ·exact .inr (.inr (.inr (.inl ⟨z,(e2 _ _).2 h1,by rw [e1];exact h2⟩)))
  ·exact .inr (.inr (.inr (.inr ⟨z,(e3 _ _).2 (.inl h1),by rw [e1];exact h2⟩)))
 have hk:=h.pk
 refine { QS:=h.QS,I3:=h.I3,side:=h.side,inr:=h.inr,seen:=h.seen,rnv:=fun a=>by rw [e1];exact h.rnv a,rv:=fun a=>by rw [e1];exact h.rv a,idem:=fun a=>by rw [e1,e1];exact h.idem a,pk:=fun v z=>by rw [e1,e2];exact h.pk v z,sk:=fun v t=>?_,I1:=fun a b h1 h2 h3=>cov _ _ (h.I1 a b h1 h2 h3),I2:=fun v z t h1 h2=>?_,cp:=fun v z=>by rw [e2];exact h.cp v z,cs:=fun v t=>?_,crep:=fun a=>by rw [e1];exact h.crep a,pl:=fun v z=>by rw [e2,e1];exact h.pl v z,sl:=fun v t=>?_ }
 ·rw [e1,e3]
  rintro (h1|⟨rfl,rfl⟩)
  ·exact h.sk v t h1
  ·exact ⟨⟨hx,hrx⟩,hy⟩
 ·rw [e2] at h1
  rw [e3] at h2
  rcases h2 with h2|⟨rfl,rfl⟩
  ·exact cov _ _ (h.I2 v z t h1 h2)
  ·refine cov _ _ (h.cov ?_)
   rw [hry]
   exact h.I1 _ _ (hp z h1) (h.rl (h.pk _ _ h1).2) hy
 ·rw [e3]
  rintro (h1|⟨rfl,rfl⟩)
  ·exact h.cs v t h1
  ·exact hc
 ·rw [e3,e1]
  rintro (h1|⟨rfl,rfl⟩) h2
  ·exact h.sl v t h1 h2
  ·rw [hry];exact hl h2
theorem Inv.addP (h:K.Inv first lt S Q G) {x y:Int} (hy:K.kd y=2) (hry:G.rep y=y) (hx:K.lb x) (hrx:G.rep x=x) (hc:K.Cl first x y) (hl:K.kd x=2→lt x y)
  (hp:∀ z,G.suc y z→S (x,G.rep z)) {G':Gh} (e1:∀ x,G'.rep x=G.rep x) (e2:∀ v z,G'.suc v z↔G.suc v z) (e3:∀ v t,G'.pre v t↔G.pre v t∨(v=y∧t=x)):K.Inv first lt S Q G':=by
 have cov:∀ a b,K.Cov S Q G a b→K.Cov S Q G' a b:=by
  intro a b hc
  unfold Cov at hc ⊢
  simp only [e1]
  rcases hc with hc|hc|hc|⟨z,h1,h2⟩|⟨z,h1,h2⟩
  ·exact .inl hc
  ·exact .inr (.inl hc)
  ·exact .inr (.inr (.inl hc))
  ·exact .inr (.inr (.inr (.inl ⟨z,(e3 _ _).2 (.inl h1),by rw [e1];exact h2⟩)))
  ·exact .inr (.inr (.inr (.inr ⟨z,(e2 _ _).2 h1,by rw [e1];exact h2⟩)))
 refine { QS:=h.QS,I3:=h.I3,side:=h.side,inr:=h.inr,seen:=h.seen,rnv:=fun a=>by rw [e1];exact h.rnv a,rv:=fun a=>by rw [e1];exact h.rv a,idem:=fun a=>by rw [e1,e1];exact h.idem a,sk:=fun v z=>by rw [e1,e2];exact h.sk v z,pk:=fun v t=>?_,I1:=fun a b h1 h2 h3=>cov _ _ (h.I1 a b h1 h2 h3),I2:=fun v z t h1 h2=>?_,cs:=fun v z=>by rw [e2];exact h.cs v z,cp:=fun v t=>?_,crep:=fun a=>by rw [e1];exact h.crep a,sl:=fun v z=>by rw [e2,e1];exact h.sl v z,pl:=fun v t=>?_ }
 ·rw [e1,e3]
  rintro (h1|⟨rfl,rfl⟩)
  ·exact h.pk v t h1
  ·exact ⟨⟨hy,hry⟩,hx⟩
 ·rw [e2] at h2
  rw [e3] at h1
  rcases h1 with h1|⟨rfl,rfl⟩
  ·exact cov _ _ (h.I2 v z t h1 h2)
  ·refine cov _ _ (h.cov ?_)
   rw [hrx]
   exact h.I1 _ _ (hp t h2) hx (h.rr (h.sk _ _ h2).2)
 ·rw [e3]
  rintro (h1|⟨rfl,rfl⟩)
  ·exact h.cp v t h1
  ·exact hc
 ·rw [e3,e1]
  rintro (h1|⟨rfl,rfl⟩) h2
  ·exact h.pl v t h1 h2
  ·rw [hrx];exact hl h2
theorem Inv.merge (h:K.Inv first lt S Q G) (htr:∀ a b c,lt a b→lt b c→lt a c) {F g:Int} (hF:K.kd F=2) (hg:K.kd g=2) (hrF:G.rep F=F) (hrg:G.rep g=g) (hne:F≠g) (hc:K.Cl first F g∧K.Cl first g F) (hl:lt F g)
  {G':Gh} (e1:∀ x,G'.rep x=if G.rep x=g then F else G.rep x) (e2:∀ v z,G'.pre v z↔v≠g∧G.pre v z) (e3:∀ v z,G'.suc v z↔v≠g∧G.suc v z)
  (hp:∀ z,G.pre g z→S (G'.rep z,F)) (hs:∀ t,G.suc g t→S (F,G'.rep t)):K.Inv first lt S Q G':=by
 have er:∀ x,G.rep x≠g→G'.rep x=G.rep x:=fun x hx=>by rw [e1,if_neg hx]
 have eg:∀ x,G.rep x=g→G'.rep x=F:=fun x hx=>by rw [e1,if_pos hx]
 have req:∀ x y,G.rep x=G.rep y→G'.rep x=G'.rep y:=fun x y hxy=>by rw [e1,e1,hxy]
 have rng:∀ x,G'.rep x≠g:=fun x=>by
  rw [e1];split
  ·exact hne
  ·assumption
 have rr:∀ x,G.rep (G'.rep x)=G'.rep x:=fun x=>by
  rw [e1];split
  ·exact hrF
  ·exact h.idem x
 have rr':∀ x,G'.rep (G'.rep x)=G'.rep x:=fun x=>by
  rw [er _ (by rw [rr];exact rng x),rr]
 have hFg:G.rep F≠g:=by rw [hrF];exact hne
 -- what was covered is
 have cov:∀ x y,K.Cov S Q G x y→K.Cov S Q G' x y:=by
  intro x y hc
  rcases hc with ⟨q1,q2,hq,h1,h2⟩|hc|hc|⟨z,h1,h2⟩|⟨z,h1,h2⟩
  ·exact .inl ⟨q1,q2,hq,req _ _ h1,req _ _ h2⟩
  ·exact .inr (.inl (req _ _ hc))
  ·exact .inr (.inr (.inl hc))
  ·by_cases hy:G.rep y=g
   ·rw [hy] at h1
    have ez:G'.rep z=G'.rep x:=req _ _ h2
    have hS:=hp z h1
    have hz:=h.rl (h.pk _ _ h1).2
    have hlb:K.lb (G'.rep z):=by
     rw [e1];split
     ·exact .inr (.inl hF)
     ·exact hz
    rw [ez] at hS hlb
    have hc:=h.I1 _ _ hS hlb (.inr (.inl hF))
    unfold Cov at hc ⊢
    rw [rr,hrF] at hc
    rw [eg y hy]
    rcases hc with ⟨q1,q2,hq,k1,k2⟩|hc|⟨_,hc,_⟩|⟨z',k1,k2⟩|⟨t',k1,k2⟩
    ·exact .inl ⟨q1,q2,hq,by rw [er _ (by rw [k1];exact rng x),k1],by rw [er _ (by rw [k2];exact hne),k2]⟩
    ·exact .inr (.inl hc)
    ·exact absurd hF hc
    ·exact .inr (.inr (.inr (.inl ⟨z',(e2 _ _).2 ⟨hne,k1⟩,by rw [er _ (by rw [k2];exact rng x),k2]⟩)))
    ·exact .inr (.inr (.inr (.inr ⟨t',(e3 _ _).2 ⟨rng x,k1⟩,by rw [er _ (by rw [k2];exact hne),k2]⟩)))
   ·exact .inr (.inr (.inr (.inl ⟨z,(e2 _ _).2 ⟨by rw [er y hy];exact hy,by rw [er y hy];exact h1⟩,req _ _ h2⟩)))
  ·by_cases hx:G.rep x=g
   ·rw [hx] at h1
    have ez:G'.rep z=G'.rep y:=req _ _ h2
    have hS:=hs z h1
    have hz:=h.rr (h.sk _ _ h1).2
    have hrb:K.rb (G'.rep z):=by
     rw [e1];split
     ·exact .inr (.inl hF)
     ·exact hz
    rw [ez] at hS hrb
    have hc:=h.I1 _ _ hS (.inr (.inl hF)) hrb
    unfold Cov at hc ⊢
    rw [rr,hrF] at hc
    rw [eg x hx]
    rcases hc with ⟨q1,q2,hq,k1,k2⟩|hc|⟨hc,_,_⟩|⟨z',k1,k2⟩|⟨t',k1,k2⟩
    ·exact .inl ⟨q1,q2,hq,by rw [er _ (by rw [k1];exact hne),k1],by rw [er _ (by rw [k2];exact rng y),k2]⟩
    ·exact .inr (.inl hc)
    ·exact absurd hF hc
    ·exact .inr (.inr (.inr (.inl ⟨z',(e2 _ _).2 ⟨rng y,k1⟩,by rw [er _ (by rw [k2];exact hne),k2]⟩)))
    ·exact .inr (.inr (.inr (.inr ⟨t',(e3 _ _).2 ⟨hne,k1⟩,by rw [er _ (by rw [k2];exact rng y),k2]⟩)))
   ·exact .inr (.inr (.inr (.inr ⟨z,(e3 _ _).2 ⟨by rw [er x hx];exact hx,by rw [er x hx];exact h1⟩,req _ _ h2⟩)))
 have lte:∀ z v,lt (G.rep z) v→lt (G'.rep z) v:=fun z v hl'=>by
  rw [e1];split
  ·rename_i hh;rw [hh] at hl';exact htr _ _ _ hl hl'
  ·exact hl'
 refine { QS:=h.QS,I3:=h.I3,side:=h.side,inr:=h.inr,seen:=h.seen,rnv:=fun a ha=>?_,rv:=fun a ha=>?_,idem:=rr',pk:=fun v z hv=>?_,sk:=fun v z hv=>?_,I1:=fun a b h1 h2 h3=>cov _ _ (h.I1 a b h1 h2 h3),I2:=fun v z t h1 h2=>cov _ _ (h.I2 v z t ((e2 _ _).1 h1).2 ((e3 _ _).1 h2).2),cp:=fun v z hv=>h.cp v z ((e2 _ _).1 hv).2,cs:=fun v z hv=>h.cs v z ((e3 _ _).1 hv).2,crep:=fun a ha=>?_,pl:=fun v z hv hz=>lte _ _ (h.pl v z ((e2 _ _).1 hv).2 hz),sl:=fun v z hv hz=>lte _ _ (h.sl v z ((e3 _ _).1 hv).2 hz) }
 ·have e:=h.rnv a ha
  rw [er a (by rw [e];rintro rfl;exact ha hg),e]
 ·rw [e1];split
  ·exact hF
  ·exact h.rv a ha
 ·obtain ⟨h1,h2⟩:=(e2 _ _).1 hv
  have:=h.pk v z h2
  exact ⟨⟨this.1.1,by rw [er v (by rw [this.1.2];exact h1)];exact this.1.2⟩,this.2⟩
 ·obtain ⟨h1,h2⟩:=(e3 _ _).1 hv
  have:=h.sk v z h2
  exact ⟨⟨this.1.1,by rw [er v (by rw [this.1.2];exact h1)];exact this.1.2⟩,this.2⟩
 ·show Eqv K first a (G'.rep a)
  by_cases e:G.rep a=g
  ·rw [eg a e]
   have:=h.eqv a
   rw [e] at this
   exact this.trans hg (.inr hc.symm)
  ·rw [er a e]
   exact h.eqv a
end Sk
end Go.AM
namespace Go.AM
open Go.Proofs
set_option maxRecDepth 100000
set_option linter.unusedVariables false
set_option linter.unusedSimpArgs false
attribute [local go_sem] Function.comp_def argsT Opd.ev Tm.get put ares mapMo ares1 snilP bldParts bslParts putAt AV.cells AV.one astore aload loadCs callArgs abin abinInt aapp elems appMore appNone preLen aFa aFld apart aExt aPick aNot aLens aEqa cellsK fitsA LK.fitsA leavesA leafA nilD aNilc aCint aCid alive alen alenOk Rle lePs len_flat lit
structure Ce where
 v:List Int
 notes:List (Int×Int)
 marks:List Int
 deriving Inhabited,DecidableEq
abbrev Ce.cs (u:Ce):List AV:=[ints u.v,prs u.notes,ints u.marks]
structure Gr where
 ranks:List Int
 u:Ce
 pre:List (List Int)
 suc:List (List Int)
 deriving Inhabited,DecidableEq
abbrev Gr.cs (g:Gr):List AV:=[ints g.ranks]++g.u.cs++[intss g.pre,intss g.suc]
structure Qu where
 l:List (Int×Int)
 seen:Kd
 deriving Inhabited,DecidableEq
abbrev Qu.cs (w:Qu):List AV:=[prs w.l]++w.seen.cs
structure Sy where
 sigs:List Sg
 a:Kd
 g:Gr
 w:Qu
 clash:List (Int×Int)
 steps:Int
 depth:Int
 deriving Inhabited,DecidableEq
abbrev Sy.cs (s:Sy):List AV:=[Go.AM.sigs s.sigs]++s.a.cs++s.g.cs++s.w.cs++[prs s.clash,i64 s.steps,i64 s.depth]
def rankR (rk:List Int) (n:Int):Int:=if 0≤n∧n<rk.length then gi rk n else 0
def lessR (rk:List Int) (a b:Int):Bool:=decide (rankR rk a<rankR rk b∨(rankR rk a=rankR rk b∧a<b))
def fndN (v:List Int):Nat→Int→Int
 | 0,n=>n
 | k+1,n=>gi v (fndN v k n)
def fnd (v:List Int) (n:Int):Int:=fndN v v.length n
def setU (u:Ce) (i x:Int):Ce:=⟨u.v.set i.toNat x,u.notes++[(i,gi u.v i)],u.marks⟩
def growU (u:Ce) (x:Int):Ce:=⟨u.v++[x],u.notes++[(-1,0)],u.marks⟩
def joinU (rk:List Int) (u:Ce) (a b:Int):Ce :=
 if fnd u.v a=fnd u.v b then u else if lessR rk (fnd u.v a) (fnd u.v b) then setU u (fnd u.v b) (fnd u.v a) else setU u (fnd u.v a) (fnd u.v b)
def firstsU (v:List Int):List Int:=((List.range v.length).map fun (k:Nat)=>(k:Int)).filter fun k=>decide (gi v k=k)
def moreN (g:Gr):Nat→Gr
 | 0=>g
 | k+1=>⟨(moreN g k).ranks,growU (moreN g k).u (moreN g k).u.v.length,(moreN g k).pre++[[]],(moreN g k).suc++[[]]⟩
def moreG (g:Gr) (n:Int):Gr:=moreN g (n.toNat - g.u.v.length)
def numOf (a:Kd) (g:Gr) (id:Int):Int:=if (termAt a id).2=true∧(termAt a id).1.kind=2∧(termAt a id).1.sym<g.u.v.length then (termAt a id).1.sym else -1
def atV (a:Kd) (n:Int):Int:=fstAt (fun x=>decide (x=[2,n,0])) a.keys
def repG (a:Kd) (g:Gr) (id:Int):Int:=if numOf a g id<0 then id else atV a (fnd g.u.v (numOf a g id))
def mayG (a:Kd) (g:Gr) (id v:Int) (less:Bool):Bool :=
 if 0≤numOf a g id then lessR g.ranks (numOf a g id) v
 else (termAt a id).2&&(if less then decide ((termAt a id).1.kind=1∨(termAt a id).1.kind=3) else decide ((termAt a id).1.kind=0∨(termAt a id).1.kind=3∨(termAt a id).1.kind=6))
def layI:List Int→Int→List Int
 | [],p=>[p]
 | q::l,p=>if q<p then q::layI l p else if q=p then q::l else p::q::l
def addG (a:Kd) (g:Gr) (p:Int×Int):Gr×List (Int×Int)×Bool :=
 if numOf a g (repG a g p.1)=numOf a g (repG a g p.2) then (g,[],false)
 else if 0≤numOf a g (repG a g p.1)∧(numOf a g (repG a g p.2)<0∨lessR g.ranks (numOf a g (repG a g p.2)) (numOf a g (repG a g p.1))=true) then
  if mayG a g (repG a g p.2) (numOf a g (repG a g p.1)) false=true∧repG a g p.2∉gi g.suc (numOf a g (repG a g p.1)) then
   (⟨g.ranks,g.u,g.pre,g.suc.set (numOf a g (repG a g p.1)).toNat (layI (gi g.suc (numOf a g (repG a g p.1))) (repG a g p.2))⟩,(gi g.pre (numOf a g (repG a g p.1))).map fun z=>(repG a g z,repG a g p.2),true)
  else (g,[],false)
 else
  if mayG a g (repG a g p.1) (numOf a g (repG a g p.2)) true=true∧repG a g p.1∉gi g.pre (numOf a g (repG a g p.2)) then
   (⟨g.ranks,g.u,g.pre.set (numOf a g (repG a g p.2)).toNat (layI (gi g.pre (numOf a g (repG a g p.2))) (repG a g p.1)),g.suc⟩,(gi g.suc (numOf a g (repG a g p.2))).map fun z=>(repG a g p.1,repG a g z),true)
  else (g,[],false)
def fstG (g:Gr) (x y:Int):Int:=if lessR g.ranks (fnd g.u.v x) (fnd g.u.v y) then fnd g.u.v x else fnd g.u.v y
def goneG (g:Gr) (x y:Int):Int:=if lessR g.ranks (fnd g.u.v x) (fnd g.u.v y) then fnd g.u.v y else fnd g.u.v x
def oneGr (g:Gr) (x y:Int):Gr:=⟨g.ranks,joinU g.ranks g.u x y,g.pre.set (goneG g x y).toNat [],g.suc.set (goneG g x y).toNat []⟩
def onePs (a:Kd) (g:Gr) (x y:Int):List (Int×Int) :=
 ((gi g.pre (goneG g x y)).map fun z=>(repG a (oneGr g x y) z,atV a (fstG g x y)))++((gi g.suc (goneG g x y)).map fun z=>(atV a (fstG g x y),repG a (oneGr g x y) z))
def oneG (a:Kd) (g:Gr) (x y:Int):Gr×List (Int×Int):=if fnd g.u.v x=fnd g.u.v y then (g,[]) else (oneGr g x y,onePs a g x y)
def joinL (a:Kd) (x:Int) (l:List Int) (s:Gr×List (Int×Int)):Gr×List (Int×Int):=l.foldl (fun s y=>((oneG a s.1 x y).1,s.2++(oneG a s.1 x y).2)) s
def joinG (a:Kd) (g:Gr) (l:List Int):Gr×List (Int×Int):=joinL a (gi l 0) l.tail (g,[])
def frG (a:Kd) (g:Gr) (id:Int):Int:=if numOf a g id<0 then -1 else fnd g.u.v (numOf a g id)
def edgeG (a:Kd) (g:Gr) (v w:Int):Bool:=decide (v≠w)&&(decide (w∈(gi g.suc v).map (frG a g))||decide (v∈(gi g.pre w).map (frG a g)))
def nextTo (a:Kd) (g:Gr) (x:Int) (n:Nat):List Int:=((List.range n).map fun (k:Nat)=>(k:Int)).filter fun w=>decide (gi g.u.v w=w)&&edgeG a g x w
def nextG (a:Kd) (g:Gr) (v:Int):List Int:=nextTo a g (fnd g.u.v v) g.u.v.length
def relax (d:List Int) (k:Int) (ws:List Int):List Int:=ws.foldl (fun d w=>if gi d w<0 then d.set w.toNat (k+1) else d) d
def sweepN (a:Kd) (g:Gr) (k:Int) (d:List Int):Nat→List Int
 | 0=>d
 | v+1=>if gi (sweepN a g k d v) v=k then relax (sweepN a g k d v) k (nextG a g v) else sweepN a g k d v
def stepsN (a:Kd) (g:Gr) (d:List Int):Nat→List Int
 | 0=>d
 | k+1=>sweepN a g k (stepsN a g d k) d.length
def steps0 (n:Nat) (x:Int):List Int:=(List.range n).map fun (i:Nat)=>if (i:Int)=x then 0 else -1
def stepsG (a:Kd) (g:Gr) (x:Int):List Int:=stepsN a g (steps0 g.u.v.length x) g.u.v.length
def backG (a:Kd) (g:Gr) (d:List Int) (k at_:Int):Nat→Int
 | 0=>-1
 | n+1=>if 0≤backG a g d k at_ n then backG a g d k at_ n else if gi d n=k∧gi g.u.v n=n∧edgeG a g n at_=true then n else -1
def pathL (a:Kd) (g:Gr) (d:List Int):Nat→Int→List Int
 | 0,w=>[w]
 | k+1,w=>pathL a g d k (backG a g d k w d.length)++[w]
def pathG (a:Kd) (g:Gr) (x y depth:Int):List Int :=
 if gi (stepsG a g (fnd g.u.v x)) (fnd g.u.v y)<0∨gi (stepsG a g (fnd g.u.v x)) (fnd g.u.v y)>(if 0>depth then 0 else depth) then []
 else pathL a g (stepsG a g (fnd g.u.v x)) (gi (stepsG a g (fnd g.u.v x)) (fnd g.u.v y)).toNat (fnd g.u.v y)
def lessP (p q:Int×Int):Bool:=decide (p.1<q.1∨(p.1=q.1∧p.2<q.2))
def siftU (p:Int×Int):Nat→List (Int×Int)→Nat→List (Int×Int)
 | 0,l,_=>l
 | f+1,l,i=>if 0<i∧lessP p (gi l ((i - 1)/2:Nat))=true then siftU p f ((l.set i (gi l ((i - 1)/2:Nat))).set ((i - 1)/2) p) ((i - 1)/2) else l
def putW (w:Qu) (p:Int×Int):Qu×Bool :=
 if (putK w.seen [p.1,p.2]).2.2 then (⟨siftU p w.l.length (w.l++[p]) w.l.length,(putK w.seen [p.1,p.2]).1⟩,true) else (w,false)
def kidP (l:List (Int×Int)) (n i:Nat):Nat:=if 2*i+2<n∧lessP (gi l (2*i+2:Nat)) (gi l (2*i+1:Nat))=true then 2*i+2 else 2*i+1
def siftD (x:Int×Int) (n:Nat):Nat→List (Int×Int)→Nat→List (Int×Int)
 | 0,l,_=>l
 | f+1,l,i=>if 2*i+1<n∧lessP (gi l (kidP l n i:Nat)) x=true then siftD x n f ((l.set i (gi l (kidP l n i:Nat))).set (kidP l n i) x) (kidP l n i) else l
def nextL (l:List (Int×Int)):List (Int×Int):=siftD (gi l (l.length - 1:Nat)) (l.length - 1) l.length ((l.take (l.length - 1)).set 0 (gi l (l.length - 1:Nat))) 0
def putS (s:Sy) (p:Int×Int):Sy:={ s with w:=(putW s.w p).1 }
def putsS (s:Sy) (l:List (Int×Int)):Sy:=l.foldl putS s
def manyA (ks:List (List Int)) (n:Int):Int:=ks.foldl (fun m k=>if gi k 0=2∧gi k 1≥m then gi k 1+1 else m) n
def withS (s:Sy) (a:Kd):Sy:={ s with a:=a,g:=moreG s.g (manyA a.keys s.g.u.v.length) }
def atomS (s:Sy) (p:Int×Int):Sy :=
 let q:=addG s.a s.g p
 let t:=putsS { s with g:=q.1 } q.2.1
 let x:=numOf s.a q.1 (repG s.a q.1 p.1)
 let y:=numOf s.a q.1 (repG s.a q.1 p.2)
 if q.2.2=false∨x<0∨y<0∨s.depth=0 then t
 else
  let o:=joinG s.a q.1 (pathG s.a q.1 y x s.depth)
  putsS { t with g:=o.1 } o.2
def popS (s:Sy):Sy:={ s with w:=⟨nextL s.w.l,s.w.seen⟩,steps:=s.steps+1 }
def onceS (s:Sy):Sy :=
 let p:=gi s.w.l 0
 let k:=stepOf s.sigs s.a p.1 p.2
 if k.1=1 then putsS (popS s) k.2 else if k.1=2 then atomS (popS s) p else if k.1=3 then { popS s with clash:=layP s.clash p } else popS s
def runN (s0:Sy):Nat→Sy→Sy×Int
 | 0,x=>if x.w.l=[] then (x,0) else (s0,8)
 | n+1,x=>if x.w.l=[] then (x,0) else runN s0 n (onceS x)
def newW:Qu:=⟨[],⟨[],lay []⟩⟩
def newS (l:List Sg) (ranks:List Int) (depth:Int):Sy:=⟨l,newK,⟨ranks,⟨[],[],[]⟩,[],[]⟩,newW,[],0,depth⟩
def madeS (l:List Sg) (ranks:List Int) (depth:Int) (a:Kd) (ps:List (Int×Int)):Sy:=putsS (withS (newS l ranks depth) a) ps
theorem lessR_iff {rk:List Int} {a b:Int}:lessR rk a b=true↔rankR rk a<rankR rk b∨(rankR rk a=rankR rk b∧a<b):=by unfold lessR;exact decide_eq_true_iff
theorem lessR_irr {rk:List Int} (a:Int):lessR rk a a=false:=by
 cases h:lessR rk a a with
 | false=>rfl
 | true=>rw [lessR_iff] at h;omega
theorem lessR_tr {rk:List Int} {a b c:Int} (h:lessR rk a b=true) (k:lessR rk b c=true):lessR rk a c=true:=by rw [lessR_iff] at *;omega
theorem lessR_tot {rk:List Int} {a b:Int} (h:lessR rk a b=false) (hn:a≠b):lessR rk b a=true:=by
 have h':¬ lessR rk a b=true:=by rw [h];simp
 rw [lessR_iff] at *;omega
theorem lessR_asym {rk:List Int} {a b:Int} (h:lessR rk a b=true):lessR rk b a=false:=by
 cases k:lessR rk b a with
 | false=>rfl
 | true=>rw [lessR_iff] at *;omega
def Pv (rk v:List Int):Prop:=∀ i:Nat,i<v.length→(0≤gi v i∧gi v i<v.length)∧(gi v i=i∨lessR rk (gi v i) i=true)
theorem countP_lt {α:Type} {p q:α→Bool}:∀ {l:List α},(∀ x,p x=true→q x=true)→(∃ x∈l,q x=true∧p x=false)→l.countP p<l.countP q
 | [],_,⟨x,h,_⟩=>by simp at h
 | y::l,h,⟨x,hx,h1,h2⟩=>by
  have hle:l.countP p≤l.countP q:=List.countP_mono_left fun x _=>h x
  rcases List.mem_cons.1 hx with rfl|hx
  ·rw [List.countP_cons_of_pos h1,List.countP_cons_of_neg (by simp [h2])]
   omega
  ·have:=countP_lt h ⟨x,hx,h1,h2⟩
   rw [List.countP_cons,List.countP_cons]
   have:=h y
   split<;>split<;>first|omega|(rename_i a b;exact absurd (h y a) b)
def posR (rk:List Int) (n:Nat) (x:Int):Nat:=(List.range n).countP fun m:Nat=>lessR rk m x
theorem posR_lt {rk:List Int} {n:Nat} {x y:Int} (hx:0≤x∧x<n) (h:lessR rk x y=true):posR rk n x<posR rk n y:=by
 refine countP_lt (fun (m:Nat) hm=>lessR_tr hm h) ⟨x.toNat,List.mem_range.2 (by omega),?_⟩
 rw [Int.toNat_of_nonneg hx.1]
 exact ⟨h,lessR_irr x⟩
theorem posR_le {rk:List Int} {n:Nat} {x:Int} (hx:0≤x∧x<n):posR rk n x<n:=by
 have h:(List.range n).countP (fun _=>true)=n:=by simp
 have:=countP_lt (p:=fun m:Nat=>lessR rk m x) (q:=fun _=>true) (l:=List.range n) (fun _ _=>rfl) ⟨x.toNat,by simp;omega,rfl,by
  rw [Int.toNat_of_nonneg hx.1];exact lessR_irr x⟩
 unfold posR
 omega
theorem fndN_fix {v:List Int} {n:Int} (h:gi v n=n):∀ k,fndN v k n=n
 | 0=>rfl
 | k+1=>by rw [fndN,fndN_fix h k,h]
theorem fndN_in {v:List Int} (h:∀ i:Nat,i<v.length→0≤gi v i∧gi v i<v.length) {n:Int} (hn:0≤n∧n<v.length):∀ k,0≤fndN v k n∧fndN v k n<v.length
 | 0=>hn
 | k+1=>by
  have:=fndN_in h hn k
  have:=h (fndN v k n).toNat (by omega)
  rw [Int.toNat_of_nonneg (by omega)] at this
  exact this
theorem fndN_succ (v:List Int) (n:Int):∀ k,fndN v (k+1) n=fndN v k (gi v n)
 | 0=>rfl
 | k+1=>by rw [fndN,fndN_succ v n k,fndN]
theorem Pv.at {rk v:List Int} (h:Pv rk v) {n:Int} (hn:0≤n∧n<v.length):(0≤gi v n∧gi v n<v.length)∧(gi v n=n∨lessR rk (gi v n) n=true):=by
 have:=h n.toNat (by omega)
 rwa [Int.toNat_of_nonneg hn.1] at this
theorem Pv.steps {rk v:List Int} (h:Pv rk v) {n:Int} (hn:0≤n∧n<v.length):∀ k,gi v (fndN v k n)=fndN v k n∨posR rk v.length (fndN v k n)+k≤posR rk v.length n
 | 0=>.inr (by simp [fndN])
 | k+1=>by
  have hin:=fndN_in (fun i hi=>(h i hi).1) hn k
  rw [fndN]
  rcases h.steps hn k with e|e
  ·rw [e];exact .inl e
  ·have ha:=h.at hin
   rcases ha.2 with e'|e'
   ·rw [e'];exact .inl e'
   ·have:=posR_lt (n:=v.length) ha.1 e'
    exact .inr (by omega)
theorem Pv.fix {rk v:List Int} (h:Pv rk v) {n:Int} (hn:0≤n∧n<v.length):gi v (fnd v n)=fnd v n:=by
 rcases h.steps hn v.length with e|e
 ·exact e
 ·have:=posR_le (rk:=rk) hn
  omega
theorem Pv.fin {rk v:List Int} (h:Pv rk v) {n:Int} (hn:0≤n∧n<v.length):0≤fnd v n∧fnd v n<v.length:=fndN_in (fun i hi=>(h i hi).1) hn _
theorem fnd_of {v:List Int} {n:Int} (h:gi v n=n):fnd v n=n:=fndN_fix h _
theorem Pv.step {rk v:List Int} (h:Pv rk v) {n:Int} (hn:0≤n∧n<v.length):fnd v (gi v n)=fnd v n:=by
 have h1:fndN v (v.length+1) n=fnd v n:=by
  rw [fndN];exact h.fix hn
 rw [←h1,fndN_succ];rfl
theorem Pv.ind {rk v:List Int} (h:Pv rk v) {φ:Int→Prop} (h0:∀ n:Int,(0≤n∧n<v.length)→gi v n=n→φ n) (h1:∀ n:Int,(0≤n∧n<v.length)→gi v n≠n→lessR rk (gi v n) n=true→φ (gi v n)→φ n) :
  ∀ (k:Nat) (n:Int),(0≤n∧n<v.length)→posR rk v.length n<k→φ n
 | 0,n,_,hk=>by omega
 | k+1,n,hn,hk=>by
  by_cases e:gi v n=n
  ·exact h0 n hn e
  ·have ha:=h.at hn
   have hl:=ha.2.resolve_left e
   have:=posR_lt (n:=v.length) ha.1 hl
   exact h1 n hn e hl (h.ind h0 h1 k _ ha.1 (by omega))
theorem Pv.ahead {rk v:List Int} (h:Pv rk v) {n:Int} (hn:0≤n∧n<v.length):fnd v n=n∨lessR rk (fnd v n) n=true:=by
 refine h.ind (φ:=fun n=>fnd v n=n∨lessR rk (fnd v n) n=true) (fun n _ e=>.inl (fnd_of e)) (fun n hn _ hl ih=>?_) _ n hn (Nat.lt_succ_self _)
 rw [h.step hn] at ih
 rcases ih with ih|ih
 ·rw [ih];exact .inr hl
 ·exact .inr (lessR_tr ih hl)
theorem Pv.idem {rk v:List Int} (h:Pv rk v) {n:Int} (hn:0≤n∧n<v.length):fnd v (fnd v n)=fnd v n:=fnd_of (h.fix hn)
theorem gi_set_eq {α:Type} [Inhabited α] {l:List α} {i:Int} {x:α} (h:0≤i∧i<l.length):gi (l.set i.toNat x) i=x:=by
 have:i.toNat<l.length:=by omega
 simp [gi,List.getD,this]
theorem gi_set_ne {α:Type} [Inhabited α] {l:List α} {i j:Int} {x:α} (h:0≤i) (hj:0≤j) (hne:i≠j):gi (l.set i.toNat x) j=gi l j:=by
 have:i.toNat≠j.toNat:=by omega
 simp [gi,List.getD,this]
theorem Pv.set {rk v:List Int} (h:Pv rk v) {F g:Int} (hF:0≤F∧F<v.length) (hg:0≤g∧g<v.length) (hl:lessR rk F g=true):Pv rk (v.set g.toNat F):=by
 intro i hi
 have hi':i<v.length:=by simpa using hi
 rw [List.length_set]
 by_cases e:(i:Int)=g
 ·rw [e,gi_set_eq hg]
  exact ⟨hF,.inr hl⟩
 ·rw [gi_set_ne hg.1 (by omega) (Ne.symm e)]
  exact h i hi'
theorem Pv.fnd_set {rk v:List Int} (h:Pv rk v) {F g:Int} (hF:0≤F∧F<v.length) (hg:0≤g∧g<v.length) (hl:lessR rk F g=true) (eF:gi v F=F) (eg:gi v g=g) {n:Int} (hn:0≤n∧n<v.length) :
  fnd (v.set g.toNat F) n=if fnd v n=g then F else fnd v n:=by
 have hne:F≠g:=by rintro rfl;rw [lessR_irr] at hl;cases hl
 have h':=h.set hF hg hl
 have hlen:(v.set g.toNat F).length=v.length:=List.length_set
 have eF':gi (v.set g.toNat F) F=F:=by rw [gi_set_ne hg.1 hF.1 (Ne.symm hne),eF]
 refine h.ind (φ:=fun n=>fnd (v.set g.toNat F) n=if fnd v n=g then F else fnd v n) (fun n hn e=>?_) (fun n hn hne' hl' ih=>?_) _ n hn (Nat.lt_succ_self _)
 ·rw [fnd_of e]
  by_cases e2:n=g
  ·rw [if_pos e2,e2,←h'.step (by rw [hlen];exact hg),gi_set_eq hg,fnd_of eF']
  ·rw [if_neg e2,fnd_of (by rw [gi_set_ne hg.1 hn.1 (Ne.symm e2),e])]
 ·have e2:n≠g:=by rintro rfl;exact hne' eg
  rw [←h.step hn,←ih,←h'.step (by rw [hlen];exact hn),gi_set_ne hg.1 hn.1 (Ne.symm e2)]
theorem kind_is {a:Kd} {x:Int} (h:(termAt a x).1.kind≠0):(termAt a x).2=true:=by
 unfold termAt at h ⊢
 split
 ·rename_i e;rw [if_pos e] at h;exact absurd rfl h
 ·rename_i e;rw [if_neg e] at h
  unfold termOf at h ⊢
  split
  ·rename_i e;rw [if_pos e] at h;exact absurd rfl h
  ·rfl
theorem takesWay_wk (b:Bo):(takesWay b).1=0∨(takesWay b).1=1:=by
 unfold takesWay
 simp only
 split
 ·exact .inr rfl
 ·split
  ·exact .inr rfl
  ·exact .inl rfl
def skOf {l:List Sg} {a:Kd} (hF:Fine l a):Sk where
 kd:=fun x=>(termAt a x).1.kind
 wk:=fun x y=>(stepWay ⟨l,x,y,(termAt a x).1,(termAt a y).1⟩).1
 ps:=fun x y=>(stepWay ⟨l,x,y,(termAt a x).1,(termAt a y).1⟩).2
 pA:=fun x=>gi (termAt a x).1.args 0
 pB:=fun x=>gi (termAt a x).1.args 1
 none:=fun x y h=>by simp [stepWay,h]
 un:=fun x y h h4=>by simp only [stepWay,if_neg h,if_pos h4];simp
 int:=fun x y h h4 h5=>by simp only [stepWay,if_neg h,if_neg h4,if_pos h5];simp
 atm:=fun x y h h4 h5 h2=>by simp only [stepWay,if_neg h,if_neg h4,if_neg h5,if_pos h2];simp
 rest:=fun x y h h4 h5 h2=>by
  simp only [stepWay,if_neg h,if_neg h4,if_neg h5,if_neg h2]
  split
  ·rcases takesWay_wk ⟨l,x,y,(termAt a x).1,(termAt a y).1⟩ with e|e<;>rw [e]<;>decide
  ·split
   ·simp
   ·split<;>simp
 clash:=fun x y h=>by
  simp only [stepWay] at h
  split at h
  ·simp at h
  split at h
  ·simp at h
  split at h
  ·simp at h
  split at h
  ·simp at h
  split at h
  ·rcases takesWay_wk ⟨l,x,y,(termAt a x).1,(termAt a y).1⟩ with e|e<;>rw [e] at h<;>simp at h
  split at h
  ·simp at h
  split at h
  ·assumption
  ·simp at h
 parts:=fun x h=>by
  have hk:(termAt a x).1.kind≠0:=by omega
  have hr:=termAt_range (kind_is hk)
  have hf:=(hF.fit hr).2
  have h2:=hf.two h
  exact ⟨hf.parts 0 (by omega),hf.parts 1 (by omega)⟩
theorem skOf_step {l:List Sg} {a:Kd} (hF:Fine l a) {x y:Int} (h:inP a (x,y)):stepOf l a x y=((skOf hF).wk x y,(skOf hF).ps x y):=by
 unfold stepOf
 rw [if_pos ⟨(hF.fit h.1).1,(hF.fit h.2).1⟩]
 rfl
structure Vok (a:Kd) (nv:Nat):Prop where
 sym:∀ x:Int,(termAt a x).1.kind=2→(0≤(termAt a x).1.sym∧(termAt a x).1.sym<nv)∧atV a (termAt a x).1.sym=x
 num:∀ n:Int,0≤n∧n<nv→(termAt a (atV a n)).1.kind=2∧(termAt a (atV a n)).1.sym=n
structure Gok (l:List Sg) (a:Kd) (nv:Nat) (g:Gr):Prop where
 lv:g.u.v.length=nv
 lp:g.pre.length=nv
 ls:g.suc.length=nv
 par:Pv g.ranks g.u.v
 inp:∀ n:Int,0≤n∧n<nv→∀ z∈gi g.pre n,(termAt a z).2=true∧okAt l a z 76=true
 ins:∀ n:Int,0≤n∧n<nv→∀ z∈gi g.suc n,(termAt a z).2=true∧okAt l a z 82=true
 sp:∀ n:Int,0≤n∧n<nv→(gi g.pre n).Pairwise (·<·)
 ss:∀ n:Int,0≤n∧n<nv→(gi g.suc n).Pairwise (·<·)
 nt:g.u.notes.length+(List.range nv).countP (fun k:Nat=>decide (gi g.u.v k=k))≤2*nv
section
variable {l:List Sg} {a:Kd} {nv:Nat} {g:Gr}
theorem numOf_var (hv:Vok a nv) (hl:g.u.v.length=nv) {x:Int} (h:(termAt a x).1.kind=2):numOf a g x=(termAt a x).1.sym:=by
 unfold numOf
 rw [if_pos ⟨kind_is (by omega),h,by rw [hl];exact (hv.sym x h).1.2⟩]
theorem numOf_not {x:Int} (h:(termAt a x).1.kind≠2):numOf a g x=-1:=by
 unfold numOf
 rw [if_neg fun q=>h q.2.1]
theorem numOf_neg (hv:Vok a nv) (hl:g.u.v.length=nv) (x:Int):numOf a g x<0↔(termAt a x).1.kind≠2:=by
 by_cases h:(termAt a x).1.kind=2
 ·rw [numOf_var hv hl h]
  have:=(hv.sym x h).1
  omega
 ·rw [numOf_not h]
  simp [h]
theorem repG_not {x:Int} (h:(termAt a x).1.kind≠2):repG a g x=x:=by
 unfold repG
 rw [numOf_not h,if_pos (by decide)]
theorem repG_var (hv:Vok a nv) (hl:g.u.v.length=nv) {x:Int} (h:(termAt a x).1.kind=2):repG a g x=atV a (fnd g.u.v (termAt a x).1.sym):=by
 have:=(hv.sym x h).1
 unfold repG
 rw [numOf_var hv hl h,if_neg (by omega)]
theorem Gok.fin (hg:Gok l a nv g) {n:Int} (h:0≤n∧n<nv):0≤fnd g.u.v n∧fnd g.u.v n<nv:=by
 have:=hg.par.fin (n:=n) (by rw [hg.lv];exact h)
 rwa [hg.lv] at this
theorem repG_sym (hv:Vok a nv) (hg:Gok l a nv g) {x:Int} (h:(termAt a x).1.kind=2):(termAt a (repG a g x)).1.kind=2∧(termAt a (repG a g x)).1.sym=fnd g.u.v (termAt a x).1.sym:=by
 rw [repG_var hv hg.lv h]
 exact hv.num _ (hg.fin (hv.sym x h).1)
theorem repG_idem (hv:Vok a nv) (hg:Gok l a nv g) (x:Int):repG a g (repG a g x)=repG a g x:=by
 by_cases h:(termAt a x).1.kind=2
 ·have q:=repG_sym hv hg h
  rw [repG_var hv hg.lv q.1,q.2,hg.par.idem (by rw [hg.lv];exact (hv.sym x h).1),←repG_var hv hg.lv h]
 ·rw [repG_not h,repG_not h]
theorem atV_inj (hv:Vok a nv) {m n:Int} (hm:0≤m∧m<nv) (hn:0≤n∧n<nv) (h:atV a m=atV a n):m=n:=by
 rw [←(hv.num m hm).2,h,(hv.num n hn).2]
theorem rep_first (hv:Vok a nv) (hg:Gok l a nv g) {n:Int} (h:0≤n∧n<nv):repG a g (atV a n)=atV a n↔gi g.u.v n=n:=by
 have q:=hv.num n h
 rw [repG_var hv hg.lv q.1,q.2]
 constructor
 ·intro e
  have e':=atV_inj hv (hg.fin h) h e
  have:=hg.par.fix (n:=n) (by rw [hg.lv];exact h)
  rwa [e'] at this
 ·intro e
  rw [fnd_of e]
theorem rep_num (hv:Vok a nv) (hg:Gok l a nv g) {x:Int} (h:(termAt a x).1.kind=2):numOf a g (repG a g x)=fnd g.u.v (termAt a x).1.sym∧atV a (fnd g.u.v (termAt a x).1.sym)=repG a g x:=by
 have q:=repG_sym hv hg h
 exact ⟨by rw [numOf_var hv hg.lv q.1,q.2],(repG_var hv hg.lv h).symm⟩
theorem rep_num' {x:Int} (h:(termAt a x).1.kind≠2):numOf a g (repG a g x)=-1:=by rw [repG_not h,numOf_not h]
theorem rep_in (hv:Vok a nv) (hg:Gok l a nv g) {x:Int} (h:(termAt a x).2=true):(termAt a (repG a g x)).2=true:=by
 by_cases hk:(termAt a x).1.kind=2
 ·exact kind_is (by rw [(repG_sym hv hg hk).1];decide)
 ·rw [repG_not hk];exact h
theorem rep_ok (hF:Fine l a) (hv:Vok a nv) (hg:Gok l a nv g) {x s:Int} (h:okAt l a x s=true):okAt l a (repG a g x) s=true:=by
 by_cases hk:(termAt a x).1.kind=2
 ·have q:=(repG_sym hv hg hk).1
  exact okAt_flat hF (termAt_range (kind_is (by rw [q];decide))) (by rw [q];decide) s
 ·rw [repG_not hk];exact h
end
def ghOf (a:Kd) (g:Gr):Sk.Gh where
 rep:=repG a g
 pre:=fun y z=>∃ n:Int,(0≤n∧n<g.pre.length)∧y=atV a n∧z∈gi g.pre n
 suc:=fun x z=>∃ n:Int,(0≤n∧n<g.suc.length)∧x=atV a n∧z∈gi g.suc n
def ltG (a:Kd) (rk:List Int) (x y:Int):Prop:=lessR rk (termAt a x).1.sym (termAt a y).1.sym=true
theorem swapP {l:List (Int×Int)} {i k:Nat} {x:Int×Int} (hi:i<l.length) (hk:k<l.length) (hx:gi l i=x):((l.set i (gi l k)).set k x).Perm l:=by
 have e1:gi l i=l[i]:=by simp [gi,List.getD,hi]
 have e2:gi l k=l[k]:=by simp [gi,List.getD,hk]
 rw [←hx,e1,e2]
 exact List.set_set_perm hi hk
theorem giSet_eq {α:Type} [Inhabited α] {l:List α} {i:Nat} {x:α} (h:i<l.length):gi (l.set i x) i=x:=by simp [gi,List.getD,h]
theorem siftU_perm {p:Int×Int}:∀ (f:Nat) (l:List (Int×Int)) (i:Nat),i<l.length→gi l i=p→(siftU p f l i).Perm l
 | 0,l,i,_,_=>.refl _
 | f+1,l,i,hi,hp=>by
  unfold siftU
  split
  ·rename_i h
   have hk:(i - 1)/2<l.length:=by omega
   exact (siftU_perm f _ _ (by simpa using hk) (giSet_eq (by simpa using hk))).trans (swapP hi hk hp)
  ·exact .refl _
theorem kidP_lt {l:List (Int×Int)} {n i:Nat} (h:2*i+1<n):kidP l n i<n:=by unfold kidP;split<;>omega
theorem siftD_perm {x:Int×Int} {n:Nat}:∀ (f:Nat) (l:List (Int×Int)) (i:Nat),l.length=n→i<n→gi l i=x→(siftD x n f l i).Perm l
 | 0,l,i,_,_,_=>.refl _
 | f+1,l,i,hn,hi,hp=>by
  unfold siftD
  split
  ·rename_i h
   have hk:=kidP_lt (l:=l) h.1
   exact (siftD_perm f _ _ (by simpa using hn) hk (giSet_eq (by simpa [hn] using hk))).trans (swapP (by omega) (by omega) hp)
  ·exact .refl _
theorem nextL_perm {l:List (Int×Int)} (h:l≠[]):l.Perm (gi l 0::nextL l):=by
 obtain ⟨p,m,rfl⟩:∃ p m,l=p::m:=by cases l with|nil=>exact absurd rfl h|cons p m=>exact ⟨p,m,rfl⟩
 have e0:gi (p::m) 0=p:=rfl
 rw [e0]
 refine .cons _ ?_
 unfold nextL
 rcases List.eq_nil_or_concat m with rfl|⟨r,x,rfl⟩
 ·simp [siftD]
 ·have el:(p::(r++[x])).length - 1=r.length+1:=by simp
  have ex:gi (p::(r++[x])) ((p::(r++[x])).length - 1:Nat)=x:=by
   rw [el]
   simp [gi,List.getD]
  rw [List.concat_eq_append,ex,el]
  have et:((p::(r++[x])).take (r.length+1)).set 0 x=x::r:=by simp
  rw [et]
  have:=siftD_perm (x:=x) (n:=r.length+1) (p::(r++[x])).length (x::r) 0 (by simp) (by omega) rfl
  exact (List.perm_append_comm (l₁:=r) (l₂:=[x])).trans this.symm
theorem fstAt_ge {α:Type} {p:α→Bool} {l:List α}:0≤fstAt p l↔∃ x∈l,p x=true:=by
 unfold fstAt
 cases h:l.findIdx? p with
 | none =>
  rw [List.findIdx?_eq_none_iff] at h
  simp only [Int.reduceNeg,Int.reduceLE,false_iff]
  rintro ⟨x,hx,hp⟩
  rw [h x hx] at hp
  cases hp
 | some i =>
  rw [List.findIdx?_eq_some_iff_getElem] at h
  obtain ⟨hi,hp,_⟩:=h
  exact ⟨fun _=>⟨_,List.getElem_mem hi,hp⟩,fun _=>by simp⟩
theorem fstAt_mem {α:Type} [DecidableEq α] {x:α} {l:List α}:0≤fstAt (fun y=>decide (y=x)) l↔x∈l:=by
 rw [fstAt_ge]
 constructor
 ·rintro ⟨y,hy,e⟩
  rw [decide_eq_true_eq] at e
  exact e▸hy
 ·exact fun h=>⟨x,h,by simp⟩
theorem key_eq {p q:Int×Int}:[q.1,q.2]=[p.1,p.2]↔q=p:=by
 constructor
 ·intro h
  simp at h
  exact Prod.ext h.1 h.2
 ·rintro rfl;rfl
def seenP (s:Sy) (p:Int×Int):Prop:=[p.1,p.2]∈s.w.seen.keys
theorem okP_side {l:List Sg} {a:Kd} (hF:Fine l a) {p:Int×Int} (hi:inP a p) (ho:okP l a p) :
  (0≤(termAt a p.1).1.kind∧(termAt a p.1).1.kind≤6∧(termAt a p.1).1.kind≠5∧(termAt a p.1).1.kind≠6)∧0≤(termAt a p.2).1.kind∧(termAt a p.2).1.kind≤6∧(termAt a p.2).1.kind≠4:=by
 have h1:=(hF.fit hi.1).2.kind
 have h2:=(hF.fit hi.2).2.kind
 have s1:=((okAt_step hF hi.1).1 ho.1).1
 have s2:=((okAt_step hF hi.2).1 ho.2).1
 unfold sideMay at s1 s2
 refine ⟨⟨h1.1,h1.2,fun e=>?_,fun e=>?_⟩,h2.1,h2.2,fun e=>?_⟩
 ·simp [e] at s1
 ·simp [e] at s1
 ·simp [e] at s2
structure SInv (first:Int×Int→Prop) (nv:Nat) (ex:List (Int×Int)) (s:Sy):Prop where
 fine:Fine s.sigs s.a
 few:s.a.keys.length≤400
 vok:Vok s.a nv
 gok:Gok s.sigs s.a nv s.g
 hseen:hashRight s.w.seen=true
 keys:∀ k∈s.w.seen.keys,∃ p:Int×Int,k=[p.1,p.2]∧inP s.a p∧okP s.sigs s.a p
 nd:(ex++s.w.l).Nodup
 inv:(skOf fine).Inv first (ltG s.a s.g.ranks) (seenP s) (fun p=>p∈ex++s.w.l) (ghOf s.a s.g)
 rise:s.clash.Pairwise ltP
 cl:∀ p,p∈s.clash↔seenP s p∧p∉ex++s.w.l∧(stepOf s.sigs s.a p.1 p.2).1=3
 cnt:s.steps+s.w.l.length=s.w.seen.keys.length
 dep:0≤s.depth∧s.depth≤50
section
variable {first:Int×Int→Prop} {nv:Nat} {ex:List (Int×Int)} {s:Sy}
theorem SInv.at (h:SInv first nv ex s) {p:Int×Int} (hp:seenP s p):inP s.a p∧okP s.sigs s.a p:=by
 obtain ⟨q,e,h1,h2⟩:=h.keys _ hp
 rw [key_eq] at e
 subst e
 exact ⟨h1,h2⟩
structure Put (first:Int×Int→Prop) {l:List Sg} {a:Kd} (hF:Fine l a) (p:Int×Int):Prop where
 cl:(skOf hF).Cl first p.1 p.2
 inp:inP a p
 ok:okP l a p
theorem SInv.put (h:SInv first nv ex s) {p:Int×Int} (hp:Put first h.fine p):SInv first nv ex (putS s p)∧∀ q,seenP (putS s p) q↔seenP s q∨q=p:=by
 by_cases hs:seenP s p
 ·have e:putS s p=s:=by
   unfold putS putW
   have:(putK s.w.seen [p.1,p.2]).2.2=false:=by
    unfold putK
    rw [if_pos (fstAt_mem.2 hs)]
   rw [this]
   rfl
  rw [e]
  refine ⟨h,fun q=>⟨.inl,fun hq=>?_⟩⟩
  rcases hq with hq|e
  ·exact hq
  ·rw [e];exact hs
 ·have hk:putK s.w.seen [p.1,p.2]=((⟨s.w.seen.keys++[[p.1,p.2]],Go.AM.lay (s.w.seen.keys++[[p.1,p.2]])⟩:Kd),(s.w.seen.keys.length:Int),true):=by
   unfold putK
   rw [if_neg fun q=>hs (fstAt_mem.1 q)]
  have hw:(putS s p).w=⟨siftU p s.w.l.length (s.w.l++[p]) s.w.l.length,⟨s.w.seen.keys++[[p.1,p.2]],Go.AM.lay (s.w.seen.keys++[[p.1,p.2]])⟩⟩:=by
   unfold putS putW
   rw [hk]
   rfl
  have hperm:(putS s p).w.l.Perm (s.w.l++[p]):=by
   rw [hw]
   exact siftU_perm _ _ _ (by simp) (by simp [gi,List.getD])
  have hmem:∀ q,q∈ex++(putS s p).w.l↔q∈ex++s.w.l∨q=p:=fun q=>by
   rw [List.mem_append,hperm.mem_iff]
   simp [or_assoc]
  have hpQ:p∉ex++s.w.l:=fun q=>hs (h.inv.QS _ q)
  have hS:∀ q,seenP (putS s p) q↔seenP s q∨q=p:=fun q=>by
   unfold seenP
   rw [hw]
   simp only [List.mem_append,List.mem_singleton,key_eq]
  refine ⟨?_,hS⟩
  have hinv:(skOf h.fine).Inv first (ltG s.a s.g.ranks) (seenP (putS s p)) (fun q=>q∈ex++(putS s p).w.l) (ghOf s.a s.g) :=
   h.inv.put p hp.cl ⟨hp.inp.1.1,hp.inp.2.1⟩ (okP_side h.fine hp.inp hp.ok) hS (fun q=>by
    rw [hmem]
    exact ⟨fun h=>h.elim .inl fun e=>.inr ⟨hs,e⟩,fun h=>h.elim .inl fun e=>.inr e.2⟩)
  refine { fine:=h.fine,few:=h.few,vok:=h.vok,gok:=h.gok,hseen:=?_,keys:=?_,nd:=?_,inv:=hinv,rise:=h.rise,cl:=?_,cnt:=?_,dep:=h.dep }
  ·have:=right_put h.hseen [p.1,p.2]
   rw [hk] at this
   rw [hw]
   exact this
  ·intro k hk'
   rw [hw] at hk'
   simp only [List.mem_append,List.mem_singleton] at hk'
   rcases hk' with hk'|rfl
   ·exact h.keys k hk'
   ·exact ⟨p,rfl,hp.inp,hp.ok⟩
  ·have e1:(ex++(putS s p).w.l).Perm (p::(ex++s.w.l)) :=
    ((List.Perm.append_left ex hperm).trans (by rw [←List.append_assoc])).trans List.perm_append_comm
   exact e1.nodup_iff.2 (List.nodup_cons.2 ⟨hpQ,h.nd⟩)
  ·intro q
   have:=h.cl q
   show q∈s.clash↔_
   rw [this,hS,hmem]
   constructor
   ·rintro ⟨h1,h2,h3⟩
    refine ⟨.inl h1,fun e=>e.elim h2 fun e=>?_,h3⟩
    subst e
    exact hs h1
   ·rintro ⟨h1,h2,h3⟩
    exact ⟨h1.elim id fun e=>absurd (.inr e) h2,fun e=>h2 (.inl e),h3⟩
  ·have e1:=hperm.length_eq
   have:=h.cnt
   show s.steps+((putS s p).w.l.length:Int)=_
   rw [e1,hw]
   simp
   omega
theorem SInv.puts:∀ (l:List (Int×Int)) {s:Sy} (h:SInv first nv ex s),(∀ p∈l,Put first h.fine p)→SInv first nv ex (putsS s l)∧∀ q,seenP (putsS s l) q↔seenP s q∨q∈l
 | [],s,h,_=>⟨h,fun q=>by simp [putsS]⟩
 | p::l,s,h,hp=>by
  obtain ⟨h1,h2⟩:=h.put (hp p (by simp))
  obtain ⟨h3,h4⟩:=SInv.puts l h1 (fun q hq=>hp q (by simp [hq]))
  refine ⟨h3,fun q=>?_⟩
  show seenP (putsS (putS s p) l) q↔_
  rw [h4,h2,List.mem_cons,or_assoc]
theorem putsS_g (g:Gr):∀ (l:List (Int×Int)) (s:Sy),putsS { s with g:=g } l={ putsS s l with g:=g }
 | [],_=>rfl
 | p::l,s=>putsS_g g l (putS s p)
theorem putsS_same:∀ (l:List (Int×Int)) (s:Sy),(putsS s l).sigs=s.sigs∧(putsS s l).a=s.a∧(putsS s l).g=s.g∧(putsS s l).depth=s.depth∧(putsS s l).steps=s.steps∧(putsS s l).clash=s.clash
 | [],_=>⟨rfl,rfl,rfl,rfl,rfl,rfl⟩
 | p::l,s=>putsS_same l (putS s p)
theorem SInv.graph (h:SInv first nv ex s) {g:Gr} (hr:g.ranks=s.g.ranks) (hg:Gok s.sigs s.a nv g) (hi:(skOf h.fine).Inv first (ltG s.a s.g.ranks) (seenP s) (fun p=>p∈ex++s.w.l) (ghOf s.a g)):SInv first nv ex { s with g:=g } :=
 { fine:=h.fine,few:=h.few,vok:=h.vok,gok:=hg,hseen:=h.hseen,keys:=h.keys,nd:=h.nd,inv:=by show (skOf h.fine).Inv first (ltG s.a g.ranks) _ _ _;rw [hr];exact hi,rise:=h.rise,cl:=h.cl,cnt:=h.cnt,dep:=h.dep }
theorem SInv.pop (h:SInv first nv [] s) (hl:s.w.l≠[]):SInv first nv [gi s.w.l 0] (popS s):=by
 have hp:=nextL_perm hl
 have hmem:∀ q,q∈[gi s.w.l 0]++(popS s).w.l↔q∈[]++s.w.l:=fun q=>(hp.mem_iff (a:=q)).symm
 refine { fine:=h.fine,few:=h.few,vok:=h.vok,gok:=h.gok,hseen:=h.hseen,keys:=h.keys,nd:=?_,inv:=?_,rise:=h.rise,cl:=?_,cnt:=?_,dep:=h.dep }
 ·exact hp.nodup_iff.1 h.nd
 ·have e:(fun q=>q∈[gi s.w.l 0]++(popS s).w.l)=(fun q=>q∈[]++s.w.l):=funext fun q=>propext (hmem q)
  rw [e]
  exact h.inv
 ·intro q
  rw [hmem]
  exact h.cl q
 ·have:=hp.length_eq
  have hc:=h.cnt
  simp at this
  show s.steps+1+((nextL s.w.l).length:Int)=s.w.seen.keys.length
  omega
theorem SInv.drop {p:Int×Int} (h:SInv first nv [p] s) (hg:(skOf h.fine).lb p.1→(skOf h.fine).rb p.2→((termAt s.a p.1).1.kind≠2∧(termAt s.a p.2).1.kind≠2)∨repG s.a s.g p.1=repG s.a s.g p.2∨(ghOf s.a s.g).up (repG s.a s.g p.1) (repG s.a s.g p.2)∨(ghOf s.a s.g).dn (repG s.a s.g p.1) (repG s.a s.g p.2))
  (hq:∀ q∈(stepOf s.sigs s.a p.1 p.2).2,seenP s q) {c:List (Int×Int)} (hc:c=if (stepOf s.sigs s.a p.1 p.2).1=3 then layP s.clash p else s.clash):SInv first nv [] { s with clash:=c }:=by
 have hS:seenP s p:=h.inv.QS _ (by simp)
 have hin:=(h.at hS).1
 have hst:=skOf_step h.fine hin
 have hn:=h.nd
 simp only [List.singleton_append,List.nodup_cons] at hn
 have hmem:∀ q,q∈[]++s.w.l↔q∈[p]++s.w.l∧q≠p:=fun q=>by
  simp only [List.nil_append,List.singleton_append,List.mem_cons]
  constructor
  ·intro hq
   exact ⟨.inr hq,fun e=>hn.1 (e▸hq)⟩
  ·rintro ⟨hq|hq,hne⟩
   ·exact absurd hq hne
   ·exact hq
 have hpc:p∉s.clash:=fun hc=>((h.cl p).1 hc).2.1 (by simp)
 refine { fine:=h.fine,few:=h.few,vok:=h.vok,gok:=h.gok,hseen:=h.hseen,keys:=h.keys,nd:=hn.2,inv:=h.inv.drop (p:=p) (.inr fun u v hm=>hq (u,v) (by rw [hst];exact hm)) hS hg hmem,rise:=?_,cl:=?_,cnt:=h.cnt,dep:=h.dep }
 ·show c.Pairwise ltP
  rw [hc]
  split
  ·exact layP_rise h.rise
  ·exact h.rise
 ·intro q
  show q∈c↔_
  have hcq:=h.cl q
  by_cases e:q=p
  ·subst e
   have hnq:q∉[]++s.w.l:=fun hq=>((hmem q).1 hq).2 rfl
   rw [hc]
   split
   ·rename_i h3
    rw [mem_layP]
    exact ⟨fun _=>⟨hS,hnq,h3⟩,fun _=>.inr rfl⟩
   ·rename_i h3
    exact ⟨fun hh=>absurd hh hpc,fun hh=>absurd hh.2.2 h3⟩
  ·have:q∈c↔q∈s.clash:=by
    rw [hc]
    split
    ·rw [mem_layP]
     exact ⟨fun hh=>hh.elim id fun e'=>absurd e' e,.inl⟩
    ·exact Iff.rfl
   rw [this,hcq,hmem]
   constructor
   ·rintro ⟨h1,h2,h3⟩
    exact ⟨h1,fun hh=>h2 hh.1,h3⟩
   ·rintro ⟨h1,h2,h3⟩
    exact ⟨h1,fun hh=>h2 ⟨hh,e⟩,h3⟩
theorem SInv.noatom {p:Int×Int} (h:SInv first nv [p] s) (hk:(stepOf s.sigs s.a p.1 p.2).1≠2):(skOf h.fine).lb p.1→(skOf h.fine).rb p.2→((termAt s.a p.1).1.kind≠2∧(termAt s.a p.2).1.kind≠2)∨repG s.a s.g p.1=repG s.a s.g p.2∨(ghOf s.a s.g).up (repG s.a s.g p.1) (repG s.a s.g p.2)∨(ghOf s.a s.g).dn (repG s.a s.g p.1) (repG s.a s.g p.2):=by
 intro hl hr
 have hS:seenP s p:=h.inv.QS _ (by simp)
 have hst:=skOf_step h.fine (h.at hS).1
 rw [hst] at hk
 by_cases e:p.1=p.2
 ·exact .inr (.inl (by rw [e]))
 ·by_cases h2:(termAt s.a p.1).1.kind=2∨(termAt s.a p.2).1.kind=2
  ·refine absurd ((skOf h.fine).atm p.1 p.2 ?_ ?_ ?_ h2).2 hk
   ·unfold Sk.lb at hl;unfold Sk.rb at hr;omega
   ·unfold Sk.lb at hl;omega
   ·unfold Sk.rb at hr;omega
  ·exact .inl ⟨fun e=>h2 (.inl e),fun e=>h2 (.inr e)⟩
theorem SInv.part (h:SInv first nv ex s) {p q:Int×Int} (hp:seenP s p) (hq:q∈(stepOf s.sigs s.a p.1 p.2).2):Put first h.fine q:=by
 obtain ⟨h1,h2⟩:=h.at hp
 have hl:=(stepOf_law h.fine p.1 p.2).1 q hq
 have hst:=skOf_step h.fine h1
 rw [hst] at hq
 refine ⟨.step (h.inv.seen _ _ hp) hq,hl.1,hl.2 ?_ ?_⟩
 ·have:=h2.1
  simp only [sided,nside,(h.fine.fit h1.1).1]
  simpa using this
 ·have:=h2.2
  simp only [sided,nside,(h.fine.fit h1.2).1]
  simpa using this
end
theorem mem_layI {l:List Int} {p z:Int}:z∈layI l p↔z∈l∨z=p:=by
 induction l with
 | nil=>simp [layI]
 | cons q l ih =>
  unfold layI
  split
  ·rw [List.mem_cons,ih,List.mem_cons,or_assoc]
  ·split
   ·rename_i h
    subst h
    simp only [List.mem_cons]
    constructor
    ·exact fun h=>.inl h
    ·rintro (h|h)
     ·exact h
     ·exact .inl h
   ·simp only [List.mem_cons]
    constructor
    ·rintro (h|h|h)
     ·exact .inr h
     ·exact .inl (.inl h)
     ·exact .inl (.inr h)
    ·rintro ((h|h)|h)
     ·exact .inr (.inl h)
     ·exact .inr (.inr h)
     ·exact .inl h
theorem layI_rise {l:List Int} {p:Int} (h:l.Pairwise (·<·)):(layI l p).Pairwise (·<·):=by
 induction l with
 | nil=>simp [layI]
 | cons q l ih =>
  rw [List.pairwise_cons] at h
  unfold layI
  split
  ·rename_i hq
   rw [List.pairwise_cons]
   refine ⟨fun x hx=>?_,ih h.2⟩
   rcases mem_layI.1 hx with hx|rfl
   ·exact h.1 x hx
   ·exact hq
  ·split
   ·exact List.pairwise_cons.2 h
   ·rename_i h1 h2
    rw [List.pairwise_cons]
    refine ⟨fun x hx=>?_,List.pairwise_cons.2 h⟩
    rcases List.mem_cons.1 hx with rfl|hx
    ·omega
    ·have:=h.1 x hx;omega
section
variable {first:Int×Int→Prop} {nv:Nat} {s:Sy} {p:Int×Int}
structure Atm (s:Sy) (p:Int×Int):Prop where
 lb:(termAt s.a p.1).1.kind=1∨(termAt s.a p.1).1.kind=2∨(termAt s.a p.1).1.kind=3
 rb:(termAt s.a p.2).1.kind=0∨(termAt s.a p.2).1.kind=2∨(termAt s.a p.2).1.kind=3∨(termAt s.a p.2).1.kind=6
 var:(termAt s.a p.1).1.kind=2∨(termAt s.a p.2).1.kind=2
theorem SInv.atm (h:SInv first nv [p] s) (hk:(stepOf s.sigs s.a p.1 p.2).1=2):Atm s p:=by
 have hS:seenP s p:=h.inv.QS _ (by simp)
 obtain ⟨hin,hok⟩:=h.at hS
 have hst:=skOf_step h.fine hin
 rw [hst] at hk
 have hs:=okP_side h.fine hin hok
 have n0:¬ (p.1=p.2∨(termAt s.a p.1).1.kind=0∨(termAt s.a p.2).1.kind=1):=fun e=>by
  have:=((skOf h.fine).none p.1 p.2 e).2
  simp only at hk;omega
 have n4:(termAt s.a p.1).1.kind≠4:=fun e=>by
  have:=((skOf h.fine).un p.1 p.2 n0 e).2
  simp only at hk;omega
 have n5:(termAt s.a p.2).1.kind≠5:=fun e=>by
  have:=((skOf h.fine).int p.1 p.2 n0 n4 e).2
  simp only at hk;omega
 refine ⟨by omega,by omega,?_⟩
 by_cases h2:(termAt s.a p.1).1.kind=2∨(termAt s.a p.2).1.kind=2
 ·exact h2
 ·exact absurd hk ((skOf h.fine).rest p.1 p.2 n0 n4 n5 h2)
theorem SInv.atom0 (h:SInv first nv [p] s) (hk:(stepOf s.sigs s.a p.1 p.2).1=2) (hg:repG s.a s.g p.1=repG s.a s.g p.2∨(ghOf s.a s.g).up (repG s.a s.g p.1) (repG s.a s.g p.2)∨(ghOf s.a s.g).dn (repG s.a s.g p.1) (repG s.a s.g p.2)):SInv first nv [] s:=by
 have he:=(stepOf_law h.fine p.1 p.2).2.2
 exact h.drop (c:=s.clash) (fun _ _=>.inr hg) (by rw [he.resolve_left (by omega)];simp) (by rw [if_neg (by omega)])
theorem SInv.atom (h:SInv first nv [p] s) (hk:(stepOf s.sigs s.a p.1 p.2).1=2):SInv first nv [] { putsS s (addG s.a s.g p).2.1 with g:=(addG s.a s.g p).1 }:=by
 have hA:=h.atm hk
 have hS:seenP s p:=h.inv.QS _ (by simp)
 obtain ⟨hin,hok⟩:=h.at hS
 have hv:=h.vok
 have hG:=h.gok
 have hF:=h.fine
 have hC:=h.inv.seen _ _ hS
 have hcr:(skOf hF).Cl first (repG s.a s.g p.1) (repG s.a s.g p.2):=h.inv.clr hC
 have hvlen:s.g.u.v.length=nv:=hG.lv
 have ix:(termAt s.a p.1).1.kind=2→(0≤fnd s.g.u.v (termAt s.a p.1).1.sym∧fnd s.g.u.v (termAt s.a p.1).1.sym<nv):=fun e=>hG.fin (hv.sym _ e).1
 have iy:(termAt s.a p.2).1.kind=2→(0≤fnd s.g.u.v (termAt s.a p.2).1.sym∧fnd s.g.u.v (termAt s.a p.2).1.sym<nv):=fun e=>hG.fin (hv.sym _ e).1
 have nx:(termAt s.a p.1).1.kind=2→numOf s.a s.g (repG s.a s.g p.1)=fnd s.g.u.v (termAt s.a p.1).1.sym:=fun e=>(rep_num hv hG e).1
 have ny:(termAt s.a p.2).1.kind=2→numOf s.a s.g (repG s.a s.g p.2)=fnd s.g.u.v (termAt s.a p.2).1.sym:=fun e=>(rep_num hv hG e).1
 have nx':(termAt s.a p.1).1.kind≠2→numOf s.a s.g (repG s.a s.g p.1)=-1:=rep_num'
 have ny':(termAt s.a p.2).1.kind≠2→numOf s.a s.g (repG s.a s.g p.2)=-1:=rep_num'
 have rx:(termAt s.a p.1).1.kind=2→atV s.a (numOf s.a s.g (repG s.a s.g p.1))=repG s.a s.g p.1:=fun e=>by rw [nx e];exact (rep_num hv hG e).2
 have ry:(termAt s.a p.2).1.kind=2→atV s.a (numOf s.a s.g (repG s.a s.g p.2))=repG s.a s.g p.2:=fun e=>by rw [ny e];exact (rep_num hv hG e).2
 have ex2:(termAt s.a p.1).1.kind=2→(termAt s.a (repG s.a s.g p.1)).1.kind=2∧(termAt s.a (repG s.a s.g p.1)).1.sym=numOf s.a s.g (repG s.a s.g p.1):=fun e=>by
  rw [nx e];exact repG_sym hv hG e
 have ey2:(termAt s.a p.2).1.kind=2→(termAt s.a (repG s.a s.g p.2)).1.kind=2∧(termAt s.a (repG s.a s.g p.2)).1.sym=numOf s.a s.g (repG s.a s.g p.2):=fun e=>by
  rw [ny e];exact repG_sym hv hG e
 have tx:=rep_in hv hG (hF.fit hin.1).1
 have ty:=rep_in hv hG (hF.fit hin.2).1
 have okx:=rep_ok hF hv hG hok.1
 have oky:=rep_ok hF hv hG hok.2
 have idx:=repG_idem hv hG p.1
 have idy:=repG_idem hv hG p.2
 have lbx:(skOf hF).lb (repG s.a s.g p.1):=h.inv.rl hA.lb
 have rby:(skOf hF).rb (repG s.a s.g p.2):=h.inv.rr hA.rb
 have kx':(termAt s.a p.1).1.kind≠2→repG s.a s.g p.1=p.1:=repG_not
 have ky':(termAt s.a p.2).1.kind≠2→repG s.a s.g p.2=p.2:=repG_not
 have a0:=h.atom0 hk
 have sg:=fun l=>putsS_same l s
 generalize hx:repG s.a s.g p.1=x at *
 generalize hy:repG s.a s.g p.2=y at *
 generalize hvn:numOf s.a s.g x=v at *
 generalize hwn:numOf s.a s.g y=w at *
 have fin0:addG s.a s.g p=(s.g,[],false)→SInv first nv [] s→SInv first nv [] { putsS s (addG s.a s.g p).2.1 with g:=(addG s.a s.g p).1 }:=fun e h=>by
  rw [e];exact h
 by_cases e:v=w
 ·refine fin0 (by unfold addG;rw [hx,hy,hvn,hwn,if_pos e]) (a0 (.inl ?_))
  by_cases k1:(termAt s.a p.1).1.kind=2
  ·have:=nx k1
   have:=ix k1
   by_cases k2:(termAt s.a p.2).1.kind=2
   ·rw [←rx k1,←ry k2,e]
   ·have:=ny' k2;omega
  ·have k2:=hA.var.resolve_left k1
   have:=nx' k1
   have:=ny k2
   have:=iy k2
   omega
 by_cases hb:0≤v∧(w<0∨lessR s.g.ranks w v=true)
 ·have k1:(termAt s.a p.1).1.kind=2:=by
   by_cases k1:(termAt s.a p.1).1.kind=2
   ·exact k1
   ·have:=nx' k1;omega
  have hvr:=ix k1
  rw [←nx k1] at hvr
  have hm:mayG s.a s.g y v false=true:=by
   unfold mayG
   rw [hwn]
   by_cases hw:0≤w
   ·rw [if_pos hw]
    exact hb.2.resolve_left (by omega)
   ·rw [if_neg hw]
    have k2:(termAt s.a p.2).1.kind≠2:=fun k2=>by have:=ny k2;have:=iy k2;omega
    have:=hA.rb
    rw [←ky' k2] at this k2
    simp only [ty,Bool.true_and,Bool.false_eq_true,if_false,decide_eq_true_eq]
    omega
  by_cases hmem:y∈gi s.g.suc v
  ·refine fin0 (by unfold addG;rw [hx,hy,hvn,hwn,if_neg e,if_pos hb,if_neg fun q=>q.2 hmem]) (a0 (.inr (.inr ⟨y,⟨v,by rw [hG.ls];exact hvr,(rx k1).symm,hmem⟩,idy⟩)))
  ·have hadd:addG s.a s.g p=((⟨s.g.ranks,s.g.u,s.g.pre,s.g.suc.set v.toNat (layI (gi s.g.suc v) y)⟩:Gr),(gi s.g.pre v).map (fun z=>(repG s.a s.g z,y)),true):=by
    unfold addG;rw [hx,hy,hvn,hwn,if_neg e,if_pos hb,if_pos ⟨hm,hmem⟩]
   rw [hadd]
   have hpre:∀ z∈gi s.g.pre v,(ghOf s.a s.g).pre x z:=fun z hz=>⟨v,by rw [hG.lp];exact hvr,(rx k1).symm,hz⟩
   obtain ⟨h1,h2⟩:=h.puts ((gi s.g.pre v).map (fun z=>(repG s.a s.g z,y))) (fun q hq=>by
    obtain ⟨z,hz,rfl⟩:=List.mem_map.1 hq
    have hzp:=hpre z hz
    have hzz:=hG.inp v hvr z hz
    refine ⟨?_,⟨termAt_range (rep_in hv hG hzz.1),termAt_range ty⟩,⟨rep_ok hF hv hG hzz.2,oky⟩⟩
    have c1:=h.inv.clr (h.inv.cp _ _ hzp)
    have:(ghOf s.a s.g).rep x=x:=idx
    rw [this] at c1
    exact .trans c1 (ex2 k1).1 hcr)
   have hseen:∀ z,(ghOf s.a s.g).pre x z→seenP (putsS s ((gi s.g.pre v).map (fun z=>(repG s.a s.g z,y)))) (repG s.a s.g z,y):=by
    rintro z ⟨n,hn,hxn,hz⟩
    rw [hG.lp] at hn
    have:v=n:=atV_inj hv hvr hn (by rw [rx k1,hxn])
    subst this
    rw [h2]
    exact .inr (List.mem_map.2 ⟨z,hz,rfl⟩)
   generalize hL:(gi s.g.pre v).map (fun z=>(repG s.a s.g z,y))=L at *
   obtain ⟨g1,g2,g3,g4,g5,g6⟩:=sg L
   have hlen:(s.g.suc.set v.toNat (layI (gi s.g.suc v) y)).length=nv:=by rw [List.length_set,hG.ls]
   have hget:∀ n:Int,0≤n∧n<nv→∀ z,z∈gi (s.g.suc.set v.toNat (layI (gi s.g.suc v) y)) n↔z∈gi s.g.suc n∨(n=v∧z=y):=by
    intro n hn z
    by_cases en:n=v
    ·rw [en,gi_set_eq (by rw [hG.ls];exact hvr),mem_layI]
     simp
    ·rw [gi_set_ne hvr.1 hn.1 (Ne.symm en)]
     simp [en]
   have hGok:Gok s.sigs s.a nv ⟨s.g.ranks,s.g.u,s.g.pre,s.g.suc.set v.toNat (layI (gi s.g.suc v) y)⟩:=by
    refine ⟨hG.lv,hG.lp,hlen,hG.par,hG.inp,fun n hn z hz=>?_,hG.sp,fun n hn=>?_,hG.nt⟩
    ·rw [hget n hn] at hz
     rcases hz with hz|⟨_,rfl⟩
     ·exact hG.ins n hn z hz
     ·exact ⟨ty,oky⟩
    ·by_cases en:n=v
     ·rw [en,gi_set_eq (by rw [hG.ls];exact hvr)]
      exact layI_rise (hG.ss v hvr)
     ·rw [gi_set_ne hvr.1 hn.1 (Ne.symm en)]
      exact hG.ss n hn
   have hsuc:∀ b t,(ghOf s.a ⟨s.g.ranks,s.g.u,s.g.pre,s.g.suc.set v.toNat (layI (gi s.g.suc v) y)⟩).suc b t↔(ghOf s.a s.g).suc b t∨(b=x∧t=y):=by
    intro b t
    constructor
    ·rintro ⟨n,hn,hb',hz⟩
     have hn':0≤n∧n<nv:=by rw [←hlen];exact hn
     rw [hget n hn'] at hz
     rcases hz with hz|⟨rfl,rfl⟩
     ·exact .inl ⟨n,by rw [hG.ls];exact hn',hb',hz⟩
     ·exact .inr ⟨by rw [hb',rx k1],rfl⟩
    ·rintro (⟨n,hn,hb',hz⟩|⟨rfl,rfl⟩)
     ·rw [hG.ls] at hn
      exact ⟨n,by show 0≤n∧n<((s.g.suc.set v.toNat _).length:Int);rw [hlen];exact hn,hb',(hget n hn t).2 (.inl hz)⟩
     ·exact ⟨v,by show 0≤v∧v<((s.g.suc.set v.toNat _).length:Int);rw [hlen];exact hvr,(rx k1).symm,(hget v hvr _).2 (.inr ⟨rfl,rfl⟩)⟩
   have hfin:SInv first nv [p] { putsS s L with g:=⟨s.g.ranks,s.g.u,s.g.pre,s.g.suc.set v.toNat (layI (gi s.g.suc v) y)⟩ }:=by
    refine h1.graph (by rw [g3]) (by rw [g1,g2];exact hGok) ?_
    have hi:=h1.inv
    revert hi
    generalize h1.fine=f1
    have key:∀ (l':List Sg) (a':Kd) (gg:Gr) (f1:Fine l' a'),l'=s.sigs→a'=s.a→gg=s.g→(skOf f1).Inv first (ltG a' gg.ranks) (seenP (putsS s L)) (fun q=>q∈[p]++(putsS s L).w.l) (ghOf a' gg) →
      (skOf f1).Inv first (ltG a' gg.ranks) (seenP (putsS s L)) (fun q=>q∈[p]++(putsS s L).w.l) (ghOf a' ⟨s.g.ranks,s.g.u,s.g.pre,s.g.suc.set v.toNat (layI (gi s.g.suc v) y)⟩):=by
     rintro _ _ _ f1 rfl rfl rfl hi
     refine hi.addS (x:=x) (y:=y) (ex2 k1).1 idx rby idy hcr (fun k2=>?_) hseen (fun _=>rfl) (fun _ _=>Iff.rfl) hsuc
     have hsx:=(ex2 k1).2
     by_cases kk:(termAt s.a p.2).1.kind=2
     ·show lessR _ _ _=true
      rw [hsx,(ey2 kk).2]
      have:=ny kk;have:=iy kk
      exact hb.2.resolve_left (by omega)
     ·rw [ky' kk] at k2
      exact absurd k2 kk
    exact key _ _ _ f1 g1 g2 g3
   have hfa:repG (putsS s L).a ⟨s.g.ranks,s.g.u,s.g.pre,s.g.suc.set v.toNat (layI (gi s.g.suc v) y)⟩ p.1=x∧repG (putsS s L).a ⟨s.g.ranks,s.g.u,s.g.pre,s.g.suc.set v.toNat (layI (gi s.g.suc v) y)⟩ p.2=y:=by
    rw [g2];exact ⟨hx,hy⟩
   refine hfin.atom0 (by show (stepOf (putsS s L).sigs (putsS s L).a p.1 p.2).1=2;rw [g1,g2];exact hk) (.inr (.inr ?_))
   show (ghOf (putsS s L).a _).dn (repG (putsS s L).a _ p.1) (repG (putsS s L).a _ p.2)
   rw [hfa.1,hfa.2,g2]
   exact ⟨y,(hsuc x y).2 (.inr ⟨rfl,rfl⟩),idy⟩
 ·have k2:(termAt s.a p.2).1.kind=2:=by
   by_cases k2:(termAt s.a p.2).1.kind=2
   ·exact k2
   ·exfalso
    have:=ny' k2
    have k1:=hA.var.resolve_right k2
    have:=nx k1;have:=ix k1
    omega
  have hwr:=iy k2
  rw [←ny k2] at hwr
  have hlt:0≤v→lessR s.g.ranks v w=true:=fun h0=>by
   have:lessR s.g.ranks w v=false:=by
    cases q:lessR s.g.ranks w v with
    | false=>rfl
    | true=>exact absurd ⟨h0,.inr q⟩ hb
   exact lessR_tot this (Ne.symm e)
  have hm:mayG s.a s.g x w true=true:=by
   unfold mayG
   rw [hvn]
   by_cases hw:0≤v
   ·rw [if_pos hw]
    exact hlt hw
   ·rw [if_neg hw]
    have k1:(termAt s.a p.1).1.kind≠2:=fun k1=>by have:=nx k1;have:=ix k1;omega
    have:=hA.lb
    rw [←kx' k1] at this k1
    simp only [tx,Bool.true_and,if_true,decide_eq_true_eq]
    omega
  by_cases hmem:x∈gi s.g.pre w
  ·refine fin0 (by unfold addG;rw [hx,hy,hvn,hwn,if_neg e,if_neg hb,if_neg fun q=>q.2 hmem]) (a0 (.inr (.inl ⟨x,⟨w,by rw [hG.lp];exact hwr,(ry k2).symm,hmem⟩,idx⟩)))
  ·have hadd:addG s.a s.g p=((⟨s.g.ranks,s.g.u,s.g.pre.set w.toNat (layI (gi s.g.pre w) x),s.g.suc⟩:Gr),(gi s.g.suc w).map (fun z=>(x,repG s.a s.g z)),true):=by
    unfold addG;rw [hx,hy,hvn,hwn,if_neg e,if_neg hb,if_pos ⟨hm,hmem⟩]
   rw [hadd]
   have hpre:∀ z∈gi s.g.suc w,(ghOf s.a s.g).suc y z:=fun z hz=>⟨w,by rw [hG.ls];exact hwr,(ry k2).symm,hz⟩
   obtain ⟨h1,h2⟩:=h.puts ((gi s.g.suc w).map (fun z=>(x,repG s.a s.g z))) (fun q hq=>by
    obtain ⟨z,hz,rfl⟩:=List.mem_map.1 hq
    have hzp:=hpre z hz
    have hzz:=hG.ins w hwr z hz
    refine ⟨?_,⟨termAt_range tx,termAt_range (rep_in hv hG hzz.1)⟩,⟨okx,rep_ok hF hv hG hzz.2⟩⟩
    have c1:=h.inv.clr (h.inv.cs _ _ hzp)
    have:(ghOf s.a s.g).rep y=y:=idy
    rw [this] at c1
    exact .trans hcr (ey2 k2).1 c1)
   have hseen:∀ z,(ghOf s.a s.g).suc y z→seenP (putsS s ((gi s.g.suc w).map (fun z=>(x,repG s.a s.g z)))) (x,repG s.a s.g z):=by
    rintro z ⟨n,hn,hxn,hz⟩
    rw [hG.ls] at hn
    have:w=n:=atV_inj hv hwr hn (by rw [ry k2,hxn])
    subst this
    rw [h2]
    exact .inr (List.mem_map.2 ⟨z,hz,rfl⟩)
   generalize hL:(gi s.g.suc w).map (fun z=>(x,repG s.a s.g z))=L at *
   obtain ⟨g1,g2,g3,g4,g5,g6⟩:=sg L
   have hlen:(s.g.pre.set w.toNat (layI (gi s.g.pre w) x)).length=nv:=by rw [List.length_set,hG.lp]
   have hget:∀ n:Int,0≤n∧n<nv→∀ z,z∈gi (s.g.pre.set w.toNat (layI (gi s.g.pre w) x)) n↔z∈gi s.g.pre n∨(n=w∧z=x):=by
    intro n hn z
    by_cases en:n=w
    ·rw [en,gi_set_eq (by rw [hG.lp];exact hwr),mem_layI]
     simp
    ·rw [gi_set_ne hwr.1 hn.1 (Ne.symm en)]
     simp [en]
   have hGok:Gok s.sigs s.a nv ⟨s.g.ranks,s.g.u,s.g.pre.set w.toNat (layI (gi s.g.pre w) x),s.g.suc⟩:=by
    refine ⟨hG.lv,hlen,hG.ls,hG.par,fun n hn z hz=>?_,hG.ins,fun n hn=>?_,hG.ss,hG.nt⟩
    ·rw [hget n hn] at hz
     rcases hz with hz|⟨_,rfl⟩
     ·exact hG.inp n hn z hz
     ·exact ⟨tx,okx⟩
    ·by_cases en:n=w
     ·rw [en,gi_set_eq (by rw [hG.lp];exact hwr)]
      exact layI_rise (hG.sp w hwr)
     ·rw [gi_set_ne hwr.1 hn.1 (Ne.symm en)]
      exact hG.sp n hn
   have hpr:∀ b t,(ghOf s.a ⟨s.g.ranks,s.g.u,s.g.pre.set w.toNat (layI (gi s.g.pre w) x),s.g.suc⟩).pre b t↔(ghOf s.a s.g).pre b t∨(b=y∧t=x):=by
    intro b t
    constructor
    ·rintro ⟨n,hn,hb',hz⟩
     have hn':0≤n∧n<nv:=by rw [←hlen];exact hn
     rw [hget n hn'] at hz
     rcases hz with hz|⟨rfl,rfl⟩
     ·exact .inl ⟨n,by rw [hG.lp];exact hn',hb',hz⟩
     ·exact .inr ⟨by rw [hb',ry k2],rfl⟩
    ·rintro (⟨n,hn,hb',hz⟩|⟨rfl,rfl⟩)
     ·rw [hG.lp] at hn
      exact ⟨n,by show 0≤n∧n<((s.g.pre.set w.toNat _).length:Int);rw [hlen];exact hn,hb',(hget n hn t).2 (.inl hz)⟩
     ·exact ⟨w,by show 0≤w∧w<((s.g.pre.set w.toNat _).length:Int);rw [hlen];exact hwr,(ry k2).symm,(hget w hwr _).2 (.inr ⟨rfl,rfl⟩)⟩
   have hfin:SInv first nv [p] { putsS s L with g:=⟨s.g.ranks,s.g.u,s.g.pre.set w.toNat (layI (gi s.g.pre w) x),s.g.suc⟩ }:=by
    refine h1.graph (by rw [g3]) (by rw [g1,g2];exact hGok) ?_
    have hi:=h1.inv
    revert hi
    generalize h1.fine=f1
    have key:∀ (l':List Sg) (a':Kd) (gg:Gr) (f1:Fine l' a'),l'=s.sigs→a'=s.a→gg=s.g→(skOf f1).Inv first (ltG a' gg.ranks) (seenP (putsS s L)) (fun q=>q∈[p]++(putsS s L).w.l) (ghOf a' gg) →
      (skOf f1).Inv first (ltG a' gg.ranks) (seenP (putsS s L)) (fun q=>q∈[p]++(putsS s L).w.l) (ghOf a' ⟨s.g.ranks,s.g.u,s.g.pre.set w.toNat (layI (gi s.g.pre w) x),s.g.suc⟩):=by
     rintro _ _ _ f1 rfl rfl rfl hi
     refine hi.addP (x:=x) (y:=y) (ey2 k2).1 idy lbx idx hcr (fun k1=>?_) hseen (fun _=>rfl) (fun _ _=>Iff.rfl) hpr
     have hsx:=(ey2 k2).2
     by_cases kk:(termAt s.a p.1).1.kind=2
     ·show lessR _ _ _=true
      rw [hsx,(ex2 kk).2]
      have:=nx kk;have:=ix kk
      exact hlt (by omega)
     ·rw [kx' kk] at k1
      exact absurd k1 kk
    exact key _ _ _ f1 g1 g2 g3
   have hfa:repG (putsS s L).a ⟨s.g.ranks,s.g.u,s.g.pre.set w.toNat (layI (gi s.g.pre w) x),s.g.suc⟩ p.1=x∧repG (putsS s L).a ⟨s.g.ranks,s.g.u,s.g.pre.set w.toNat (layI (gi s.g.pre w) x),s.g.suc⟩ p.2=y:=by
    rw [g2];exact ⟨hx,hy⟩
   refine hfin.atom0 (by show (stepOf (putsS s L).sigs (putsS s L).a p.1 p.2).1=2;rw [g1,g2];exact hk) (.inr (.inl ?_))
   show (ghOf (putsS s L).a _).up (repG (putsS s L).a _ p.1) (repG (putsS s L).a _ p.2)
   rw [hfa.1,hfa.2,g2]
   exact ⟨x,(hpr y x).2 (.inr ⟨rfl,rfl⟩),idx⟩
end
section
variable {first:Int×Int→Prop} {nv:Nat} {s:Sy}
theorem putsS_app (l m:List (Int×Int)) (s:Sy):putsS s (l++m)=putsS (putsS s l) m:=List.foldl_append
theorem joinU_v {rk:List Int} {u:Ce} {g:Gr} {x y:Int} (h:fnd g.u.v x≠fnd g.u.v y):(joinU g.ranks g.u x y).v=g.u.v.set (goneG g x y).toNat (fstG g x y):=by
 unfold joinU goneG fstG
 rw [if_neg h]
 split<;>rfl
theorem oneGr_ok {l:List Sg} {a:Kd} {nv:Nat} {g:Gr} (hg:Gok l a nv g) {x y:Int} (hx:0≤x∧x<nv) (hy:0≤y∧y<nv) (e:¬ fnd g.u.v x=fnd g.u.v y):Gok l a nv (oneGr g x y)∧(0≤fstG g x y∧fstG g x y<nv)∧(0≤goneG g x y∧goneG g x y<nv):=by
 have ix:=hg.fin hx
 have iy:=hg.fin hy
 have hF:0≤fstG g x y∧fstG g x y<nv:=by unfold fstG;split<;>assumption
 have hG:0≤goneG g x y∧goneG g x y<nv:=by unfold goneG;split<;>assumption
 have hl:lessR g.ranks (fstG g x y) (goneG g x y)=true:=by
  unfold fstG goneG
  cases hl:lessR g.ranks (fnd g.u.v x) (fnd g.u.v y) with
  | true=>simp [hl]
  | false=>simp [lessR_tot hl e]
 have hv:(oneGr g x y).u.v=g.u.v.set (goneG g x y).toNat (fstG g x y):=joinU_v (rk:=g.ranks) (u:=g.u) e
 have gp:∀ k:Int,0≤k∧k<nv→gi (oneGr g x y).pre k=[]∨gi (oneGr g x y).pre k=gi g.pre k:=fun k hk=>by
  by_cases ek:k=goneG g x y
  ·exact .inl (by show gi (g.pre.set _ _) k=_;rw [ek,gi_set_eq (by rw [hg.lp];exact hG)])
  ·exact .inr (by show gi (g.pre.set _ _) k=_;rw [gi_set_ne hG.1 hk.1 (Ne.symm ek)])
 have gs:∀ k:Int,0≤k∧k<nv→gi (oneGr g x y).suc k=[]∨gi (oneGr g x y).suc k=gi g.suc k:=fun k hk=>by
  by_cases ek:k=goneG g x y
  ·exact .inl (by show gi (g.suc.set _ _) k=_;rw [ek,gi_set_eq (by rw [hg.ls];exact hG)])
  ·exact .inr (by show gi (g.suc.set _ _) k=_;rw [gi_set_ne hG.1 hk.1 (Ne.symm ek)])
 refine ⟨⟨by rw [hv,List.length_set,hg.lv],by show (g.pre.set _ _).length=_;rw [List.length_set,hg.lp],by show (g.suc.set _ _).length=_;rw [List.length_set,hg.ls],by rw [hv];exact hg.par.set (by rw [hg.lv];exact hF) (by rw [hg.lv];exact hG) hl,fun k hk z hz=>?_,fun k hk z hz=>?_,fun k hk=>?_,fun k hk=>?_,?_⟩,hF,hG⟩
 ·rcases gp k hk with e|e
  ·rw [e] at hz;simp at hz
  ·rw [e] at hz;exact hg.inp k hk z hz
 ·rcases gs k hk with e|e
  ·rw [e] at hz;simp at hz
  ·rw [e] at hz;exact hg.ins k hk z hz
 ·rcases gp k hk with e|e
  ·rw [e];exact .nil
  ·rw [e];exact hg.sp k hk
 ·rcases gs k hk with e|e
  ·rw [e];exact .nil
  ·rw [e];exact hg.ss k hk
 ·have hn:(oneGr g x y).u.notes.length=g.u.notes.length+1:=by
   show (joinU g.ranks g.u x y).notes.length=_
   unfold joinU
   rw [if_neg e]
   split<;>simp [setU]
  have hfix:gi g.u.v (goneG g x y)=goneG g x y:=by
   unfold goneG
   split
   ·exact hg.par.fix (by rw [hg.lv];exact hy)
   ·exact hg.par.fix (by rw [hg.lv];exact hx)
  have hne:fstG g x y≠goneG g x y:=fun q=>by rw [q,lessR_irr] at hl;cases hl
  have hlt:=countP_lt (p:=fun k:Nat=>decide (gi (g.u.v.set (goneG g x y).toNat (fstG g x y)) k=k)) (q:=fun k:Nat=>decide (gi g.u.v k=k)) (l:=List.range nv) (fun k hk=>by
   by_cases q:(k:Int)=goneG g x y
   ·rw [q];exact decide_eq_true hfix
   ·rw [gi_set_ne hG.1 (by omega) (Ne.symm q)] at hk;exact hk) ⟨(goneG g x y).toNat,List.mem_range.2 (by omega),by
    rw [Int.toNat_of_nonneg hG.1];exact decide_eq_true hfix,by
    rw [Int.toNat_of_nonneg hG.1,gi_set_eq (by rw [hg.lv];exact hG)];exact decide_eq_false hne⟩
  have:=hg.nt
  rw [hn,hv]
  omega
theorem SInv.one (h:SInv first nv [] s) {m n:Int} (hm:0≤m∧m<nv) (hn:0≤n∧n<nv) (he:Sk.Eqv (skOf h.fine) first (atV s.a m) (atV s.a n)) :
  SInv first nv [] (putsS { s with g:=(oneG s.a s.g m n).1 } (oneG s.a s.g m n).2):=by
 have hv:=h.vok
 have hG:=h.gok
 have hF:=h.fine
 by_cases e:fnd s.g.u.v m=fnd s.g.u.v n
 ·have:oneG s.a s.g m n=(s.g,[]):=by unfold oneG;rw [if_pos e]
  rw [this]
  exact h
 have hGok:=(oneGr_ok hG hm hn e).1
 have h1:oneG s.a s.g m n=(oneGr s.g m n,onePs s.a s.g m n):=by unfold oneG;rw [if_neg e]
 rw [h1]
 have im:=hG.fin hm
 have iN:=hG.fin hn
 have fm:=hG.par.fix (n:=m) (by rw [hG.lv];exact hm)
 have fn:=hG.par.fix (n:=n) (by rw [hG.lv];exact hn)
 have heq:Sk.Eqv (skOf h.fine) first (atV s.a (fnd s.g.u.v m)) (atV s.a (fnd s.g.u.v n)):=by
  have a1:=h.inv.eqv (atV s.a m)
  have a2:=h.inv.eqv (atV s.a n)
  have b1:(ghOf s.a s.g).rep (atV s.a m)=atV s.a (fnd s.g.u.v m):=by
   show repG _ _ _=_
   rw [repG_var hv hG.lv (hv.num m hm).1,(hv.num m hm).2]
  have b2:(ghOf s.a s.g).rep (atV s.a n)=atV s.a (fnd s.g.u.v n):=by
   show repG _ _ _=_
   rw [repG_var hv hG.lv (hv.num n hn).1,(hv.num n hn).2]
  rw [b1] at a1
  rw [b2] at a2
  exact (a1.symm.trans (hv.num m hm).1 he).trans (hv.num n hn).1 a2
 have hju:=joinU_v (rk:=s.g.ranks) (u:=s.g.u) e
 -- who stays,and who is gone
 have hFg:((fstG s.g m n=fnd s.g.u.v m∧goneG s.g m n=fnd s.g.u.v n)∨(fstG s.g m n=fnd s.g.u.v n∧goneG s.g m n=fnd s.g.u.v m))∧lessR s.g.ranks (fstG s.g m n) (goneG s.g m n)=true:=by
  unfold fstG goneG
  cases hl:lessR s.g.ranks (fnd s.g.u.v m) (fnd s.g.u.v n) with
  | true=>simp [hl]
  | false=>simp [lessR_tot hl e]
 have hps:onePs s.a s.g m n=((gi s.g.pre (goneG s.g m n)).map fun z=>(repG s.a (oneGr s.g m n) z,atV s.a (fstG s.g m n)))++((gi s.g.suc (goneG s.g m n)).map fun z=>(atV s.a (fstG s.g m n),repG s.a (oneGr s.g m n) z)):=rfl
 have hgp:(oneGr s.g m n).pre=s.g.pre.set (goneG s.g m n).toNat []:=rfl
 have hgs:(oneGr s.g m n).suc=s.g.suc.set (goneG s.g m n).toNat []:=rfl
 have hgv:(oneGr s.g m n).u.v=s.g.u.v.set (goneG s.g m n).toNat (fstG s.g m n):=hju
 have hgr:(oneGr s.g m n).ranks=s.g.ranks:=rfl
 have facts:(0≤fstG s.g m n∧fstG s.g m n<nv)∧(0≤goneG s.g m n∧goneG s.g m n<nv)∧gi s.g.u.v (fstG s.g m n)=fstG s.g m n∧gi s.g.u.v (goneG s.g m n)=goneG s.g m n∧Sk.Eqv (skOf h.fine) first (atV s.a (fstG s.g m n)) (atV s.a (goneG s.g m n)):=by
  rcases hFg.1 with ⟨a1,a2⟩|⟨a1,a2⟩
  ·rw [a1,a2];exact ⟨im,iN,fm,fn,heq⟩
  ·rw [a1,a2];exact ⟨iN,im,fn,fm,heq.symm⟩
 have hlt:=hFg.2
 clear hFg h1 hju heq
 generalize hg':oneGr s.g m n=g' at *
 generalize hpl:onePs s.a s.g m n=L at *
 generalize hFe:fstG s.g m n=F at *
 generalize hge:goneG s.g m n=g0 at *
 obtain ⟨iF,ig,fF,fg,heq⟩:=facts
 have hne:F≠g0:=by rintro rfl;rw [lessR_irr] at hlt;cases hlt
 have pF:=hv.num F iF
 have pg:=hv.num g0 ig
 have hne':atV s.a F≠atV s.a g0:=fun q=>hne (atV_inj hv iF ig q)
 have hcl:=heq.resolve_left hne'
 have rF:repG s.a s.g (atV s.a F)=atV s.a F:=(rep_first hv hG iF).2 fF
 have rg:repG s.a s.g (atV s.a g0)=atV s.a g0:=(rep_first hv hG ig).2 fg
 have hlv:g'.u.v.length=nv:=by rw [hgv,List.length_set,hG.lv]
 have iFl:0≤F∧F<s.g.u.v.length:=by rw [hG.lv];exact iF
 have igl:0≤g0∧g0<s.g.u.v.length:=by rw [hG.lv];exact ig
 have hpar:Pv g'.ranks g'.u.v:=by rw [hgr,hgv];exact hG.par.set iFl igl hlt
 have hgetp:∀ k:Int,0≤k∧k<nv→gi g'.pre k=if k=g0 then [] else gi s.g.pre k:=by
  intro k hk
  rw [hgp]
  by_cases ek:k=g0
  ·rw [if_pos ek,ek,gi_set_eq (by rw [hG.lp];exact ig)]
  ·rw [if_neg ek,gi_set_ne ig.1 hk.1 (Ne.symm ek)]
 have hgets:∀ k:Int,0≤k∧k<nv→gi g'.suc k=if k=g0 then [] else gi s.g.suc k:=by
  intro k hk
  rw [hgs]
  by_cases ek:k=g0
  ·rw [if_pos ek,ek,gi_set_eq (by rw [hG.ls];exact ig)]
  ·rw [if_neg ek,gi_set_ne ig.1 hk.1 (Ne.symm ek)]
 have e1:∀ x,repG s.a g' x=if repG s.a s.g x=atV s.a g0 then atV s.a F else repG s.a s.g x:=by
  intro x
  by_cases hk:(termAt s.a x).1.kind=2
  ·have hs:=(hv.sym x hk).1
   have hf:=hG.fin hs
   rw [repG_var hv hlv hk,repG_var hv hG.lv hk,hgv,hG.par.fnd_set iFl igl hlt fF fg (by rw [hG.lv];exact hs)]
   by_cases ee:fnd s.g.u.v (termAt s.a x).1.sym=g0
   ·rw [if_pos ee,if_pos (by rw [ee])]
   ·rw [if_neg ee,if_neg fun q=>ee (atV_inj hv hf ig q)]
  ·rw [repG_not hk,repG_not hk,if_neg]
   rintro rfl
   exact hk pg.1
 have e2:∀ v z,(ghOf s.a g').pre v z↔v≠atV s.a g0∧(ghOf s.a s.g).pre v z:=by
  intro v z
  constructor
  ·rintro ⟨k,hk,hvk,hz⟩
   have hk':0≤k∧k<nv:=by rw [←hGok.lp];exact hk
   rw [hgetp k hk'] at hz
   split at hz
   ·simp at hz
   ·rename_i ek
    exact ⟨fun q=>ek (atV_inj hv hk' ig (by rw [←hvk,q])),k,by rw [hG.lp];exact hk',hvk,hz⟩
  ·rintro ⟨hne2,k,hk,hvk,hz⟩
   rw [hG.lp] at hk
   refine ⟨k,by rw [hGok.lp];exact hk,hvk,?_⟩
   rw [hgetp k hk,if_neg]
   ·exact hz
   ·rintro rfl;exact hne2 hvk
 have e3:∀ v z,(ghOf s.a g').suc v z↔v≠atV s.a g0∧(ghOf s.a s.g).suc v z:=by
  intro v z
  constructor
  ·rintro ⟨k,hk,hvk,hz⟩
   have hk':0≤k∧k<nv:=by rw [←hGok.ls];exact hk
   rw [hgets k hk'] at hz
   split at hz
   ·simp at hz
   ·rename_i ek
    exact ⟨fun q=>ek (atV_inj hv hk' ig (by rw [←hvk,q])),k,by rw [hG.ls];exact hk',hvk,hz⟩
  ·rintro ⟨hne2,k,hk,hvk,hz⟩
   rw [hG.ls] at hk
   refine ⟨k,by rw [hGok.ls];exact hk,hvk,?_⟩
   rw [hgets k hk,if_neg]
   ·exact hz
   ·rintro rfl;exact hne2 hvk
 have okF:∀ t,okAt s.sigs s.a (atV s.a F) t=true:=fun t=>okAt_flat hF (termAt_range (kind_is (by rw [pF.1];decide))) (by rw [pF.1];decide) t
 have tF:(termAt s.a (atV s.a F)).2=true:=kind_is (by rw [pF.1];decide)
 obtain ⟨h1,h2⟩:=h.puts L (fun q hq=>by
  rw [hps,List.mem_append] at hq
  rcases hq with hq|hq
  ·obtain ⟨z,hz,rfl⟩:=List.mem_map.1 hq
   have hzz:=hG.inp g0 ig z hz
   have c1:=h.inv.clr (h.inv.cp _ _ (show (ghOf s.a s.g).pre (atV s.a g0) z from ⟨g0,by rw [hG.lp];exact ig,rfl,hz⟩))
   have c2:(skOf h.fine).Cl first (repG s.a s.g z) (atV s.a g0):=by rw [←rg];exact c1
   refine ⟨?_,⟨termAt_range (rep_in hv hGok hzz.1),termAt_range tF⟩,⟨rep_ok hF hv hGok hzz.2,okF _⟩⟩
   show (skOf h.fine).Cl first (repG s.a g' z) (atV s.a F)
   rw [e1]
   split
   ·exact .trans hcl.1 pg.1 hcl.2
   ·exact .trans c2 pg.1 hcl.2
  ·obtain ⟨z,hz,rfl⟩:=List.mem_map.1 hq
   have hzz:=hG.ins g0 ig z hz
   have c1:=h.inv.clr (h.inv.cs _ _ (show (ghOf s.a s.g).suc (atV s.a g0) z from ⟨g0,by rw [hG.ls];exact ig,rfl,hz⟩))
   have c2:(skOf h.fine).Cl first (atV s.a g0) (repG s.a s.g z):=by rw [←rg];exact c1
   refine ⟨?_,⟨termAt_range tF,termAt_range (rep_in hv hGok hzz.1)⟩,⟨okF _,rep_ok hF hv hGok hzz.2⟩⟩
   show (skOf h.fine).Cl first (atV s.a F) (repG s.a g' z)
   rw [e1]
   split
   ·exact .trans hcl.1 pg.1 hcl.2
   ·exact .trans hcl.1 pg.1 c2)
 have hp:∀ z,(ghOf s.a s.g).pre (atV s.a g0) z→seenP (putsS s L) ((ghOf s.a g').rep z,atV s.a F):=by
  rintro z ⟨k,hk,hvk,hz⟩
  rw [hG.lp] at hk
  have:g0=k:=atV_inj hv ig hk hvk
  subst this
  rw [h2,hps,List.mem_append]
  exact .inr (.inl (List.mem_map.2 ⟨z,hz,rfl⟩))
 have hs:∀ z,(ghOf s.a s.g).suc (atV s.a g0) z→seenP (putsS s L) (atV s.a F,(ghOf s.a g').rep z):=by
  rintro z ⟨k,hk,hvk,hz⟩
  rw [hG.ls] at hk
  have:g0=k:=atV_inj hv ig hk hvk
  subst this
  rw [h2,hps,List.mem_append]
  exact .inr (.inr (List.mem_map.2 ⟨z,hz,rfl⟩))
 rw [putsS_g]
 obtain ⟨g1,g2,g3,g4,g5,g6⟩:=putsS_same L s
 refine h1.graph (by rw [g3,hgr]) (by rw [g1,g2];exact hGok) ?_
 have hi:=h1.inv
 revert hi
 generalize h1.fine=f1
 have key:∀ (l':List Sg) (a':Kd) (gg:Gr) (f1:Fine l' a'),l'=s.sigs→a'=s.a→gg=s.g→(skOf f1).Inv first (ltG a' gg.ranks) (seenP (putsS s L)) (fun q=>q∈[]++(putsS s L).w.l) (ghOf a' gg) →
   (skOf f1).Inv first (ltG a' gg.ranks) (seenP (putsS s L)) (fun q=>q∈[]++(putsS s L).w.l) (ghOf a' g'):=by
  rintro _ _ _ f1 rfl rfl rfl hi
  refine hi.merge (fun _ _ _=>lessR_tr) pF.1 pg.1 rF rg hne' hcl ?_ e1 e2 e3 hp hs
  show lessR _ _ _=true
  rw [pF.2,pg.2]
  exact hlt
 exact key _ _ _ f1 g1 g2 g3
def joinS (x:Int) (l:List Int) (s:Sy):Sy:=l.foldl (fun s y=>putsS { s with g:=(oneG s.a s.g x y).1 } (oneG s.a s.g x y).2) s
theorem joinS_eq (x:Int):∀ (l:List Int) (s:Sy) (g:Gr) (out:List (Int×Int)),joinS x l { putsS s out with g:=g }={ putsS s (joinL s.a x l (g,out)).2 with g:=(joinL s.a x l (g,out)).1 }
 | [],_,_,_=>rfl
 | y::l,s,g,out=>by
  have e2:=(putsS_same out s).2.1
  show joinS x l (putsS { putsS s out with g:=(oneG (putsS s out).a g x y).1 } (oneG (putsS s out).a g x y).2)=_
  rw [e2,putsS_g,←putsS_app,joinS_eq x l]
  rfl
theorem SInv.joins (x:Int) (hx:0≤x∧x<nv):∀ (l:List Int) {s:Sy} (h:SInv first nv [] s),(∀ y∈l,(0≤y∧y<nv)∧Sk.Eqv (skOf h.fine) first (atV s.a x) (atV s.a y))→SInv first nv [] (joinS x l s)
 | [],s,h,_=>h
 | y::l,s,h,hy=>by
  have h0:=hy y (by simp)
  have h1:=h.one hx h0.1 h0.2
  obtain ⟨g1,g2,_⟩:=putsS_same (oneG s.a s.g x y).2 { s with g:=(oneG s.a s.g x y).1 }
  refine SInv.joins x hx l h1 fun z hz=>?_
  have hz':=hy z (by simp [hz])
  refine ⟨hz'.1,?_⟩
  generalize h1.fine=f1
  have key:∀ (l':List Sg) (a':Kd) (f1:Fine l' a'),l'=s.sigs→a'=s.a→Sk.Eqv (skOf f1) first (atV a' x) (atV a' z):=by
   rintro _ _ f1 rfl rfl
   exact hz'.2
  exact key _ _ f1 g1 g2
end
section
variable {l:List Sg} {a:Kd} {nv:Nat} {g:Gr}
structure Dok (a:Kd) (nv:Nat) (g:Gr) (x:Int) (d:List Int):Prop where
 len:d.length=nv
 low:∀ i:Int,0≤i∧i<nv→-1≤gi d i
 self:∀ i:Int,0≤i∧i<nv→gi d i=0→i=x
 fix:∀ i:Int,0≤i∧i<nv→0≤gi d i→gi g.u.v i=i
 back:∀ i:Int,0≤i∧i<nv→0<gi d i→∃ j:Int,(0≤j∧j<nv)∧gi d j=gi d i - 1∧edgeG a g j i=true
theorem gi_map_range {f:Nat→Int} {n:Nat} {i:Int} (h:0≤i∧i<n):gi ((List.range n).map f) i=f i.toNat:=by
 have:i.toNat<n:=by omega
 simp [gi,List.getD,this]
theorem Dok.start {x:Int} (hx:0≤x∧x<nv) (hf:gi g.u.v x=x):Dok a nv g x (steps0 nv x):=by
 have e:∀ i:Int,0≤i∧i<nv→gi (steps0 nv x) i=if i=x then 0 else -1:=fun i hi=>by
  unfold steps0
  rw [gi_map_range hi,Int.toNat_of_nonneg hi.1]
 refine ⟨by simp [steps0],fun i hi=>?_,fun i hi h=>?_,fun i hi h=>?_,fun i hi h=>?_⟩
 ·rw [e i hi];split<;>decide
 ·rw [e i hi] at h
  split at h
  ·assumption
  ·simp at h
 ·rw [e i hi] at h
  split at h
  ·rename_i q;rw [q];exact hf
  ·simp at h
 ·rw [e i hi] at h
  split at h<;>simp at h
theorem Dok.relax1 {x v w k:Int} {d:List Int} (h:Dok a nv g x d) (hk:0≤k) (hv:0≤v∧v<nv) (hd:gi d v=k) (hw:0≤w∧w<nv) (hf:gi g.u.v w=w) (he:edgeG a g v w=true) (hn:gi d w<0):Dok a nv g x (d.set w.toNat (k+1)):=by
 have hwl:0≤w∧w<d.length:=by rw [h.len];exact hw
 have e:∀ i:Int,0≤i∧i<nv→gi (d.set w.toNat (k+1)) i=if i=w then k+1 else gi d i:=fun i hi=>by
  by_cases q:i=w
  ·rw [if_pos q,q,gi_set_eq hwl]
  ·rw [if_neg q,gi_set_ne hw.1 hi.1 (Ne.symm q)]
 refine ⟨by rw [List.length_set,h.len],fun i hi=>?_,fun i hi q=>?_,fun i hi q=>?_,fun i hi q=>?_⟩
 ·rw [e i hi];split
  ·omega
  ·exact h.low i hi
 ·rw [e i hi] at q
  split at q
  ·omega
  ·exact h.self i hi q
 ·rw [e i hi] at q
  split at q
  ·rename_i q';rw [q'];exact hf
  ·exact h.fix i hi q
 ·rw [e i hi] at q ⊢
  split at q
  ·rename_i q'
   rw [if_pos q']
   refine ⟨v,hv,?_,q'▸he⟩
   rw [e v hv,if_neg (by rintro rfl;omega)]
   omega
  ·rename_i q'
   rw [if_neg q']
   obtain ⟨j,hj,h1,h2⟩:=h.back i hi q
   refine ⟨j,hj,?_,h2⟩
   rw [e j hj,if_neg (by rintro rfl;omega)]
   exact h1
theorem Dok.relax {x v k:Int} (hk:0≤k) (hv:0≤v∧v<nv):∀ (ws:List Int) {d:List Int},Dok a nv g x d→gi d v=k→(∀ w∈ws,(0≤w∧w<nv)∧gi g.u.v w=w∧edgeG a g v w=true)→Dok a nv g x (relax d k ws)∧∀ i:Int,0≤i∧i<nv→0≤gi d i→gi (relax d k ws) i=gi d i
 | [],d,h,_,_=>⟨h,fun _ _ _=>rfl⟩
 | w::ws,d,h,hd,hw=>by
  have h0:=hw w (by simp)
  have hws:=fun z hz=>hw z (List.mem_cons_of_mem _ hz)
  have e:Go.AM.relax d k (w::ws)=Go.AM.relax (if gi d w<0 then d.set w.toNat (k+1) else d) k ws:=rfl
  rw [e]
  by_cases hn:gi d w<0
  ·rw [if_pos hn]
   have hne:v≠w:=by rintro rfl;omega
   have keep:∀ i:Int,0≤i∧i<nv→0≤gi d i→gi (d.set w.toNat (k+1)) i=gi d i:=fun i hi hp=>gi_set_ne h0.1.1 hi.1 (by rintro rfl;omega)
   obtain ⟨h1,h2⟩:=Dok.relax hk hv ws (h.relax1 hk hv hd h0.1 h0.2.1 h0.2.2 hn) (by rw [keep v hv (by omega)];exact hd) hws
   exact ⟨h1,fun i hi hp=>by rw [h2 i hi (by rw [keep i hi hp];exact hp),keep i hi hp]⟩
  ·rw [if_neg hn]
   exact Dok.relax hk hv ws h hd hws
theorem mem_nextTo {x w:Int} {n:Nat}:w∈nextTo a g x n↔(0≤w∧w<n)∧gi g.u.v w=w∧edgeG a g x w=true:=by
 unfold nextTo
 simp only [List.mem_filter,List.mem_map,List.mem_range,Bool.and_eq_true,decide_eq_true_eq]
 constructor
 ·rintro ⟨⟨k,hk,rfl⟩,h⟩
  exact ⟨by omega,h⟩
 ·rintro ⟨h,h2⟩
  exact ⟨⟨w.toNat,by omega,by omega⟩,h2⟩
theorem Dok.sweep {x:Int} (hG:Gok l a nv g) {k:Int} (hk:0≤k) {d:List Int} (h:Dok a nv g x d):∀ n:Nat,n≤nv→Dok a nv g x (sweepN a g k d n)
 | 0,_=>h
 | n+1,hn=>by
  have ih:=h.sweep hG hk n (by omega)
  unfold sweepN
  split
  ·rename_i e
   have hv:(0:Int)≤n∧(n:Int)<nv:=by omega
   have hf:=ih.fix n hv (by omega)
   refine (Dok.relax hk hv _ ih e fun w hw=>?_).1
   unfold nextG at hw
   rw [fnd_of hf,mem_nextTo,hG.lv] at hw
   exact hw
  ·exact ih
theorem Dok.steps {x:Int} (hG:Gok l a nv g) {d:List Int} (h:Dok a nv g x d):∀ n:Nat,Dok a nv g x (stepsN a g d n)
 | 0=>h
 | n+1=>by
  have ih:=h.steps hG n
  unfold stepsN
  exact ih.sweep hG (by omega) _ (by rw [h.len];exact Nat.le_refl _)
theorem Dok.all {x:Int} (hG:Gok l a nv g) (hx:0≤x∧x<nv) (hf:gi g.u.v x=x):Dok a nv g x (stepsG a g x):=by
 unfold stepsG
 rw [hG.lv]
 exact (Dok.start hx hf).steps hG nv
theorem backG_ok {d:List Int} {k w:Int}:∀ n:Nat,(backG a g d k w n=-1∧∀ j:Int,0≤j∧j<n→¬ (gi d j=k∧gi g.u.v j=j∧edgeG a g j w=true))∨((0≤backG a g d k w n∧backG a g d k w n<n)∧gi d (backG a g d k w n)=k∧gi g.u.v (backG a g d k w n)=backG a g d k w n∧edgeG a g (backG a g d k w n) w=true)
 | 0=>.inl ⟨rfl,fun j hj=>by omega⟩
 | n+1=>by
  unfold backG
  rcases backG_ok (d:=d) (k:=k) (w:=w) n with ⟨h1,h2⟩|⟨h1,h2⟩
  ·rw [h1,if_neg (by decide)]
   split
   ·rename_i q
    exact .inr ⟨by omega,q⟩
   ·rename_i q
    refine .inl ⟨rfl,fun j hj=>?_⟩
    by_cases e:j=n
    ·rw [e];exact q
    ·exact h2 j (by omega)
  ·rw [if_pos h1.1]
   exact .inr ⟨by omega,h2⟩
theorem Dok.prev {x:Int} {d:List Int} (h:Dok a nv g x d) {w:Int} (hw:0≤w∧w<nv) {k:Nat} (hd:gi d w=k+1) :
  (0≤backG a g d k w d.length∧backG a g d k w d.length<nv)∧gi d (backG a g d k w d.length)=k∧gi g.u.v (backG a g d k w d.length)=backG a g d k w d.length∧edgeG a g (backG a g d k w d.length) w=true:=by
 rcases backG_ok (a:=a) (g:=g) (d:=d) (k:=k) (w:=w) d.length with ⟨_,h2⟩|h2
 ·obtain ⟨j,hj,h3,h4⟩:=h.back w hw (by omega)
  refine absurd ⟨?_,?_,h4⟩ (h2 j (by rw [h.len];exact hj))
  ·omega
  ·exact h.fix j hj (by omega)
 ·rw [h.len] at h2 ⊢
  exact h2
theorem pathL_len {d:List Int}:∀ (k:Nat) (w:Int),(pathL a g d k w).length=k+1
 | 0,_=>rfl
 | k+1,w=>by rw [pathL,List.length_append,pathL_len k];rfl
end
section
variable {first:Int×Int→Prop} {nv:Nat} {s:Sy}
def Goes {l:List Sg} {a:Kd} (hF:Fine l a) (first:Int×Int→Prop) (x y:Int):Prop:=atV a x=atV a y∨(skOf hF).Cl first (atV a x) (atV a y)
theorem Goes.trans {l:List Sg} {a:Kd} {hF:Fine l a} {nv:Nat} (hv:Vok a nv) {x y z:Int} (hy:0≤y∧y<nv) (h:Goes hF first x y) (k:Goes hF first y z):Goes hF first x z:=by
 unfold Goes at *
 rcases h with h|h
 ·rw [h];exact k
 ·rcases k with k|k
  ·rw [←k];exact .inr h
  ·exact .inr (.trans h (hv.num y hy).1 k)
theorem SInv.edge (h:SInv first nv [] s) {v w:Int} (hv:0≤v∧v<nv) (hw:0≤w∧w<nv) (hfv:gi s.g.u.v v=v) (hfw:gi s.g.u.v w=w) (he:edgeG s.a s.g v w=true):Goes h.fine first v w:=by
 unfold edgeG at he
 simp only [Bool.and_eq_true,Bool.or_eq_true,decide_eq_true_eq,List.mem_map] at he
 have hfr:∀ z n:Int,frG s.a s.g z=n→0≤n→repG s.a s.g z=atV s.a n:=by
  intro z n hz hn
  unfold frG at hz
  unfold repG
  split at hz
  ·omega
  ·rename_i q
   rw [if_neg q,hz]
 have rv:=(rep_first h.vok h.gok hv).2 hfv
 have rw':=(rep_first h.vok h.gok hw).2 hfw
 refine .inr ?_
 rcases he.2 with ⟨z,hz,hz2⟩|⟨z,hz,hz2⟩
 ·have c:=h.inv.clr (h.inv.cs _ _ (show (ghOf s.a s.g).suc (atV s.a v) z from ⟨v,by rw [h.gok.ls];exact hv,rfl,hz⟩))
  have e1:(ghOf s.a s.g).rep z=atV s.a w:=hfr z w hz2 hw.1
  have e2:(ghOf s.a s.g).rep (atV s.a v)=atV s.a v:=rv
  rwa [e1,e2] at c
 ·have c:=h.inv.clr (h.inv.cp _ _ (show (ghOf s.a s.g).pre (atV s.a w) z from ⟨w,by rw [h.gok.lp];exact hw,rfl,hz⟩))
  have e1:(ghOf s.a s.g).rep z=atV s.a v:=hfr z v hz2 hv.1
  have e2:(ghOf s.a s.g).rep (atV s.a w)=atV s.a w:=rw'
  rwa [e1,e2] at c
theorem SInv.path (h:SInv first nv [] s) {x:Int} {d:List Int} (hx:0≤x∧x<nv) (hd:Dok s.a nv s.g x d):∀ (k:Nat) (w:Int),(0≤w∧w<nv)→gi d w=k →
  gi (pathL s.a s.g d k w) 0=x∧∀ y∈pathL s.a s.g d k w,(0≤y∧y<nv)∧gi s.g.u.v y=y∧Goes h.fine first x y∧Goes h.fine first y w
 | 0,w,hw,hdw=>by
  have e:=hd.self w hw hdw
  subst e
  refine ⟨rfl,fun y hy=>?_⟩
  simp only [pathL,List.mem_singleton] at hy
  subst hy
  exact ⟨hw,hd.fix _ hw (by omega),.inl rfl,.inl rfl⟩
 | k+1,w,hw,hdw=>by
  obtain ⟨p1,p2,p3,p4⟩:=hd.prev hw (k:=k) (by omega)
  obtain ⟨i1,i2⟩:=h.path hx hd k _ p1 p2
  have hfw:=hd.fix w hw (by omega)
  have hg:=h.edge p1 hw p3 hfw p4
  have hlen:=pathL_len (a:=s.a) (g:=s.g) (d:=d) k (backG s.a s.g d k w d.length)
  have hmem:backG s.a s.g d k w d.length∈pathL s.a s.g d k (backG s.a s.g d k w d.length):=by
   cases k with
   | zero=>simp [pathL]
   | succ k=>simp [pathL]
  rw [pathL]
  refine ⟨?_,fun y hy=>?_⟩
  ·rw [←i1]
   cases hp:pathL s.a s.g d k (backG s.a s.g d k w d.length) with
   | nil=>rw [hp] at hlen;simp at hlen
   | cons b r=>rfl
  ·rw [List.mem_append,List.mem_singleton] at hy
   rcases hy with hy|rfl
   ·obtain ⟨q1,q2,q3,q4⟩:=i2 y hy
    exact ⟨q1,q2,q3,q4.trans h.vok p1 hg⟩
   ·exact ⟨hw,hfw,(i2 _ hmem).2.2.1.trans h.vok p1 hg,.inl rfl⟩
theorem SInv.circle (h:SInv first nv [] s) {x y dep:Int} (hx:0≤x∧x<nv) (hy:0≤y∧y<nv) (hc:Goes h.fine first y x):SInv first nv [] (putsS { s with g:=(joinG s.a s.g (pathG s.a s.g x y dep)).1 } (joinG s.a s.g (pathG s.a s.g x y dep)).2):=by
 have hxf:=h.gok.par.fix (n:=x) (by rw [h.gok.lv];exact hx)
 have hyf:=h.gok.par.fix (n:=y) (by rw [h.gok.lv];exact hy)
 have ix:=h.gok.fin hx
 have iy:=h.gok.fin hy
 have hd:=Dok.all (a:=s.a) h.gok ix hxf
 have hc':Goes h.fine first (fnd s.g.u.v y) (fnd s.g.u.v x):=by
  have e:∀ n:Int,0≤n∧n<nv→(ghOf s.a s.g).rep (atV s.a n)=atV s.a (fnd s.g.u.v n):=fun n hn=>by
   show repG _ _ _=_
   rw [repG_var h.vok h.gok.lv (h.vok.num n hn).1,(h.vok.num n hn).2]
  unfold Goes at hc ⊢
  rw [←e x hx,←e y hy]
  rcases hc with hc|hc
  ·rw [hc];exact .inl rfl
  ·exact .inr (h.inv.clr hc)
 generalize hD:stepsG s.a s.g (fnd s.g.u.v x)=d at *
 by_cases hn:gi d (fnd s.g.u.v y)<0∨gi d (fnd s.g.u.v y)>(if 0>dep then 0 else dep)
 ·have:pathG s.a s.g x y dep=[]:=by unfold pathG;rw [hD,if_pos hn]
  rw [this]
  exact h
 ·have hp:pathG s.a s.g x y dep=pathL s.a s.g d (gi d (fnd s.g.u.v y)).toNat (fnd s.g.u.v y):=by unfold pathG;rw [hD,if_neg hn]
  obtain ⟨p1,p2⟩:=h.path ix hd (gi d (fnd s.g.u.v y)).toNat (fnd s.g.u.v y) iy (by omega)
  rw [←hp] at p1 p2
  have hj:=SInv.joins (fnd s.g.u.v x) ix (pathG s.a s.g x y dep).tail h (fun z hz=>by
   obtain ⟨q1,q2,q3,q4⟩:=p2 z (List.mem_of_mem_tail hz)
   refine ⟨q1,?_⟩
   have back:=(q4.trans h.vok iy hc')
   rcases q3 with q3|q3
   ·exact .inl q3
   ·rcases back with b|b
    ·exact .inl b.symm
    ·exact .inr ⟨q3,b⟩)
  have e:=joinS_eq (fnd s.g.u.v x) (pathG s.a s.g x y dep).tail s s.g []
  have e':joinS (fnd s.g.u.v x) (pathG s.a s.g x y dep).tail s={ putsS s (joinL s.a (fnd s.g.u.v x) (pathG s.a s.g x y dep).tail (s.g,[])).2 with g:=(joinL s.a (fnd s.g.u.v x) (pathG s.a s.g x y dep).tail (s.g,[])).1 }:=e
  rw [e'] at hj
  unfold joinG
  rw [p1,putsS_g]
  exact hj
end
section
variable {first:Int×Int→Prop} {nv:Nat} {s:Sy} {p:Int×Int}
theorem at_num {a:Kd} {g:Gr} (hv:Vok a nv) (hl:g.u.v.length=nv) {z:Int} (h:0≤numOf a g z):(0≤numOf a g z∧numOf a g z<nv)∧atV a (numOf a g z)=z:=by
 by_cases hk:(termAt a z).1.kind=2
 ·rw [numOf_var hv hl hk]
  exact hv.sym z hk
 ·rw [numOf_not hk] at h
  omega
theorem SInv.atomS (h:SInv first nv [p] s) (hk:(stepOf s.sigs s.a p.1 p.2).1=2):SInv first nv [] (Go.AM.atomS s p):=by
 have h1:=h.atom hk
 have hS:seenP s p:=h.inv.QS _ (by simp)
 have hC:=h.inv.seen _ _ hS
 unfold Go.AM.atomS
 simp only
 rw [putsS_g]
 obtain ⟨g1,g2,g3,g4,g5,g6⟩:=putsS_same (addG s.a s.g p).2.1 s
 split
 ·exact h1
 ·rename_i hn
  have hx:0≤numOf s.a (addG s.a s.g p).1 (repG s.a (addG s.a s.g p).1 p.1):=by omega
  have hy:0≤numOf s.a (addG s.a s.g p).1 (repG s.a (addG s.a s.g p).1 p.2):=by omega
  generalize hq:(addG s.a s.g p).1=g' at *
  generalize hL:(addG s.a s.g p).2.1=L at *
  have key:∀ (t:Sy) (h1:SInv first nv [] t),t.sigs=s.sigs→t.a=s.a→t.g=g'→SInv first nv [] (putsS { t with g:=(joinG s.a g' (pathG s.a g' (numOf s.a g' (repG s.a g' p.2)) (numOf s.a g' (repG s.a g' p.1)) s.depth)).1 } (joinG s.a g' (pathG s.a g' (numOf s.a g' (repG s.a g' p.2)) (numOf s.a g' (repG s.a g' p.1)) s.depth)).2):=by
   intro t ht e1 e2 e3
   have a1:=at_num h.vok (by have:=ht.gok.lv;rw [e3] at this;exact this) hx
   have a2:=at_num h.vok (by have:=ht.gok.lv;rw [e3] at this;exact this) hy
   rw [←e2,←e3]
   rw [←e2,←e3] at a1 a2
   refine ht.circle a2.1 a1.1 ?_
   have hCt:(skOf ht.fine).Cl first p.1 p.2:=by
    generalize ht.fine=f1
    have key:∀ (l':List Sg) (a':Kd) (f1:Fine l' a'),l'=s.sigs→a'=s.a→(skOf f1).Cl first p.1 p.2:=by
     rintro _ _ f1 rfl rfl
     exact hC
    exact key _ _ f1 e1 e2
   have c:=ht.inv.clr hCt
   unfold Goes
   rw [a1.2,a2.2]
   exact .inr c
  exact key _ h1 g1 g2 rfl
theorem SInv.once (h:SInv first nv [] s) (hl:s.w.l≠[]):SInv first nv [] (onceS s):=by
 have h1:=h.pop hl
 have hS:seenP (popS s) (gi s.w.l 0):=h1.inv.QS _ (by simp)
 unfold onceS
 simp only
 have hst:stepOf (popS s).sigs (popS s).a (gi s.w.l 0).1 (gi s.w.l 0).2=stepOf s.sigs s.a (gi s.w.l 0).1 (gi s.w.l 0).2:=rfl
 have hlaw:=stepOf_law h.fine (gi s.w.l 0).1 (gi s.w.l 0).2
 by_cases k1:(stepOf s.sigs s.a (gi s.w.l 0).1 (gi s.w.l 0).2).1=1
 ·rw [if_pos k1]
  obtain ⟨h2,h3⟩:=h1.puts (stepOf s.sigs s.a (gi s.w.l 0).1 (gi s.w.l 0).2).2 (fun q hq=>h1.part hS hq)
  obtain ⟨g1,g2,g3,g4,g5,g6⟩:=putsS_same (stepOf s.sigs s.a (gi s.w.l 0).1 (gi s.w.l 0).2).2 (popS s)
  have hst2:stepOf (putsS (popS s) (stepOf s.sigs s.a (gi s.w.l 0).1 (gi s.w.l 0).2).2).sigs (putsS (popS s) (stepOf s.sigs s.a (gi s.w.l 0).1 (gi s.w.l 0).2).2).a (gi s.w.l 0).1 (gi s.w.l 0).2=stepOf s.sigs s.a (gi s.w.l 0).1 (gi s.w.l 0).2:=by rw [g1,g2];rfl
  exact h2.drop (c:=(putsS (popS s) (stepOf s.sigs s.a (gi s.w.l 0).1 (gi s.w.l 0).2).2).clash) (h2.noatom (by rw [hst2];omega)) (fun q hq=>by rw [hst2] at hq;rw [h3];exact .inr hq) (by rw [hst2,if_neg (by omega)])
 ·have hnil:=hlaw.2.2.resolve_left k1
  rw [if_neg k1]
  by_cases k2:(stepOf s.sigs s.a (gi s.w.l 0).1 (gi s.w.l 0).2).1=2
  ·rw [if_pos k2]
   exact h1.atomS k2
  ·rw [if_neg k2]
   have hd:=h1.drop (c:=if (stepOf s.sigs s.a (gi s.w.l 0).1 (gi s.w.l 0).2).1=3 then layP s.clash (gi s.w.l 0) else s.clash) (h1.noatom k2) (fun q hq=>by rw [hst,hnil] at hq;simp at hq) rfl
   split
   ·rename_i k3
    rw [if_pos k3] at hd
    exact hd
   ·rename_i k3
    rw [if_neg k3] at hd
    exact hd
theorem seen_putS {q:Int×Int} (h:seenP s q) (p:Int×Int):seenP (putS s p) q:=by
 unfold seenP putS putW at *
 split
 ·rename_i hn
  unfold putK at hn ⊢
  split
  ·rename_i e;rw [if_pos e] at hn;cases hn
  ·exact List.mem_append_left _ h
 ·exact h
theorem seen_putsS {q:Int×Int}:∀ (l:List (Int×Int)) {s:Sy},seenP s q→seenP (putsS s l) q
 | [],_,h=>h
 | p::l,_,h=>seen_putsS l (seen_putS h p)
theorem seen_once {q:Int×Int} (h:seenP s q):seenP (onceS s) q:=by
 unfold onceS Go.AM.atomS
 simp only
 split
 ·exact seen_putsS _ h
 ·split
  ·split
   ·exact seen_putsS (s:={ popS s with g:=_ }) _ h
   ·refine seen_putsS (s:={ putsS { popS s with g:=_ } _ with g:=_ }) _ ?_
    exact seen_putsS (s:={ popS s with g:=_ }) _ h
  ·split
   ·exact h
   ·exact h
theorem once_same (s:Sy):(onceS s).sigs=s.sigs∧(onceS s).a=s.a∧(onceS s).depth=s.depth∧(onceS s).steps=s.steps+1:=by
 unfold onceS Go.AM.atomS
 simp only
 have key:∀ (l:List (Int×Int)) (t:Sy),t.sigs=s.sigs∧t.a=s.a∧t.depth=s.depth∧t.steps=s.steps+1→(putsS t l).sigs=s.sigs∧(putsS t l).a=s.a∧(putsS t l).depth=s.depth∧(putsS t l).steps=s.steps+1:=by
  intro l t ht
  obtain ⟨g1,g2,g3,g4,g5,g6⟩:=putsS_same l t
  rw [g1,g2,g4,g5]
  exact ht
 have k0:(popS s).sigs=s.sigs∧(popS s).a=s.a∧(popS s).depth=s.depth∧(popS s).steps=s.steps+1:=⟨rfl,rfl,rfl,rfl⟩
 split
 ·exact key _ _ k0
 ·split
  ·split
   ·exact key _ _ k0
   ·exact key _ _ (key _ { popS s with g:=_ } k0)
  ·split
   ·exact k0
   ·exact k0
theorem keys_nodup {a:Kd} (h:hashRight a=true):a.keys.Nodup:=by
 unfold hashRight at h
 simp only [Bool.and_eq_true,decide_eq_true_eq] at h
 rw [List.Nodup,List.pairwise_iff_getElem]
 intro i j hi hj hij e
 have h1:=h.1 j hj
 have e1:gi a.keys (j:Int)=a.keys[j]:=by simp [gi,List.getD,hj]
 have e2:gi a.keys (i:Int)=a.keys[i]:=by simp [gi,List.getD,hi]
 have h2:=h.1 i hi
 rw [e2,e,←e1,h1] at h2
 omega
theorem SInv.many (h:SInv first nv [] s):s.w.seen.keys.length≤s.a.keys.length*s.a.keys.length:=by
 have hn:=keys_nodup h.hseen
 have h1:(s.w.seen.keys.map fun k=>(gi k 0).toNat*s.a.keys.length+(gi k 1).toNat).Nodup:=by
  refine nodup_map hn ?_
  intro k hk k' hk' e
  obtain ⟨p,rfl,hp,_⟩:=h.keys k hk
  obtain ⟨q,rfl,hq,_⟩:=h.keys k' hk'
  simp only [gi] at e
  have a1:=hp.1;have a2:=hp.2;have b1:=hq.1;have b2:=hq.2
  have e1:(p.1.toNat*s.a.keys.length+p.2.toNat)=(q.1.toNat*s.a.keys.length+q.2.toNat):=by simpa using e
  have hm:p.2.toNat=q.2.toNat:=by
   have:=congrArg (·%s.a.keys.length) e1
   simp only [Nat.mul_add_mod_self_right] at this
   rwa [Nat.mod_eq_of_lt (by omega),Nat.mod_eq_of_lt (by omega)] at this
  have hd:p.1.toNat=q.1.toNat:=by
   rw [hm] at e1
   have:p.1.toNat*s.a.keys.length=q.1.toNat*s.a.keys.length:=by omega
   exact Nat.eq_of_mul_eq_mul_right (by omega) this
  have:p=q:=Prod.ext (by omega) (by omega)
  rw [this]
 have h2:=pigeon (s.a.keys.length*s.a.keys.length) _ h1 (by
  intro x hx
  obtain ⟨k,hk,rfl⟩:=List.mem_map.1 hx
  obtain ⟨p,rfl,hp,_⟩:=h.keys k hk
  have a1:=hp.1;have a2:=hp.2
  show p.1.toNat*s.a.keys.length+p.2.toNat<_
  have:(p.1.toNat+1)*s.a.keys.length≤s.a.keys.length*s.a.keys.length:=Nat.mul_le_mul_right _ (by omega)
  rw [Nat.add_mul] at this
  omega)
 simpa using h2
theorem SInv.run (s0:Sy):∀ (n:Nat) {s:Sy},SInv first nv [] s→(s.a.keys.length*s.a.keys.length:Nat)≤n+s.steps→
  ∃ t,runN s0 n s=(t,0)∧SInv first nv [] t∧t.w.l=[]∧(t.sigs=s.sigs∧t.a=s.a∧t.depth=s.depth)∧∀ q,seenP s q→seenP t q
 | 0,s,h,hn=>by
  have hm:=h.many
  have hc:=h.cnt
  have:s.w.l=[]:=by
   cases hl:s.w.l with
   | nil=>rfl
   | cons p l=>rw [hl] at hc;simp at hc;omega
  exact ⟨s,by unfold runN;rw [if_pos this],h,this,⟨rfl,rfl,rfl⟩,fun q h=>h⟩
 | n+1,s,h,hn=>by
  by_cases hl:s.w.l=[]
  ·exact ⟨s,by unfold runN;rw [if_pos hl],h,hl,⟨rfl,rfl,rfl⟩,fun q h=>h⟩
  ·obtain ⟨o1,o2,o3,o4⟩:=once_same s
   obtain ⟨t,h1,h2,h3,⟨h4,h5,h6⟩,h7⟩:=SInv.run s0 n (h.once hl) (by rw [o2,o4];omega)
   refine ⟨t,by unfold runN;rw [if_neg hl];exact h1,h2,h3,⟨h4.trans o1,h5.trans o2,h6.trans o3⟩,fun q hq=>h7 q (seen_once hq)⟩
end
end Go.AM
