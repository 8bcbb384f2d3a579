/- The abstract machine, part 30: what comes in, by the program's types. -/
import Derived.Test.YtpdjffpdanmoeaaGreatAm3
import Derived.OpenShut
import Derived.Sort.Grow
namespace Go.AM
set_option linter.unusedVariables false
set_option linter.unusedSimpArgs false
variable {P:Program} {w:World}
theorem no_agg {W:World} {base:Nat} {t:TypeId} {xs:Array Value} (h:Cell.okWide P W .any base t (.agg xs)):False:=by
 unfold Cell.okWide Cell.ok at h
 split at h<;>first|(split at h<;>simp_all;done)|simp_all
theorem wide_agg {W:World} {base:Nat} {t:TypeId} {v:Value} (h:Value.okWide P W .any base t v):wideT P t=true↔∃ xs,v=.agg xs:=by
 unfold Value.okWide at h
 unfold wideT
 split at h
 ·rename_i fs hu
  obtain ⟨cs,rfl,_⟩:=h
  simp [hu]
 ·rename_i n e hu
  obtain ⟨cs,rfl,_⟩:=h
  simp [hu]
 ·rename_i h1 h2
  constructor
  ·intro hw
   exfalso
   split at hw
   ·rename_i n e hu;exact h2 n e hu
   ·rename_i fs hu;exact h1 fs hu
   ·cases hw
  ·rintro ⟨xs,rfl⟩
   exact (no_agg h).elim
def Ty.arg (ty:Ty) (wide:Bool) (a:AV):Prop:=if wide then ∃ as,a=.agg as∧ty.is as else ty.is [a]
theorem trod_argW {H:Type} {enc:TypeId×Value→H} {base b2:Nat} {sp:Nat→Bool} {held:Bool} {B:DataW H→Nat} (hB:Bulk B) (ty:Ty) {t:TypeId} {v:Value} {d:DataW H} {ps:List MemPlace} (wide:Bool) (hw:wideT P t=wide) (h1:wide=true∨ty.size=1) (hf:ty.fits P t=true)
  (hok:Value.okWide P w .any b2 t v) (h:DataW.Trod enc P w base sp held t v d ps) (hb:B d≤lim) :
  ∃ a,ty.arg wide a∧RL 0 a∧VR (fun _=>False) [] w a v:=by
 obtain ⟨fuel,h⟩:=h
 obtain ⟨as,k1,k2,k3,k4⟩:=trod_is hB ty t fuel _ (d,ps) hf h hb
 subst hw
 by_cases hw:wideT P t=true
 ·obtain ⟨xs,rfl⟩:=(wide_agg hok).1 hw
  refine ⟨.agg as,by simp only [Ty.arg,hw,if_true];exact ⟨as,rfl,k1⟩,by simpa using k4,?_⟩
  refine .agg as xs (by simpa [Value.cells] using k2.1) (fun j hj hj'=>?_)
  have:=k2.2 j hj (by simpa [Value.cells] using hj')
  simpa [Value.cells] using this
 ·have hn:¬ ∃ xs,v=.agg xs:=fun h=>hw ((wide_agg hok).2 h)
  have hc:=cells_toList_one hn
  rw [hc] at k2
  have hs:=h1.resolve_left hw
  match as,k1,k2,k3,k4 with
  | [a],k1,k2,k3,k4=>exact ⟨a,by simp only [Ty.arg,hw];exact k1,k4 a (by simp),k2.2 0 (by simp) (by simp)⟩
  | [],_,k2,_,_=>have:=k2.1;simp at this
  | _::_::_,_,k2,_,_=>have:=k2.1;simp at this
def tySigs:Ty:=.slice (.struct [.str,.str])
def tyInts:Ty:=.slice (.int .i64)
def sigsFit (l:List Sg):Prop:=l.length≤lim∧∀ s∈l,s.name.size≤lim∧s.args.size≤lim
def intsFit (l:List Int):Prop:=l.length≤lim∧∀ n∈l,(Lit.int .i64 n).wf=true
def intssFit (l:List (List Int)):Prop:=l.length≤lim∧∀ k∈l,intsFit k
def kdFit (a:Kd):Prop:=intssFit a.keys∧intsFit a.slots
theorem is_sigs {as:List AV} (h:tySigs.is as):∃ l:List Sg,as=[sigs l]∧sigsFit l:=by
 simp only [tySigs,Ty.is,Ty.isL] at h
 obtain ⟨e1,rfl,hl1,hs1⟩:=h
 obtain ⟨l,rfl,hl⟩:=is_rows (f:=fun s:Sg=>[AV.str s.name,AV.str s.args]) (p:=fun s=>s.name.size≤lim∧s.args.size≤lim) (fun z hz=>by
  obtain ⟨_,_,rfl,⟨s1,rfl,k1⟩,_,_,rfl,⟨s2,rfl,k2⟩,rfl⟩:=hz
  exact ⟨⟨s1,s2⟩,rfl,k1,k2⟩) hs1
 exact ⟨l,rfl,by simpa using hl1,hl⟩
theorem is_ints {as:List AV} (h:tyInts.is as):∃ l:List Int,as=[ints l]∧intsFit l:=by
 simp only [tyInts,Ty.is] at h
 obtain ⟨e1,rfl,hl1,hs1⟩:=h
 obtain ⟨l,rfl,hl⟩:=is_rows (f:=fun n:Int=>[i64 n]) (p:=fun n=>(Lit.int .i64 n).wf=true) (fun u hu=>hu) hs1
 exact ⟨l,rfl,by simpa using hl1,hl⟩
theorem is_int {k:IntKind} {as:List AV} (h:(Ty.int k).is as):∃ n:Int,as=[.int k n]∧(Lit.int k n).wf=true:=h
theorem sigsFit.args {l:List Sg} (h:sigsFit l) (i:Nat) (hi:i<l.length):(gi l i).args.size≤maxA:=by
 have:=(h.2 (gi l i) (by simp [gi,List.getD,hi])).2
 unfold lim at this
 unfold maxA
 omega
theorem kdFit.many {a:Kd} (h:kdFit a):a.keys.length≤1048576:=h.1.1
theorem kdFit.keys {a:Kd} (h:kdFit a) (i:Nat) (hi:i<a.keys.length):(gi a.keys i).length≤maxA:=by
 have:=(h.1.2 (gi a.keys i) (by simp [gi,List.getD,hi])).1
 unfold lim at this
 unfold maxA
 omega
end Go.AM
namespace Go.AM
set_option linter.unusedVariables false
set_option linter.unusedSimpArgs false
variable {P:Program} {lo:Nat} {K:AEx→Tm→AHeap→Prop} {T:Tm} {H:AHeap}
theorem run_loopK {a:ACode} (I:Nat→Tm→AHeap→Prop) (n:Nat) (T':Tm) (H':AHeap) (hw:Wk lo T H T' H') (hi:I n T' H')
  (h:∀ n T H,I n T H→∀ KK,(∀ id,KK (.exit id)=K (.exit id))→KK .ret=K .ret→(∀ T H,Kl lo I n K .normal T H→KK .normal T H)→run P lo a KK T H):run P lo (.loop a) K T H :=
 run_loop I n T' H' hw hi fun n T H hI=>h n T H hI _ (fun _=>rfl) rfl (fun _ _ h=>h)
theorem run_countK {a:ACode} (N t:Nat) (B:Tm) (H0:AHeap) (φ:Nat→Prop) (hw:Wk lo T H ((t,i64 0)::B) H0) (h0:φ 0)
  (h:∀ i:Nat,i≤N→φ i→∀ KK,(∀ id,KK (.exit id)=K (.exit id))→KK .ret=K .ret→(∀ T H,Kn lo N t B H0 φ i K .normal T H→KK .normal T H)→run P lo a KK ((t,i64 i)::B) H0):run P lo (.loop a) K T H :=
 run_count N t B H0 φ hw h0 fun i hi hf=>h i hi hf _ (fun _=>rfl) rfl (fun _ _ h=>h)
theorem run_markT (T':Tm) (H':AHeap) (hw:Wk lo T H T' H') (h:K .normal T' H'):run P lo .mark K T H:=⟨T',H',hw,h⟩
theorem by_way {A B:Prop} (h:(Unit→A)→B) (ha:A):B:=h fun _=>ha
end Go.AM
namespace Go.AM
set_option linter.unusedVariables false
set_option linter.unusedSimpArgs false
variable {P:Program}
theorem FT.take {f:FuncId} {as:List AV} {H:AHeap} {R R':AV→AHeap→Prop} (h:FT P f as H R') (hR:∀ rv H',R' rv H'→RL H.length rv∧(∀ b∈H'.take H.length,RLB H.length b)∧R rv (H'.take H.length)):FT P f as H R:=by
 refine ⟨h.1,fun X E w vals hr ha=>(h.2 X E w vals hr ha).mono ?_⟩
 rintro e w' ⟨v,rv,E',H',k1,k2,k3,k4,k5⟩
 obtain ⟨r1,r2,r3⟩:=hR rv H' k2
 exact ⟨v,rv,E'.take H.length,H'.take H.length,k1,r3,k3.take _ r1,k4.take _ r2,k5.take _ (by rw [hr.len];exact Nat.le_refl _)⟩
theorem FTt {an:An} {f:FuncId} {fn:Func} {af:AFn} {args:List AV} {H:AHeap} {R:AV→AHeap→Prop} (hm:P.follows .mixedOrders=true) (hf:P.funcs[f]?=some fn) (hc:cFn P an fn=some af) (hn:args.length≤af.n)
  (h:run P H.length af.code (Kend af.res fun rv H'=>RL H.length rv∧(∀ b∈H'.take H.length,RLB H.length b)∧R rv (H'.take H.length)) (argsT 0 args) H):FT P f args H R :=
 (FTk hm hf hc hn h).take fun _ _ h=>h
abbrev u8s (l:List Int):AV:=.rows false 1 (l.map fun n=>[.int .u8 n])
def bl (s:ByteArray):List Int:=s.data.toList.map fun b=>(b.toNat:Int)
@[simp] theorem aS2b_bl {s:ByteArray}:aS2b (.str s)=if s.size≤maxA then some (u8s (bl s)) else none:=by
 have e:s.data.toList.map (fun b=>[AV.int .u8 (b.toNat:Int)])=(bl s).map fun n=>[AV.int .u8 n]:=by
  unfold bl
  rw [List.map_map]
  rfl
 simp only [aS2b,e]
theorem byte_range (s:ByteArray) (i:Int):0≤byte s i∧byte s i<256:=by
 unfold byte
 have:=(s.data.getD i.toNat 0).toNat_lt
 omega
end Go.AM
namespace Go.AM
set_option linter.unusedVariables false
set_option linter.unusedSimpArgs false
variable {P:Program}
def rlB (n:Nat):Nat→AV→Bool
 | 0,_=>false
 | k+1,av=>match av with
  | .rows _ _ es=>es.all fun e=>e.all (rlB n k)
  | .loc i _ _ _ _ _=>decide (i<n)
  | .ptr i _ _=>decide (i<n)
  | .rptr cs=>cs.all (rlB n k)
  | .mapr i _=>decide (i<n)
  | .fn _ fs cs=>fs.all (rlB n k)&&cs.all (rlB n k)
  | .iface _ v=>rlB n k v
  | .agg cs=>cs.all (rlB n k)
  | .tuple cs=>cs.all (rlB n k)
  | _=>true
theorem rlB_sound {n:Nat}:∀ {k:Nat} {av:AV},rlB n k av=true→RL n av
 | k+1,av,h=>by
  have all:∀ {cs:List AV},cs.all (rlB n k)=true→∀ y∈cs,RL n y:=fun h y hy=>rlB_sound (List.all_eq_true.1 h y hy)
  cases av<;>simp only [rlB] at h<;>first|(simp;done)|skip
  ·simp only [RL_rows]
   intro x hx
   exact all (List.all_eq_true.1 h x hx)
  ·simpa using h
  ·simpa using h
  ·simp only [RL_rptr];exact all h
  ·simpa using h
  ·simp only [Bool.and_eq_true] at h
   simp only [RL_fn]
   exact ⟨all h.1,all h.2⟩
  ·simp only [RL_iface];exact rlB_sound h
  ·simp only [RL_agg];exact all h
  ·simp only [RL_tuple];exact all h
def rlbB (n:Nat):ABlk→Bool
 | .dead _=>true
 | .cells _ cs=>cs.all (rlB n 40)
 | .map _ es=>es.all fun p=>rlB n 40 p.1&&rlB n 40 p.2
theorem rlbB_sound {n:Nat} {b:ABlk} (h:rlbB n b=true):RLB n b:=by
 cases b with
 | dead g=>trivial
 | cells g cs=>exact fun y hy=>rlB_sound (List.all_eq_true.1 h y hy)
 | map g es =>
  intro y hy
  have:=List.all_eq_true.1 h y hy
  simp only [Bool.and_eq_true] at this
  exact ⟨rlB_sound this.1,rlB_sound this.2⟩
abbrev CallF:=FuncId→List AV→AHeap→Option (AV×AHeap)
abbrev CallP:=FuncId→List AV→Option AV
def CallOk (P:Program) (cf:CallF):Prop:=∀ f as H r H',cf f as H=some (r,H')→FT P f as H fun rv h=>rv=r∧h=H'
def PureOk (P:Program) (cp:CallP):Prop:=∀ f as r,cp f as=some r→PF P f as r
def evalA (cf:CallF) (g:FuncId) (as:List AV) (H:AHeap) (s:Nat):Option (AV×AHeap) :=
 if as.all (rlB 0 40) then (match cf g as [] with
  | some (.loc 0 0 0 len sz c,[.cells 0 cs])=>if cs.all (rlB 0 40) then (match H[s]? with
   | some (.dead g0)=>some (.loc s (g0+1) 0 len sz c,H.set s (.cells (g0+1) cs))
   | _=>none) else none
  | _=>none) else none
theorem evalA_sound {cf:CallF} (hf:CallOk P cf) {g:FuncId} {as:List AV} {H H':AHeap} {s:Nat} {r:AV} (h:evalA cf g as H s=some (r,H')) :
  ∃ len sz c cs g0,PFA P g as len sz c cs∧H[s]?=some (.dead g0)∧r=.loc s (g0+1) 0 len sz c∧H'=H.set s (.cells (g0+1) cs):=by
 unfold evalA at h
 split at h
 ·rename_i hal
  split at h
  ·rename_i len sz c cs h1
   split at h
   ·rename_i hcs
    split at h
    ·rename_i g0 hs
     injection h with h
     injection h with e1 e2
     exact ⟨len,sz,c,cs,g0,⟨fun a ha=>rlB_sound (List.all_eq_true.1 hal a ha),fun a ha=>rlB_sound (List.all_eq_true.1 hcs a ha),hf _ _ _ _ _ h1⟩,hs,e1.symm,e2.symm⟩
    ·cases h
   ·cases h
  ·cases h
 ·cases h
def evalIns (cf:CallF) (cp:CallP) (d:Bool) (i:AIns) (T:Tm) (H:AHeap):Option (Tm×AHeap) :=
 match i.op with
 | .snil neg x=>if d then none else match x.ev T with
  | .nilS=>some (put T i.dst (.bool (true != neg)),H)
  | .rows _ _ (_::_)=>some (put T i.dst (.bool (false != neg)),H)
  | .loc j g _ (_+1) _ _=>if alive H j g then some (put T i.dst (.bool (false != neg)),H) else none
  | _=>none
 | .call f args=>match callArgs T f args with
  | some (g,as)=>if d then (match cp g as with|some r=>some (put T i.dst r,H)|none=>none) else (match cf g as H with|some (r,H')=>some (put T i.dst r,H')|none=>none)
  | none=>none
 | .callh f args=>match callArgs T f args with
  | some (g,as)=>match cf g as H with
   | some (r,H')=>if d then none else some (put T i.dst r,H')
   | none=>none
  | none=>none
 | .calla k j f args=>if d then (match callArgs T f args with
  | some (g,as)=>match evalA cf g as H (k*10+j) with
   | some (r,H')=>some (put T i.dst r,H')
   | none=>match cp g as with
    | some r=>some (put T i.dst r,H)
    | none=>none
  | none=>none) else none
 | op=>match aop op (Opd.ev T) H with
  | some (v,H')=>some (put T i.dst v,H')
  | none=>none
theorem evalIns_sound {cf:CallF} {cp:CallP} (hf:CallOk P cf) (hp:PureOk P cp) {d:Bool} {i:AIns} {K:Tm→AHeap→Prop} {T T':Tm} {H H':AHeap} (h:evalIns cf cp d i T H=some (T',H')) (hK:K T' H'):runIns P d i K T H:=by
 unfold evalIns at h
 unfold runIns
 split at h
 ·rename_i neg x hop
  split at h
  ·cases h
  ·rename_i hd
   have hd:d=false:=by simpa using hd
   split at h
   ·rename_i hx
    simp only [hop,hx,snilP]
    injection h with h
    injection h with h1 h2
    subst h1 h2
    exact ⟨hd,fun b hb=>by rw [hb];exact hK⟩
   ·rename_i c sz e es hx
    simp only [hop,hx,snilP]
    injection h with h
    injection h with h1 h2
    subst h1 h2
    refine ⟨hd,fun b hb=>?_⟩
    cases b with
    | false=>exact hK
    | true=>exact absurd (hb rfl) (by simp)
   ·rename_i j g off len sz c hx
    split at h
    ·rename_i hal
     simp only [hop,hx,snilP,hal,if_true]
     injection h with h
     injection h with h1 h2
     subst h1 h2
     refine ⟨hd,fun b hb=>?_⟩
     cases b with
     | false=>exact hK
     | true=>exact absurd (hb rfl) (by simp)
    ·cases h
   ·cases h
 ·rename_i f args hop
  simp only [hop]
  split at h
  ·rename_i g as hca
   simp only [hca]
   split at h
   ·rename_i hd
    rw [if_pos hd]
    split at h
    ·rename_i r hr
     injection h with h
     injection h with h1 h2
     subst h1 h2
     exact ⟨r,hp _ _ _ hr,hK⟩
    ·cases h
   ·rename_i hd
    rw [if_neg hd]
    split at h
    ·rename_i r H1 hr
     injection h with h
     injection h with h1 h2
     subst h1 h2
     exact (hf _ _ _ _ _ hr).mono fun rv H2 ⟨e1,e2⟩=>by subst e1 e2;exact hK
    ·cases h
  ·cases h
 ·rename_i f args hop
  simp only [hop]
  split at h
  ·rename_i g as hca
   simp only [hca]
   split at h
   ·rename_i r H1 hr
    split at h
    ·cases h
    ·rename_i hd
     rw [if_neg hd]
     injection h with h
     injection h with h1 h2
     subst h1 h2
     exact (hf _ _ _ _ _ hr).mono fun rv H2 ⟨e1,e2⟩=>by subst e1 e2;exact hK
   ·cases h
  ·cases h
 ·rename_i k j f args hop
  simp only [hop]
  split at h
  ·rename_i hd
   split at h
   ·rename_i g as hca
    simp only [hca]
    refine ⟨hd,?_⟩
    split at h
    ·rename_i r H1 hr
     injection h with h
     injection h with h1 h2
     subst h1 h2
     obtain ⟨len,sz,c,cs,g0,q1,q2,rfl,rfl⟩:=evalA_sound hf hr
     exact .inr ⟨len,sz,c,cs,g0,q1,q2,hK⟩
    ·split at h
     ·rename_i r hr
      injection h with h
      injection h with h1 h2
      subst h1 h2
      exact .inl ⟨r,hp _ _ _ hr,hK⟩
     ·cases h
   ·cases h
  ·cases h
 ·rename_i hn1 hn2 hn3 hn4
  split
  ·rename_i neg x hop
   exact absurd hop (hn1 neg x)
  ·rename_i f args hop
   exact absurd hop (hn2 f args)
  ·rename_i f args hop
   exact absurd hop (hn3 f args)
  ·rename_i k j f args hop
   exact absurd hop (hn4 k j f args)
  ·intro _
   split at h
   ·rename_i v H1 hav
    injection h with h
    injection h with h1 h2
    subst h1 h2
    simp only [hav]
    exact fun _=>hK
   ·cases h
def evalOps (cf:CallF) (cp:CallP) (d:Bool):List AIns→Tm→AHeap→Option (Tm×AHeap)
 | [],T,H=>some (T,H)
 | i::is,T,H=>match i.guard with
  | none=>match evalIns cf cp d i T H with
   | some (T',H')=>evalOps cf cp d is T' H'
   | none=>none
  | some (g,want)=>match T.get g with
   | .bool b=>if b=want then (match evalIns cf cp d i ((g,.bool want)::T) H with
     | some (T',H')=>evalOps cf cp d is T' H'
     | none=>none)
    else evalOps cf cp d is (put ((g,.bool (!want))::T) i.dst (.tuple [])) H
   | .tuple []=>evalOps cf cp d is (put T i.dst (.tuple [])) H
   | _=>none
theorem evalOps_sound {cf:CallF} {cp:CallP} (hf:CallOk P cf) (hp:PureOk P cp) {d:Bool}:∀ {is:List AIns} {K:Tm→AHeap→Prop} {T T':Tm} {H H':AHeap},evalOps cf cp d is T H=some (T',H')→K T' H'→runOps P d is K T H
 | [],K,T,T',H,H',h,hK=>by
  injection h with h
  injection h with h1 h2
  subst h1 h2
  exact hK
 | i::is,K,T,T',H,H',h,hK=>by
  simp only [evalOps] at h
  simp only [runOps]
  split at h
  ·rename_i hg
   simp only [hg]
   split at h
   ·rename_i T1 H1 h1
    exact evalIns_sound hf hp h1 (evalOps_sound hf hp h hK)
   ·cases h
  ·rename_i g want hg
   simp only [hg]
   split at h
   ·rename_i b hb
    simp only [hb]
    split at h
    ·rename_i hbw
     subst hbw
     split at h
     ·rename_i T1 H1 h1
      exact ⟨fun _=>evalIns_sound hf hp h1 (evalOps_sound hf hp h hK),fun hn=>absurd rfl hn⟩
     ·cases h
    ·rename_i hbw
     exact ⟨fun he=>absurd he hbw,fun _=>evalOps_sound hf hp h hK⟩
   ·rename_i hb
    simp only [hb]
    exact ⟨trivial,evalOps_sound hf hp h hK⟩
   ·cases h
def ddT:Tm→Tm
 | []=>[]
 | (k,v)::T=>(k,v)::(ddT T).filter fun p=>p.1 != k
theorem ddT_get:∀ {T:Tm},∀ p∈ddT T,T.get p.1=p.2
 | (k,v)::T,p,hp=>by
  simp only [ddT,List.mem_cons,List.mem_filter,bne_iff_ne,ne_eq] at hp
  simp only [Tm.get]
  rcases hp with rfl|⟨h1,h2⟩
  ·simp
  ·rw [if_neg (fun e=>h2 e.symm)]
   exact ddT_get p h1
abbrev Ev3:=Option (AEx×Tm×AHeap)
def loopE (f:Tm→AHeap→Ev3):Nat→Tm→AHeap→Ev3
 | 0,_,_=>none
 | n+1,T,H=>match f (ddT T) H with
  | some (.normal,T',H')=>loopE f n T' H'
  | r=>r
def evalCode (cf:CallF) (cp:CallP) (n:Nat):ACode→Tm→AHeap→Ev3
 | .skip,T,H=>some (.normal,T,H)
 | .mark,T,H=>some (.normal,T,H++[.dead 0,.dead 0])
 | .reg d ops,T,H=>match evalOps cf cp d ops T H with
  | some (T',H')=>some (.normal,T',H')
  | none=>none
 | .stuck,T,H=>none
 | .regD ops prs,T,H=>match evalOps cf cp true ops T H with
  | some (T',H')=>if prs.all (fun p=>indB p.1.op p.2.op (Opd.ev T')) then some (.normal,T',H') else none
  | none=>none
 | .seq a b,T,H=>match evalCode cf cp n a T H with
  | some (.normal,T',H')=>evalCode cf cp n b T' H'
  | r=>r
 | .cond c a b,T,H=>match c.ev T with
  | .bool true=>evalCode cf cp n a T H
  | .bool false=>evalCode cf cp n b T H
  | _=>none
 | .block id a,T,H=>match evalCode cf cp n a T H with
  | some (.exit id',T',H')=>if id'=id then some (.normal,T',H') else some (.exit id',T',H')
  | r=>r
 | .loop a,T,H=>loopE (evalCode cf cp n a) n T H
 | .exit id,T,H=>some (.exit id,T,H)
 | .ret,T,H=>some (.ret,T,H)
 | .range ..,T,H=>none
theorem loopE_sound {lo:Nat} {a:ACode} {f:Tm→AHeap→Ev3} (hb:∀ T H e T' H',f T H=some (e,T',H')→∀ K:AEx→Tm→AHeap→Prop,K e T' H'→run P lo a K T H) {K:AEx→Tm→AHeap→Prop} {n:Nat} {T T':Tm} {H H':AHeap} {e:AEx}
  (h:loopE f n T H=some (e,T',H')) (hK:K e T' H'):run P lo (.loop a) K T H:=by
 cases n with
 | zero=>cases h
 | succ n =>
  refine run_loop (fun m T H=>∃ e T' H',(match f T H with|some (.normal,T1,H1)=>loopE f m T1 H1|r=>r)=some (e,T',H')∧e≠.normal∧K e T' H') n (ddT T) H (Wk.sub ddT_get) ?_ ?_
  ·have hne:∀ (n:Nat) (T:Tm) (H:AHeap) (e:AEx) (T':Tm) (H':AHeap),loopE f n T H=some (e,T',H')→e≠.normal:=by
    intro n
    induction n with
    | zero=>intro T H e T' H' h;cases h
    | succ n ih =>
     intro T H e T' H' h
     simp only [loopE] at h
     split at h
     ·exact ih _ _ _ _ _ h
     ·rename_i hno
      intro he
      subst he
      exact hno _ _ h
   exact ⟨e,T',H',h,hne _ _ _ _ _ _ h,hK⟩
  ·rintro m T1 H1 ⟨e1,T2,H2,h1,h2,h3⟩
   split at h1
   ·rename_i T3 H3 hf
    refine hb _ _ _ _ _ hf _ ?_
    cases m with
    | zero=>cases h1
    | succ m=>exact ⟨m,ddT T3,H3,by omega,Wk.sub ddT_get,e1,T2,H2,h1,h2,h3⟩
   ·refine hb _ _ _ _ _ h1 _ ?_
    cases e1 with
    | normal=>exact absurd rfl h2
    | exit id=>exact h3
    | ret=>exact h3
theorem evalCode_sound {cf:CallF} {cp:CallP} (hf:CallOk P cf) (hp:PureOk P cp) {n lo:Nat}:∀ (c:ACode) (T:Tm) (H:AHeap) (e:AEx) (T':Tm) (H':AHeap),evalCode cf cp n c T H=some (e,T',H')→∀ K:AEx→Tm→AHeap→Prop,K e T' H'→run P lo c K T H
 | .skip,T,H,e,T',H',h,K,hK=>by
  simp only [evalCode,Option.some.injEq,Prod.mk.injEq] at h
  obtain ⟨rfl,rfl,rfl⟩:=h
  exact hK
 | .mark,T,H,e,T',H',h,K,hK=>by
  simp only [evalCode,Option.some.injEq,Prod.mk.injEq] at h
  obtain ⟨rfl,rfl,rfl⟩:=h
  exact ⟨T,H++[.dead 0,.dead 0],Wk.resv2,hK⟩
 | .reg d ops,T,H,e,T',H',h,K,hK=>by
  simp only [evalCode] at h
  split at h
  ·rename_i T1 H1 h1
   simp only [Option.some.injEq,Prod.mk.injEq] at h
   obtain ⟨rfl,rfl,rfl⟩:=h
   exact evalOps_sound hf hp h1 hK
  ·cases h
 | .stuck,T,H,e,T',H',h,K,hK=>by cases h
 | .regD ops prs,T,H,e,T',H',h,K,hK=>by
  simp only [evalCode] at h
  split at h
  ·rename_i T1 H1 h1
   split at h
   ·rename_i hall
    simp only [Option.some.injEq,Prod.mk.injEq] at h
    obtain ⟨rfl,rfl,rfl⟩:=h
    refine evalOps_sound hf hp h1 ⟨?_,hK⟩
    have:∀ prs:List (AIns×AIns),prs.all (fun p=>indB p.1.op p.2.op (Opd.ev T1))=true→disP prs T1:=by
     intro prs
     induction prs with
     | nil=>intro _;trivial
     | cons a l ih =>
      intro h
      simp only [List.all_cons,Bool.and_eq_true] at h
      exact ⟨h.1,ih h.2⟩
    exact this prs hall
   ·cases h
  ·cases h
 | .seq a b,T,H,e,T',H',h,K,hK=>by
  simp only [evalCode] at h
  rw [run_seq]
  split at h
  ·rename_i T1 H1 h1
   refine evalCode_sound hf hp a _ _ _ _ _ h1 _ ?_
   exact evalCode_sound hf hp b _ _ _ _ _ h K hK
  ·rename_i hno
   refine evalCode_sound hf hp a _ _ _ _ _ h _ ?_
   cases e with
   | normal=>exact absurd h (hno _ _)
   | exit id=>exact hK
   | ret=>exact hK
 | .cond c a b,T,H,e,T',H',h,K,hK=>by
  simp only [evalCode] at h
  simp only [run]
  split at h
  ·rename_i hc
   simp only [hc]
   exact ⟨fun _=>evalCode_sound hf hp a _ _ _ _ _ h K hK,fun hn=>by cases hn⟩
  ·rename_i hc
   simp only [hc]
   exact ⟨fun hn=>(by cases hn),fun _=>evalCode_sound hf hp b _ _ _ _ _ h K hK⟩
  ·cases h
 | .block id a,T,H,e,T',H',h,K,hK=>by
  simp only [evalCode] at h
  rw [run_block]
  split at h
  ·rename_i id' T1 H1 h1
   refine evalCode_sound hf hp a _ _ _ _ _ h1 _ ?_
   simp only [Kb_exit]
   split at h
   ·rename_i hid
    simp only [Option.some.injEq,Prod.mk.injEq] at h
    obtain ⟨rfl,rfl,rfl⟩:=h
    rw [if_pos hid]
    exact hK
   ·rename_i hid
    simp only [Option.some.injEq,Prod.mk.injEq] at h
    obtain ⟨rfl,rfl,rfl⟩:=h
    rw [if_neg hid]
    exact hK
  ·rename_i hno
   refine evalCode_sound hf hp a _ _ _ _ _ h _ ?_
   cases e with
   | normal=>exact hK
   | exit id'=>exact absurd h (hno _ _ _)
   | ret=>exact hK
 | .loop a,T,H,e,T',H',h,K,hK=>by
  simp only [evalCode] at h
  exact loopE_sound (fun T H e T' H' h K hK=>evalCode_sound hf hp a T H e T' H' h K hK) h hK
 | .exit id,T,H,e,T',H',h,K,hK=>by
  simp only [evalCode,Option.some.injEq,Prod.mk.injEq] at h
  obtain ⟨rfl,rfl,rfl⟩:=h
  exact hK
 | .range ..,T,H,e,T',H',h,K,hK=>by cases h
 | .ret,T,H,e,T',H',h,K,hK=>by
  simp only [evalCode,Option.some.injEq,Prod.mk.injEq] at h
  obtain ⟨rfl,rfl,rfl⟩:=h
  exact hK
def EnvOk (P:Program) (env:FuncId→Option AFn):Prop:=∀ f af,env f=some af→∃ fn an,P.funcs[f]?=some fn∧cFn P an fn=some af
def trunc (n:Nat) (r:AV) (H:AHeap):AV×AHeap:=if rlB n 40 r&&(H.take n).all (rlbB n) then (r,H.take n) else (r,H)
def pureOf (cf:CallF):CallP:=fun f as=>if as.all (rlB 0 40) then (match cf f as [] with
 | some (r,H)=>some (frz true H 40 r)
 | none=>none) else none
theorem PF_of_FT {f:FuncId} {args:List AV} {r:AV} (n:Nat) (ha:∀ a∈args,RL 0 a) (hex:RL 0 r) (h:FT P f args [] fun rv H'=>frz true H' n rv=r):PF P f args r:=by
 ·refine ⟨ha,hex,h.1,?_⟩
  intro X E w vals hr hA
  refine (h.2 X E w vals hr hA).mono ?_
  rintro e w' ⟨v,rv,E',H',rfl,hle,q1,q2,q3⟩
  have hE:E=[]:=List.length_eq_zero_iff.1 (by rw [hr.len];rfl)
  subst hE
  exact ⟨v,_,[],[],rfl,rfl,hle▸(q1.frz q2 true n),⟨rfl,fun i j ei ej B h=>by simp at h,fun i e B h=>by simp at h,fun i e b h=>by simp at h,q2.bound⟩,
   ⟨q3.os,q3.tape,q3.output,q3.size,q3.keep,fun B hB=>.inl hB,(fun i e h=>by simp at h),q3.draw⟩⟩
def callX (ps:FuncId→Bool) (cf:CallF):CallF:=fun f as H=>if ps f&&as.all (rlB 0 40) then (match pureOf cf f as with
 | some r=>some (r,H)
 | none=>none) else cf f as H
theorem pureOf_sound {cf:CallF} (hf:CallOk P cf):PureOk P (pureOf cf):=by
 intro f as r h
 unfold pureOf at h
 split at h
 ·rename_i hal
  split at h
  ·rename_i rv H1 h1
   injection h with h
   refine PF_of_FT 40 (fun a ha=>rlB_sound (List.all_eq_true.1 hal a ha)) (h▸RL_frz true H1 40 rv) ((hf _ _ _ _ _ h1).mono fun rv' H2 ⟨e1,e2⟩=>by subst e1 e2;exact h)
  ·cases h
 ·cases h
theorem callX_sound {ps:FuncId→Bool} {cf:CallF} (hf:CallOk P cf):CallOk P (callX ps cf):=by
 intro f as H r H' h
 unfold callX at h
 split at h
 ·split at h
  ·rename_i r' hr
   injection h with h
   injection h with h1 h2
   subst h1 h2
   exact (pureOf_sound hf f as r' hr).frame H
  ·cases h
 ·exact hf f as H r H' h
def evalFn (env:FuncId→Option AFn) (ps:FuncId→Bool) (n:Nat):Nat→CallF
 | 0,_,_,_=>none
 | k+1,f,as,H=>match env f with
  | none=>none
  | some af=>if as.length≤af.n then (match evalCode (callX ps (evalFn env ps n k)) (pureOf (evalFn env ps n k)) n af.code (argsT 0 as) H with
    | some (.exit _,_,_)=>none
    | some (_,T',H')=>match ares af.res T' H' with
     | some r=>some (trunc H.length r H')
     | none=>none
    | none=>none) else none
theorem evalFn_sound {env:FuncId→Option AFn} {ps:FuncId→Bool} (hm:P.follows .mixedOrders=true) (he:EnvOk P env) {n:Nat}:∀ k,CallOk P (evalFn env ps n k)
 | 0=>fun f as H r H' h=>by cases h
 | k+1=>fun f as H r H' h=>by
  have hf:=callX_sound (ps:=ps) (evalFn_sound hm he (n:=n) (ps:=ps) k)
  have hp:=pureOf_sound (evalFn_sound hm he (n:=n) (ps:=ps) k)
  simp only [evalFn] at h
  split at h
  ·cases h
  ·rename_i af haf
   obtain ⟨fn,an,hfn,hc⟩:=he f af haf
   split at h
   ·rename_i hlen
    have key:∀ (e:AEx) (T1:Tm) (H1:AHeap) (rv:AV),(e=.normal∨e=.ret)→evalCode (callX ps (evalFn env ps n k)) (pureOf (evalFn env ps n k)) n af.code (argsT 0 as) H=some (e,T1,H1)→ares af.res T1 H1=some rv→trunc H.length rv H1=(r,H')→FT P f as H fun rv h=>rv=r∧h=H':=by
     intro e T1 H1 rv hee hev har htr
     have hft:FT P f as H fun rv' h'=>rv'=rv∧h'=H1:=by
      refine FTk hm hfn hc hlen (evalCode_sound hf hp af.code _ _ _ _ _ hev _ ?_)
      refine ⟨hee,?_⟩
      rw [har]
      exact ⟨rfl,rfl⟩
     unfold trunc at htr
     split at htr
     ·rename_i hb
      simp only [Bool.and_eq_true] at hb
      injection htr with e1 e2
      subst e1 e2
      refine hft.take ?_
      rintro rv' h' ⟨rfl,rfl⟩
      exact ⟨rlB_sound hb.1,fun b hb'=>rlbB_sound (List.all_eq_true.1 hb.2 b hb'),rfl,rfl⟩
     ·injection htr with e1 e2
      subst e1 e2
      exact hft
    split at h
    ·cases h
    ·rename_i e T1 H1 hno hev
     split at h
     ·rename_i rv har
      injection h with h
      refine key e T1 H1 rv ?_ hev har h
      cases e with
      | normal=>exact .inl rfl
      | ret=>exact .inr rfl
      | exit id=>exact absurd rfl (hno id)
     ·cases h
    ·cases h
   ·cases h
theorem PF_eval {env:FuncId→Option AFn} (hm:P.follows .mixedOrders=true) (he:EnvOk P env) (ps:FuncId→Bool) (n k:Nat) {f:FuncId} {as:List AV} {r:AV} (ha:as.all (rlB 0 40)=true) (h:(match evalFn env ps n k f as [] with
 | some (r,H)=>some (frz true H 40 r)
 | none=>none)=some r):PF P f as r:=by
 split at h
 ·rename_i rv H1 h1
  injection h with h
  exact PF_of_FT 40 (fun a hx=>rlB_sound (List.all_eq_true.1 ha a hx)) (h▸RL_frz true H1 40 rv) ((evalFn_sound hm he k _ _ _ _ _ h1).mono fun rv' H2 ⟨e1,e2⟩=>by subst e1 e2;exact h)
 ·cases h
end Go.AM
namespace Go.AM
set_option linter.unusedVariables false
set_option linter.unusedSimpArgs false
variable {P:Program} {X:Nat→Prop} {E:Env} {w:World} {H:AHeap}
def PFE (P:Program) (f:FuncId) (args:List AV) (φ:AV→Prop):Prop :=
 (∀ a∈args,RL 0 a)∧(∀ r,φ r→RL 0 r)∧FT P f args [] fun rv _=>φ rv
theorem PFE.frame {f:FuncId} {args:List AV} {φ:AV→Prop} (h:PFE P f args φ) (H:AHeap):FT P f args H fun rv H'=>φ rv∧H'=H:=by
 obtain ⟨h1,h2,hc,h3⟩:=h
 refine ⟨hc,fun X E w vals hr ha=>?_⟩
 have hr0:HR (fun B=>X B∨Own E B) [] w []:=⟨rfl,fun i j ei ej B h=>by simp at h,fun i e B h=>by simp at h,fun i e b h=>by simp at h,fun B hB=>hB.elim (hr.bound B) hr.own_lt⟩
 refine (h3 _ [] w vals hr0 ⟨ha.1,fun j hj hj'=>(ha.2 j hj hj').frame (h1 _ (List.getElem_mem _))⟩).mono ?_
 rintro e w' ⟨v,rv,E',H',rfl,hφ,k1,k2,k3⟩
 have hev:Ev E w E w':=⟨k3.os,k3.tape,k3.output,k3.size,fun B hB _=>k3.keep B hB (fun ⟨e,he,_⟩=>by cases he),fun _ h=>.inl h,fun _ e h=>⟨e,h,Nat.le_refl _,fun _=>⟨rfl,rfl,rfl⟩⟩,k3.draw⟩
 exact ⟨v,rv,E,H,rfl,⟨hφ,rfl⟩,k1.unframe (h2 _ hφ),hr.mono hev (fun B hB=>k3.keep B (hr.own_lt hB) (fun ⟨e,he,_⟩=>by cases he)),hev⟩
theorem PFE.call {f:FuncId} {as bs:List AV} {φ:AV→Prop} {H:AHeap} {R:AV→AHeap→Prop} (h:PFE P f bs φ) (n:Nat) (hl:lePs (leP n) as bs) (hR:∀ r,φ r→R r H):FT P f as H R :=
 ((h.frame H).mono (fun rv H' ⟨h1,h2⟩=>by rw [h2];exact hR rv h1)).le n hl
theorem PF.toE {f:FuncId} {as:List AV} {r:AV} {φ:AV→Prop} (h:PF P f as r) (hφ:φ r):PFE P f as fun x=>φ x∧x=r :=
 ⟨h.1,fun _ hx=>hx.2▸h.2.1,h.2.2.mono fun rv H' e=>⟨e▸hφ,e⟩⟩
theorem PFE.mono {f:FuncId} {as:List AV} {φ ψ:AV→Prop} (h:PFE P f as φ) (hr:∀ r,ψ r→RL 0 r) (hφ:∀ r,φ r→ψ r):PFE P f as ψ:=⟨h.1,hr,h.2.2.mono fun rv H' e=>hφ _ e⟩
def RleE (n:Nat) (φ:AV→Prop) (rv:AV) (H:AHeap):Prop:=∃ r,φ r∧leP n (frz true H n rv) r
theorem leP_refl:∀ (n:Nat) (a:AV),leP n a a
 | 0,a=>rfl
 | n+1,a=>by
  have hl:∀ l:List AV,lePs (leP n) l l:=by
   intro l
   induction l with
   | nil=>trivial
   | cons x l ih=>exact ⟨leP_refl n x,ih⟩
  cases a<;>simp [leP]<;>exact hl _
theorem RleE.self {n:Nat} {φ:AV→Prop} {rv:AV} {H:AHeap} (h:φ (frz true H n rv)):RleE n φ rv H:=⟨_,h,leP_refl n _⟩
theorem RleE.of {n:Nat} {φ:AV→Prop} {rv:AV} {H:AHeap} (r:AV) (h:φ r) (hl:leP n (frz true H n rv) r):RleE n φ rv H:=⟨r,h,hl⟩
def scal:AV→Bool
 | .bool _|.int _ _|.str _|.nilFunc|.nilIface|.nilPtr|.nilMap|.nilS=>true
 | _=>false
def flatV:AV→Bool
 | .tuple l=>l.all scal
 | .agg l=>l.all scal
 | a=>scal a
theorem VR.scal {X':Nat→Prop} {E':Env} {w':World} {a:AV} {v:Value} (h:scal a=true) (hv:VR X E w a v):VR X' E' w' a v:=by
 cases hv with
 | bool b=>exact .bool b
 | int k n=>exact .int k n
 | str s hs=>exact .str s hs
 | nilFunc=>exact .nilFunc
 | nilIface=>exact .nilIface
 | nilPtr=>exact .nilPtr
 | nilMap=>exact .nilMap
 | nilS=>exact .nilS
 | _=>cases h
theorem VR.flatV {X':Nat→Prop} {E':Env} {w':World} {a:AV} {v:Value} (h:flatV a=true) (hv:VR X E w a v):VR X' E' w' a v:=by
 cases a with
 | tuple l =>
  cases hv with
  | tuple _ vs h1 h2=>exact .tuple _ vs h1 (fun j hj hj'=>(h2 j hj hj').scal (List.all_eq_true.1 h _ (List.getElem_mem _)))
 | agg l =>
  cases hv with
  | agg _ vs h1 h2=>exact .agg _ vs h1 (fun j hj hj'=>(h2 j hj hj').scal (List.all_eq_true.1 h _ (List.getElem_mem _)))
 | _=>exact hv.scal h
theorem FT.borrow {f:FuncId} {as bs:List AV} {φ:AV→Prop} (n m:Nat) (h:FT P f bs [] fun rv _=>φ rv) (hφ:∀ r,φ r→Go.AM.flatV r=true) (hl:lePs (leP m) (as.map (frz true H n)) bs):FT P f as H fun rv H'=>φ rv∧H'=H:=by
 obtain ⟨hc,h3⟩:=h
 obtain ⟨l1,l2⟩:=lePs_spec hl
 refine ⟨hc,fun X E w vals hr ha=>?_⟩
 have hr0:HR X [] w []:=⟨rfl,fun i j ei ej B h=>by simp at h,fun i e B h=>by simp at h,fun i e b h=>by simp at h,hr.bound⟩
 refine (h3 X [] w vals hr0 ⟨by rw [ha.1];simpa using l1,fun j hj hj'=>?_⟩).mono ?_
 ·have hj2:j<as.length:=by rw [ha.1] at hj';exact hj'
  have:=l2 j (by simpa using hj2) hj
  simp only [List.getElem_map] at this
  exact ((ha.2 j hj2 hj').frz hr true n).le m this
 rintro e w' ⟨v,rv,E',H',rfl,hv,k1,k2,k3⟩
 have hkeep:∀ B,B<w.heap.size→w'.heap[B]?=w.heap[B]?:=fun B hB=>k3.keep B hB (fun ⟨e,he,_⟩=>by cases he)
 have hev:Ev E w E w':=⟨k3.os,k3.tape,k3.output,k3.size,fun B hB _=>hkeep B hB,fun _ h=>.inl h,fun _ e h=>⟨e,h,Nat.le_refl _,fun _=>⟨rfl,rfl,rfl⟩⟩,k3.draw⟩
 exact ⟨v,rv,E,H,rfl,⟨hv,rfl⟩,k1.flatV (hφ _ hv),hr.mono hev (fun B hB=>hkeep B (hr.own_lt hB)),hev⟩
theorem PF.borrow {f:FuncId} {as bs:List AV} {r:AV} {R:AV→AHeap→Prop} (h:PF P f bs r) (n m:Nat) (hr:Go.AM.flatV r=true) (hl:lePs (leP m) (as.map (frz true H n)) bs) (hR:R r H):FT P f as H R :=
 (FT.borrow n m h.2.2 (fun _ e=>e▸hr) hl).mono fun rv H' ⟨h1,h2⟩=>by rw [h1,h2];exact hR
theorem PFE.borrow {f:FuncId} {as bs:List AV} {φ:AV→Prop} {R:AV→AHeap→Prop} (h:PFE P f bs φ) (n m:Nat) (hr:∀ r,φ r→Go.AM.flatV r=true) (hl:lePs (leP m) (as.map (frz true H n)) bs) (hR:∀ r,φ r→R r H):FT P f as H R :=
 (FT.borrow n m h.2.2 hr hl).mono fun rv H' ⟨h1,h2⟩=>by rw [h2];exact hR _ h1
theorem Wk.leH {lo:Nat} {T:Tm} {H:AHeap} (n i:Nat) {g:Nat} {cs cs':List AV} (hi:H[i]?=some (.cells g cs)) (hl:lePs (leP n) cs cs'):Wk lo T H T (H.set i (.cells g cs')):=by
 rintro X E0 w0 m a w hlo ⟨E,h1,h2,h3,h4⟩
 obtain ⟨l1,l2⟩:=lePs_spec hl
 refine ⟨E,h1,⟨by simp [h2.len],h2.inj,h2.own,fun j e b q1 q2=>?_,h2.bound⟩,h3,h4⟩
 by_cases hij:i=j
 ·subst hij
  rw [List.getElem?_set_self (lt_of_get hi)] at q2
  injection q2 with q2
  subst q2
  obtain ⟨b1,b2,b3,b4⟩:=h2.br i e _ q1 hi
  refine ⟨b1,b2,fun h=>List.eq_nil_of_length_eq_zero (by rw [←l1,b3 h];rfl),fun B hB=>?_⟩
  obtain ⟨arr,t,lo,hi',k1,k2,k3,k4,k5⟩:=b4 B hB
  refine ⟨arr,t,lo,hi',k1,k2,by omega,k4,fun j hj=>?_⟩
  obtain ⟨u,u1,u2⟩:=k5 j (by omega)
  exact ⟨u,u1,u2.le n (l2 j (by omega) hj)⟩
 ·rw [List.getElem?_set_ne hij] at q2
  exact h2.br j e b q1 q2
def fzB (i g:Nat) (cs:List AV) (n:Nat):ABlk→ABlk
 | .dead g'=>.dead g'
 | .cells g' cs'=>.cells g' (cs'.map (fz i g cs n))
 | .map g' es=>.map g' (es.map fun p=>(fz i g cs n p.1,fz i g cs n p.2))
def fzT (i g:Nat) (cs:List AV) (n:Nat) (T:Tm):Tm:=T.map fun p=>(p.1,fz i g cs n p.2)
theorem fzT_get {i g:Nat} {cs:List AV} {n k:Nat}:∀ {T:Tm},(∃ v,T.get k=v∧(fzT i g cs n T).get k=fz i g cs n v)∨(fzT i g cs n T).get k=.any
 | []=>.inr rfl
 | (d,v)::T=>by
  simp only [fzT,List.map_cons,Tm.get]
  split
  ·exact .inl ⟨v,rfl,rfl⟩
  ·exact fzT_get
theorem Wk.fz {lo:Nat} {T:Tm} {H:AHeap} (i n:Nat) {g:Nat} {cs:List AV} (hi:H[i]?=some (.cells g cs)):Wk lo T H (fzT i g cs n T) ((H.map (fzB i g cs n)).set i (.dead g)):=by
 rintro X E0 w0 m a w hlo ⟨E,h1,h2,h3,h4⟩
 obtain ⟨e,he,hb⟩:=h2.ent hi
 have hg:e.gen=g:=hb.1
 obtain ⟨hev,hr'⟩:=h2.kill he
 have hlen:i<H.length:=lt_of_get hi
 refine ⟨_,h1.trans hev,⟨by simp [h2.len],hr'.inj,hr'.own,fun j ej b q1 q2=>?_,hr'.bound⟩,⟨fun k=>?_⟩,h4.1,m.mono hev h4.2⟩
 ·by_cases hij:i=j
  ·subst hij
   rw [List.getElem?_set_self (by simpa using hlen)] at q2
   injection q2 with q2
   subst q2
   rw [List.getElem?_set_self (by rw [h2.len];exact hlen)] at q1
   injection q1 with q1
   subst q1
   exact ⟨hg,rfl⟩
  ·rw [List.getElem?_set_ne hij] at q1 q2
   rw [List.getElem?_map] at q2
   cases hHj:H[j]? with
   | none=>rw [hHj] at q2;cases q2
   | some b0 =>
    rw [hHj] at q2
    injection q2 with q2
    subst q2
    have hb0:=h2.br j ej b0 q1 hHj
    cases b0 with
    | dead g'=>exact hb0
    | cells g' cs' =>
     obtain ⟨b1,b2,b3,b4⟩:=hb0
     refine ⟨b1,b2,fun h=>by rw [b3 h];rfl,fun B hB=>?_⟩
     obtain ⟨arr,t,lo,hi',k1,k2,k3,k4,k5⟩:=b4 B hB
     refine ⟨arr,t,lo,hi',k1,k2,by simpa using k3,k4,fun j hj=>?_⟩
     obtain ⟨u,u1,u2⟩:=k5 j (by simpa using hj)
     refine ⟨u,u1,?_⟩
     simp only [List.getElem_map]
     exact u2.fz h2 he hi n
    | map g' es =>
     obtain ⟨b1,b2,B,ents,clock,k1,k2,k3,k4,k5⟩:=hb0
     refine ⟨b1,b2,B,ents,clock,k1,k2,by simpa using k3,fun j hj hj'=>?_,k5⟩
     have:=k4 j (by simpa using hj) hj'
     simp only [List.getElem_map]
     exact ⟨this.1.fz h2 he hi n,this.2.fz h2 he hi n⟩
 ·rcases fzT_get (i:=i) (g:=g) (cs:=cs) (n:=n) (k:=k) (T:=T) with ⟨v,hv,hf⟩|hf
  ·rw [hf]
   have:=h3.rel k
   rw [hv] at this
   exact this.fz h2 he hi n
  ·rw [hf]
   exact .any _
theorem Kl_sub {lo:Nat} {I:Nat→Tm→AHeap→Prop} {n:Nat} {K:AEx→Tm→AHeap→Prop} {T T':Tm} {H:AHeap} (m:Nat) (hi:I m T' H) (h1:al (fun p=>T.get p.1=p.2) T') (hm:m<n):Kl lo I n K .normal T H :=
 ⟨m,T',H,hm,Wk.sub (al_mem h1),hi⟩
theorem RLB_mono {n m:Nat} (hnm:n≤m) {b:ABlk} (h:RLB n b):RLB m b:=by
 cases b with
 | dead g=>trivial
 | cells g cs=>exact fun y hy=>(h y hy).mono hnm
 | map g es=>exact fun y hy=>⟨(h y hy).1.mono hnm,(h y hy).2.mono hnm⟩
theorem FT.wk {f:FuncId} {as:List AV} {H:AHeap} {R R':AV→AHeap→Prop} (h:FT P f as H R') (hR:∀ rv H',R' rv H'→∃ rv2 H2,Wk H.length [(0,rv)] H' [(0,rv2)] H2∧R rv2 H2):FT P f as H R:=by
 refine ⟨h.1,fun X E w vals hr ha=>(h.2 X E w vals hr ha).mono ?_⟩
 rintro e w' ⟨v,rv,E',H',k1,k2,k3,k4,k5⟩
 obtain ⟨rv2,H2,hw,h2⟩:=hR rv H' k2
 have ht:TR X E' w' [(0,rv)] #[v]:=by
  refine ⟨fun k=>?_⟩
  simp only [Tm.get]
  split
  ·rename_i hk
   subst hk
   exact k3
  ·exact .any _
 obtain ⟨E2,q1,q2,q3,_,_⟩:=hw X E w ⟨1,fun _ _ ds=>ds=[],fun _ h=>h,0,fun _ _ h=>h⟩ ⟨#[v],[]⟩ w' ⟨by rw [hr.len];exact Nat.le_refl _,Nat.zero_le _⟩ ⟨E',k5,k4,ht,rfl,rfl⟩
 exact ⟨v,rv2,E2,H2,k1,h2,q3.rel 0,q2,q1⟩
theorem by_run (P:Program) (lo:Nat) {B:Prop} (c:ACode) (K:AEx→Tm→AHeap→Prop) (φ:Tm→AHeap→Prop)
  (h:(∀ T H,φ T H→run P lo c K T H)→B) (ha:∀ T H,φ T H→run P lo c K T H):B:=h ha
theorem app_one {α:Type} {sz:Nat} {f:α→List AV} {l:List α} (h:∀ x,(f x).length=sz) (x:α) {y:List AV} (hy:y=f x):(l.map f).flatten.take (l.length*sz)++y=((l++[x]).map f).flatten:=by
 subst hy
 have:=app_flat (l:=l) (l':=[x]) h
 simpa using this
end Go.AM
namespace Go.AM
set_option linter.unusedVariables false
set_option linter.unusedSimpArgs false
variable {P:Program} {X:Nat→Prop} {E:Env} {w:World} {H:AHeap}
theorem VR.reI {X X':Nat→Prop} {E E':Env} (n:Nat) (hX:∀ B,Lone X E B→Lone X' E' B) (hE:∀ i e,i<n→E[i]?=some e→E'[i]?=some e) {av:AV} {v:Value} (hv:VR X E w av v) (hn:RL n av):VR X' E' w av v:=by
 induction hv with
 | any v=>exact .any v
 | bool b=>exact .bool b
 | int k n=>exact .int k n
 | str s hs=>exact .str s hs
 | nilFunc=>exact .nilFunc
 | nilIface=>exact .nilIface
 | nilPtr=>exact .nilPtr
 | nilMap=>exact .nilMap
 | nilS=>exact .nilS
 | rows clip sz es a c ad f hn' hc hclip hsz ha hL hcell _ ih =>
  simp at hn
  exact .rows clip sz es a c ad f hn' hc hclip hsz ha (fun h0 hz=>hX _ (hL h0 hz)) hcell
   (fun i hi j hj=>ih i hi j hj (hn _ (List.getElem_mem _) _ (List.getElem_mem _)))
 | loc i g off len sz clip e v he ho hg hl =>
  simp at hn
  exact .loc i g off len sz clip e v (hE i e hn he) ho hg hl
 | ptr i g off e v he ho hg hl =>
  simp at hn
  exact .ptr i g off e v (hE i e hn he) ho hg hl
 | rptr cs ad f hL hcell _ ih =>
  simp at hn
  exact .rptr cs ad f (fun h0=>hX _ (hL h0)) hcell (fun j hj=>ih j hj (hn _ (List.getElem_mem _)))
 | mapr i g e v he ho hg hl =>
  simp at hn
  exact .mapr i g e v (hE i e hn he) ho hg hl
 | fn f fs cs fs' cs' h1 h2 _ _ ih1 ih2 =>
  simp at hn
  exact .fn f fs cs fs' cs' h1 h2 (fun j hj hj'=>ih1 j hj hj' (hn.1 _ (List.getElem_mem _))) (fun j hj hj'=>ih2 j hj hj' (hn.2 _ (List.getElem_mem _)))
 | iface t v u _ ih=>simp at hn;exact .iface t v u (ih hn)
 | agg cs vs h1 _ ih=>simp at hn;exact .agg cs vs h1 (fun j hj hj'=>ih j hj hj' (hn _ (List.getElem_mem _)))
 | tuple cs vs h1 _ ih=>simp at hn;exact .tuple cs vs h1 (fun j hj hj'=>ih j hj hj' (hn _ (List.getElem_mem _)))
theorem VR.RL {av:AV} {v:Value} (hv:VR X E w av v):RL E.length av:=by
 induction hv with
 | any v=>exact .any
 | bool b=>exact .bool b
 | int k n=>exact .int k n
 | str s hs=>exact .str s
 | nilFunc=>exact .nilFunc
 | nilIface=>exact .nilIface
 | nilPtr=>exact .nilPtr
 | nilMap=>exact .nilMap
 | nilS=>exact .nilS
 | rows clip sz es a c ad f hn' hc hclip hsz ha hL hcell _ ih =>
  refine .rows _ _ _ fun x hx y hy=>?_
  obtain ⟨i,hi,rfl⟩:=List.getElem_of_mem hx
  obtain ⟨j,hj,rfl⟩:=List.getElem_of_mem hy
  exact ih i hi j hj
 | loc i g off len sz clip e v he ho hg hl=>exact .loc _ _ _ _ _ _ (lt_of_get he)
 | ptr i g off e v he ho hg hl=>exact .ptr _ _ _ (lt_of_get he)
 | rptr cs ad f hL hcell _ ih =>
  refine .rptr _ fun x hx=>?_
  obtain ⟨i,hi,rfl⟩:=List.getElem_of_mem hx
  exact ih i hi
 | mapr i g e v he ho hg hl=>exact .mapr _ _ (lt_of_get he)
 | fn f fs cs fs' cs' h1 h2 _ _ ih1 ih2 =>
  refine .fn _ _ _ (fun x hx=>?_) (fun x hx=>?_)
  ·obtain ⟨i,hi,rfl⟩:=List.getElem_of_mem hx
   exact ih1 i hi (by omega)
  ·obtain ⟨i,hi,rfl⟩:=List.getElem_of_mem hx
   exact ih2 i hi (by omega)
 | iface t v u _ ih=>exact .iface _ _ ih
 | agg cs vs h1 _ ih =>
  refine .agg _ fun x hx=>?_
  obtain ⟨i,hi,rfl⟩:=List.getElem_of_mem hx
  exact ih i hi (by omega)
 | tuple cs vs h1 _ ih =>
  refine .tuple _ fun x hx=>?_
  obtain ⟨i,hi,rfl⟩:=List.getElem_of_mem hx
  exact ih i hi (by omega)
theorem BR.reI {X X':Nat→Prop} {E E':Env} (n:Nat) (hX:∀ B,Lone X E B→Lone X' E' B) (hE:∀ i e,i<n→E[i]?=some e→E'[i]?=some e) {e:Ent} {b:ABlk} (hb:BR X E w e b) (hn:RLB n b):BR X' E' w e b:=by
 cases b with
 | dead g=>exact hb
 | cells g cs =>
  obtain ⟨h1,h2,h3,h4⟩:=hb
  refine ⟨h1,h2,h3,fun B hBe=>?_⟩
  obtain ⟨arr,t,lo,hi,k1,k2,k3,k4,k5⟩:=h4 B hBe
  refine ⟨arr,t,lo,hi,k1,k2,k3,k4,fun j hj=>?_⟩
  obtain ⟨u,u1,u2⟩:=k5 j hj
  exact ⟨u,u1,u2.reI n hX hE (hn _ (List.getElem_mem _))⟩
 | map g es =>
  obtain ⟨h1,h2,B,ents,clock,k1,k2,k3,k4,k5⟩:=hb
  exact ⟨h1,h2,B,ents,clock,k1,k2,k3,fun j hj hj'=>⟨(k4 j hj hj').1.reI n hX hE (hn _ (List.getElem_mem _)).1,(k4 j hj hj').2.reI n hX hE (hn _ (List.getElem_mem _)).2⟩,k5⟩
theorem BR.RLB {e:Ent} {b:ABlk} (hb:BR X E w e b):RLB E.length b:=by
 cases b with
 | dead g=>trivial
 | cells g cs =>
  obtain ⟨h1,h2,h3,h4⟩:=hb
  intro y hy
  cases hB:e.blk with
  | none=>rw [h3 hB] at hy;cases hy
  | some B =>
   obtain ⟨arr,t,lo,hi,k1,k2,k3,k4,k5⟩:=h4 B hB
   obtain ⟨j,hj,rfl⟩:=List.getElem_of_mem hy
   obtain ⟨u,u1,u2⟩:=k5 j hj
   exact u2.RL
 | map g es =>
  obtain ⟨h1,h2,B,ents,clock,k1,k2,k3,k4,k5⟩:=hb
  intro y hy
  obtain ⟨j,hj,rfl⟩:=List.getElem_of_mem hy
  exact ⟨(k4 j hj (by omega)).1.RL,(k4 j hj (by omega)).2.RL⟩
theorem FT.tail {f:FuncId} {as:List AV} {H H2:AHeap} {R:AV→AHeap→Prop} (h:FT P f as H R) (hR:∀ rv H',R rv H'→H'.length=H.length) (has:∀ a∈as,Go.AM.RL H.length a) (hH:∀ b∈H,Go.AM.RLB H.length b) :
  FT P f as (H++H2) fun rv H'=>∃ H1,R rv H1∧H'=H1++H2:=by
 refine ⟨h.1,fun X E w vals hr ha=>?_⟩
 have hlen:E.length=H.length+H2.length:=by rw [hr.len];simp
 obtain ⟨E1,E2,rfl,hE1⟩:∃ E1 E2,E=E1++E2∧E1.length=H.length:=⟨E.take H.length,E.drop H.length,(List.take_append_drop _ _).symm,by simp;omega⟩
 have hE2:E2.length=H2.length:=by simp at hlen;omega
 have left:∀ (i:Nat) (e:Ent),i<H.length→(E1++E2)[i]?=some e→E1[i]?=some e:=fun i e hi he=>by rwa [List.getElem?_append_left (by omega)] at he
 have toE:∀ (i:Nat) (e:Ent),E1[i]?=some e→(E1++E2)[i]?=some e:=fun i e he=>by rw [List.getElem?_append_left (lt_of_get he)];exact he
 have right:∀ (j:Nat) (e:Ent),E2[j]?=some e→(E1++E2)[H.length+j]?=some e:=fun j e he=>by
  rw [List.getElem?_append_right (by omega),←hE1,Nat.add_sub_cancel_left];exact he
 have ownR:∀ B,Own E2 B→∃ (j:Nat) (e:Ent),E2[j]?=some e∧e.live=true∧e.blk=some B:=by
  rintro B ⟨e,he,h1,h2⟩
  obtain ⟨j,hj,rfl⟩:=List.getElem_of_mem he
  exact ⟨j,_,List.getElem?_eq_getElem hj,h1,h2⟩
 have cross:∀ (i:Nat) (e:Ent) (B:Nat),E1[i]?=some e→e.live=true→e.blk=some B→¬ Own E2 B:=by
  intro i e B he hl hb ho
  obtain ⟨j,e',he',hl',hb'⟩:=ownR B ho
  have:=hr.inj i (H.length+j) e e' B (toE i e he) (right j e' he') hl hl' hb hb'
  have:=lt_of_get he
  omega
 have hX:∀ B,Lone X (E1++E2) B→Lone (fun B=>X B∨Own E2 B) E1 B:=fun B ⟨a,b⟩=>⟨fun h=>h.elim a (fun h=>b (Own.app.2 (.inr h))),fun h=>b (Own.app.2 (.inl h))⟩
 have hb2:∀ B,Own E2 B→B<w.heap.size:=fun B ho=>by
  obtain ⟨j,e',he',hl',hb'⟩:=ownR B ho
  exact (hr.own _ _ _ (right j e' he') hl' hb').2
 have hr1:HR (fun B=>X B∨Own E2 B) E1 w H:=by
  refine ⟨hE1,fun i j ei ej B q1 q2=>hr.inj i j ei ej B (toE i ei q1) (toE j ej q2),fun i e B q1 q2 q3=>?_,fun i e b q1 q2=>?_,fun B hB=>hB.elim (hr.bound B) (hb2 B)⟩
  ·have:=hr.own i e B (toE i e q1) q2 q3
   exact ⟨fun h=>h.elim this.1 (cross i e B q1 q2 q3),this.2⟩
  ·exact (hr.br i e b (toE i e q1) (by rw [List.getElem?_append_left (lt_of_get q2)];exact q2)).reI H.length hX left (hH b (List.mem_of_getElem? q2))
 refine (h.2 _ E1 w vals hr1 ⟨ha.1,fun j hj hj'=>(ha.2 j hj hj').reI H.length hX left (has _ (List.getElem_mem _))⟩).mono ?_
 rintro e w' ⟨v,rv,E1',H1',rfl,hRv,k1,k2,k3⟩
 have hl':E1'.length=H.length:=by rw [k2.len,hR rv H1' hRv]
 have toE':∀ (i:Nat) (e:Ent),E1'[i]?=some e→(E1'++E2)[i]?=some e:=fun i e he=>by rw [List.getElem?_append_left (lt_of_get he)];exact he
 have split:∀ (i:Nat) (e:Ent),(E1'++E2)[i]?=some e→E1'[i]?=some e∨∃ j:Nat,i=H.length+j∧E2[j]?=some e:=fun i e he=>by
  rcases Nat.lt_or_ge i E1'.length with hi|hi
  ·rw [List.getElem?_append_left hi] at he;exact .inl he
  ·rw [List.getElem?_append_right hi] at he;exact .inr ⟨i - E1'.length,by omega,he⟩
 have hX':∀ B,Lone (fun B=>X B∨Own E2 B) E1' B→Lone X (E1'++E2) B:=fun B ⟨a,b⟩=>⟨fun h=>a (.inl h),fun h=>(Own.app.1 h).elim b (fun h=>a (.inr h))⟩
 have hkeep:∀ B,Own E2 B→w'.heap[B]?=w.heap[B]?:=fun B ho=>k3.keep B (hb2 B ho) (fun ho1=>by
  obtain ⟨e,he,h1,h2⟩:=ho1
  obtain ⟨i,hi,rfl⟩:=List.getElem_of_mem he
  exact cross i _ B (List.getElem?_eq_getElem hi) h1 h2 ho)
 have hev:Ev (E1++E2) w (E1'++E2) w':=by
  refine ⟨k3.os,k3.tape,k3.output,k3.size,fun B hB ho=>k3.keep B hB (fun h=>ho (Own.app.2 (.inl h))),fun B hB=>?_,fun i e he=>?_,k3.draw⟩
  ·rcases Own.app.1 hB with h|h
   ·exact (k3.own B h).imp (fun h=>Own.app.2 (.inl h)) id
   ·exact .inl (Own.app.2 (.inr h))
  ·rcases Nat.lt_or_ge i E1.length with hi|hi
   ·rw [List.getElem?_append_left hi] at he
    obtain ⟨e',q1,q2,q3⟩:=k3.ext i e he
    exact ⟨e',toE' i e' q1,q2,q3⟩
   ·rw [List.getElem?_append_right hi] at he
    exact ⟨e,by rw [List.getElem?_append_right (by omega),hl',←hE1];exact he,Nat.le_refl _,fun _=>⟨rfl,rfl,rfl⟩⟩
 refine ⟨v,rv,E1'++E2,H1'++H2,rfl,⟨H1',hRv,rfl⟩,k1.reI E1'.length hX' (fun i e _ he=>toE' i e he) k1.RL,?_,hev⟩
 refine ⟨by simp [k2.len,hE2],fun i j ei ej B q1 q2 q3 q4 q5 q6=>?_,fun i e B q1 q2 q3=>?_,fun i e b q1 q2=>?_,fun B hB=>Nat.lt_of_lt_of_le (hr.bound B hB) k3.size⟩
 ·have sep:∀ (i:Nat) (ei ej:Ent) (j:Nat),E1'[i]?=some ei→E2[j]?=some ej→ei.live=true→ej.live=true→ei.blk=some B→ej.blk=some B→False:=fun i ei ej j a b c d e f =>
   (k2.own i ei B a c e).1 (.inr ⟨ej,List.mem_of_getElem? b,d,f⟩)
  rcases split i ei q1 with a|⟨i',rfl,a⟩<;>rcases split j ej q2 with b|⟨j',rfl,b⟩
  ·exact k2.inj i j ei ej B a b q3 q4 q5 q6
  ·exact (sep i ei ej j' a b q3 q4 q5 q6).elim
  ·exact (sep j ej ei i' b a q4 q3 q6 q5).elim
  ·exact hr.inj _ _ ei ej B (right i' ei a) (right j' ej b) q3 q4 q5 q6
 ·rcases split i e q1 with a|⟨i',rfl,a⟩
  ·have:=k2.own i e B a q2 q3
   exact ⟨fun h=>this.1 (.inl h),this.2⟩
  ·have:=hr.own _ e B (right i' e a) q2 q3
   exact ⟨this.1,Nat.lt_of_lt_of_le this.2 k3.size⟩
 ·rcases split i e q1 with a|⟨i',rfl,a⟩
  ·have hi:=lt_of_get a
   rw [List.getElem?_append_left (by rw [←k2.len];exact hi)] at q2
   have hbr:=k2.br i e b a q2
   exact hbr.reI E1'.length hX' (fun i e _ he=>toE' i e he) hbr.RLB
  ·rw [List.getElem?_append_right (by rw [←k2.len];omega),←k2.len,hl',Nat.add_sub_cancel_left] at q2
   have hbr:=hr.br _ e b (right i' e a) (by rw [List.getElem?_append_right (by omega),Nat.add_sub_cancel_left];exact q2)
   exact hbr.mono hev (fun B hl hb=>hkeep B ⟨e,List.mem_of_getElem? a,hl,hb⟩)
theorem Wk.own {lo:Nat} {T:Tm} {H:AHeap}:Wk lo T H T (H++[.cells 0 []]):=by
 rintro X E0 w0 n a w hlo ⟨E,h1,h2,h3,h4⟩
 have hev:Ev E w (E++[⟨0,none,0,0,true⟩]) w:=by
  refine ⟨rfl,rfl,rfl,Nat.le_refl _,fun _ _ _=>rfl,fun B hB=>?_,fun i e he=>⟨e,?_,Nat.le_refl _,fun _=>⟨rfl,rfl,rfl⟩⟩,Nat.le_refl _⟩
  ·rcases Own.app.1 hB with h|⟨e,he,_,hb⟩
   ·exact .inl h
   ·simp at he;subst he;cases hb
  ·rw [List.getElem?_append_left (lt_of_get he)];exact he
 have hr:HR X (E++[⟨0,none,0,0,true⟩]) w (H++[.cells 0 []]):=by
  have last:∀ (i:Nat) (e:Ent),(E++[⟨0,none,0,0,true⟩])[i]?=some e→E[i]?=some e∨(i=E.length∧e=⟨0,none,0,0,true⟩):=by
   intro i e he
   rcases Nat.lt_or_ge i E.length with h'|h'
   ·rw [List.getElem?_append_left h'] at he;exact .inl he
   ·rw [List.getElem?_append_right h'] at he
    rcases Nat.eq_zero_or_pos (i - E.length) with h0|h0
    ·rw [h0] at he;simp at he;exact .inr ⟨by omega,he.symm⟩
    ·rw [List.getElem?_eq_none (by simp;omega)] at he;cases he
  refine ⟨by simp [h2.len],fun i j ei ej B q1 q2 q3 q4 q5 q6=>?_,fun i e B q1 q2 q3=>?_,fun i e b q1 q2=>?_,h2.bound⟩
  ·rcases last i ei q1 with q1|⟨_,rfl⟩
   ·rcases last j ej q2 with q2|⟨_,rfl⟩
    ·exact h2.inj i j ei ej B q1 q2 q3 q4 q5 q6
    ·cases q6
   ·cases q5
  ·rcases last i e q1 with q1|⟨_,rfl⟩
   ·exact h2.own i e B q1 q2 q3
   ·cases q3
  ·rcases last i e q1 with q1|⟨hi,rfl⟩
   ·rw [List.getElem?_append_left (by rw [←h2.len];exact lt_of_get q1)] at q2
    exact (h2.br i e b q1 q2).mono hev (fun _ _ _=>rfl)
   ·subst hi
    rw [h2.len,List.getElem?_append_right (Nat.le_refl _)] at q2
    simp at q2
    subst q2
    exact ⟨rfl,rfl,fun _=>rfl,fun B hB=>by cases hB⟩
 exact ⟨_,h1.trans hev,hr,h3.mono hev,h4.1,n.mono hev h4.2⟩
theorem Wk.nilAt {lo:Nat} {T:Tm} {H:AHeap} (i c k sz:Nat) {g:Nat} {cs:List AV} (hi:H[i]?=some (.cells g cs)) (hc:cs[c]?=some .nilS) (hk:H[k]?=some (.cells 0 [])):Wk lo T H T (H.set i (.cells g (cs.set c (.loc k 0 0 0 sz false)))):=by
 rintro X E0 w0 m a w hlo ⟨E,h1,h2,h3,h4⟩
 obtain ⟨ek,hek,hbk⟩:=h2.ent hk
 refine ⟨E,h1,⟨by simp [h2.len],h2.inj,h2.own,fun j e b q1 q2=>?_,h2.bound⟩,h3,h4⟩
 by_cases hij:i=j
 ·subst hij
  rw [List.getElem?_set_self (lt_of_get hi)] at q2
  injection q2 with q2
  subst q2
  obtain ⟨b1,b2,b3,b4⟩:=h2.br i e _ q1 hi
  refine ⟨b1,b2,fun h=>by rw [b3 h];rfl,fun B hB=>?_⟩
  obtain ⟨arr,t,lo,hi',k1,k2,k3,k4,k5⟩:=b4 B hB
  refine ⟨arr,t,lo,hi',k1,k2,by simpa using k3,k4,fun j hj=>?_⟩
  obtain ⟨u,u1,u2⟩:=k5 j (by simpa using hj)
  refine ⟨u,u1,?_⟩
  rw [List.getElem_set]
  split
  ·rename_i hcj
   subst hcj
   have hjc:c<cs.length:=by simpa using hj
   have hg':cs[c]'hjc=.nilS:=by
    have:=List.getElem?_eq_getElem (l:=cs) (i:=c) hjc
    rw [hc] at this
    injection this with this
    exact this.symm
   have hv:u=.slice none 0 0:=by
    rw [hg'] at u2
    cases u2
    rfl
   rw [hv]
   have hg:ek.gen=0:=hbk.1
   exact .loc _ _ _ _ _ _ ek _ hek rfl (by omega) (fun _=>⟨none,0,rfl,by simp,Nat.le_refl _,fun _=>rfl,fun h=>absurd rfl h⟩)
  ·exact u2
 ·rw [List.getElem?_set_ne hij] at q2
  exact h2.br j e b q1 q2
end Go.AM
namespace Go.AM
open Go.Sort
set_option linter.unusedVariables false
set_option linter.unusedSimpArgs false
variable {P:Program} {X:Nat→Prop} {E:Env} {w:World} {H:AHeap}
abbrev i64s (l:List Int):List AV:=l.map fun n=>AV.int .i64 n
abbrev rowW (w:World) (B o:Nat) (l:List Int) (n:Nat) (os:Array Obj):World:=grow (putRow (Value.int .i64) (Sort.ahead w n) B o l.toArray) os
theorem rowW_get {B o n:Nat} {l:List Int} {os:Array Obj} {B':Nat} (h:B'<w.heap.size) (hne:B'≠B):(rowW w B o l n os).heap[B']?=w.heap[B']?:=by
 simp only [rowW,grow,putRow,mapBlock,Sort.ahead]
 rw [Array.getElem?_append_left (by simpa using h),Array.getElem?_modify,if_neg (by omega)]
theorem rowW_self {B o n:Nat} {l:List Int} {os:Array Obj} {arr:Array Value} {t:TypeId} {fr:Nat×Nat} (h:w.heap[B]?=some (.cells arr t fr)) :
  (rowW w B o l n os).heap[B]?=some (.cells (putCells (Value.int .i64) o l.toArray arr) t fr):=by
 have hB:B<w.heap.size:=by
  rcases Nat.lt_or_ge B w.heap.size with h'|h'
  ·exact h'
  ·rw [Array.getElem?_eq_none h'] at h;cases h
 simp only [rowW,grow,putRow,mapBlock,Sort.ahead]
 rw [Array.getElem?_append_left (by simpa using hB),Array.getElem?_modify,if_pos rfl,h]
 rfl
theorem HR.row' (hr:HR X E w H) {k g:Nat} {l ys:List Int} (h:H[k]?=some (.cells g (i64s l))) {e:Ent} (he:E[k]?=some e) {B:Nat} (hB:e.blk=some B) (hl:ys.length=l.length) (n:Nat) (os:Array Obj) :
  Ev E w E (rowW w B e.base ys n os)∧HR X E (rowW w B e.base ys n os) (H.set k (.cells g (i64s ys))):=by
 obtain ⟨h1,h2,h3,h4⟩:=hr.br k e _ he h
 have hown:Own E B:=⟨e,List.mem_of_getElem? he,h2,hB⟩
 have hev:Ev E w E (rowW w B e.base ys n os):=by
  refine ⟨rfl,rfl,rfl,?_,fun B' hB' hO=>rowW_get hB' (fun hh=>hO (hh▸hown)),fun _ h=>.inl h,fun _ e h=>⟨e,h,Nat.le_refl _,fun _=>⟨rfl,rfl,rfl⟩⟩,nd_le (Nat.le_add_right _ _)⟩
  simp [rowW,grow,putRow,mapBlock,Sort.ahead]
 refine ⟨hev,?_⟩
 have hE:E.set k e=E:=by
  have hk:=lt_of_get he
  rw [List.getElem?_eq_getElem hk] at he
  injection he with he
  rw [←he]
  exact List.set_getElem_self hk
 have:=hr.turn (i:=k) (e:=e) (e':=e) (b':=.cells g (i64s ys)) (w':=rowW w B e.base ys n os) he (by rw [hE];exact hev)
  (fun B' hO hne=>rowW_get (hr.own_lt hO) (fun hh=>hne h2 (hh▸hB)))
  (fun B' hl' hb=>⟨⟨(hr.own k e B' he hl' hb).1,Nat.lt_of_lt_of_le (hr.own k e B' he hl' hb).2 hev.size⟩,.inl ⟨hl',hb⟩⟩) (by
   refine ⟨h1,h2,(fun hn=>by rw [hn] at hB;cases hB),fun B' hB'=>?_⟩
   rw [hB] at hB'
   injection hB' with hB'
   subst hB'
   obtain ⟨arr,t,lo,hi,k1,k2,k3,k4,k5⟩:=h4 B hB
   refine ⟨_,t,lo,hi,rowW_self k1,by simpa [putCells] using k2,by simpa [hl] using k3,k4,fun j hj=>?_⟩
   have hj':j<ys.length:=by simpa using hj
   have hr':e.base+j<arr.size:=by
    have:(i64s l).length=l.length:=by simp
    omega
   refine ⟨.int .i64 ys[j],?_,by simpa using VR.int .i64 ys[j]⟩
   simp [putCells,Array.getElem?_mapIdx,hr',hj'])
 rwa [hE] at this
theorem HR.holds (hr:HR X E w H) {k g:Nat} {l:List Int} (h:H[k]?=some (.cells g (i64s l))) {e:Ent} (he:E[k]?=some e) {B:Nat} (hB:e.blk=some B):Holds (Value.int .i64) w B e.base l.toArray:=by
 intro j hj
 have hj':j<l.length:=by simpa using hj
 obtain ⟨u,u1,u2,u3⟩:=hr.cell h he hB j (by simpa using hj')
 have:(i64s l)[j]'(by simpa using hj')=.int .i64 l[j]:=by simp
 rw [this] at u2
 cases u2
 refine ⟨?_,u3⟩
 rw [u1]
 simp [hj']
theorem loc_inv {k g off len sz:Nat} {c:Bool} {v:Value} (h:VR X E w (.loc k g off len sz c) v):∃ e,E[k]?=some e∧(g=e.gen→LocR e off len sz c v):=by
 cases h with
 | loc _ _ _ _ _ _ e _ he h1 hg hh=>exact ⟨e,he,hh⟩
theorem sort_FT {f:FuncId} {S:List Int→List Int} (hS:∀ l,(S l).length=l.length) (hcl:Callable P f)
  (hC:∀ (blk off cap:Nat) (zs:List Int) (w:World),Holds (Value.int .i64) w blk off zs.toArray→blk<w.heap.size→zs.length<4611686018427387904 →
   Calls P f #[.slice (some ⟨blk,off,none⟩) zs.length cap] w fun e w'=>e=.returned (.tuple #[])∧∃ n os,w'=rowW w blk off (S zs) n os)
  {k g:Nat} {c:Bool} {l:List Int} (h0:0<l.length) (h:H[k]?=some (.cells g (i64s l))) :
  FT P f [.loc k g 0 l.length 1 c] H fun rv H'=>rv=.tuple []∧H'=H.set k (.cells g (i64s (S l))):=by
 refine ⟨hcl,fun X E w vals hr ha=>?_⟩
 have hv:=ha.2 0 (by simp) (by rw [ha.1];simp)
 simp only [List.getElem_cons_zero] at hv
 obtain ⟨e,he,hloc⟩:=loc_inv hv
 have hb:=hr.br k e _ he h
 obtain ⟨a,cap,hve,m1,m2,m3,m4⟩:=hloc hb.1.symm
 obtain ⟨B,hB,rfl,hroom⟩:=m4 (by omega)
 have hvals:vals=#[.slice (some ⟨B,e.base+0,none⟩) l.length cap]:=by
  have hs:=ha.1
  simp at hs
  apply Array.ext
  ·simpa using hs
  ·intro i h1 h2
   have:i=0:=by simp at h2;omega
   subst this
   simpa using hve
 rw [hvals]
 refine (hC B (e.base+0) cap l w (by simpa using hr.holds h he hB) (hr.own k e B he hb.2.1 hB).2 (by unfold maxA at m1;omega)).mono ?_
 rintro e' w' ⟨rfl,n,os,rfl⟩
 obtain ⟨k1,k2⟩:=hr.row' h he hB (hS l) n os
 exact ⟨_,.tuple [],E,_,rfl,⟨rfl,rfl⟩,undefR,k2,k1⟩
theorem cut_FT {f:FuncId} {S C:List Int→List Int} (hS:∀ l,(S l).length=l.length) (hCl:∀ l,(C l).length≤l.length) (hcl:Callable P f)
  (hC:∀ (blk off cap:Nat) (zs:List Int) (w:World),Holds (Value.int .i64) w blk off zs.toArray→zs.length≤9223372036854775807→zs.length≤cap →
   Calls P f #[.slice (some ⟨blk,off,none⟩) zs.length cap] w fun e w'=>e=.returned (.slice (some ⟨blk,off,none⟩) (C zs).length cap)∧∃ n os,w'=rowW w blk off (S zs) n os)
  {k g:Nat} {c:Bool} {l:List Int} (h0:0<l.length) (h:H[k]?=some (.cells g (i64s l))) :
  FT P f [.loc k g 0 l.length 1 c] H fun rv H'=>rv=.loc k g 0 (C l).length 1 false∧H'=H.set k (.cells g (i64s (S l))):=by
 refine ⟨hcl,fun X E w vals hr ha=>?_⟩
 have hv:=ha.2 0 (by simp) (by rw [ha.1];simp)
 simp only [List.getElem_cons_zero] at hv
 obtain ⟨e,he,hloc⟩:=loc_inv hv
 have hb:=hr.br k e _ he h
 obtain ⟨a,cap,hve,m1,m2,m3,m4⟩:=hloc hb.1.symm
 obtain ⟨B,hB,rfl,hroom⟩:=m4 (by omega)
 have hvals:vals=#[.slice (some ⟨B,e.base+0,none⟩) l.length cap]:=by
  have hs:=ha.1
  simp at hs
  apply Array.ext
  ·simpa using hs
  ·intro i h1 h2
   have:i=0:=by simp at h2;omega
   subst this
   simpa using hve
 rw [hvals]
 refine (hC B (e.base+0) cap l w (by simpa using hr.holds h he hB) (by unfold maxA at m1;omega) m2).mono ?_
 rintro e' w' ⟨rfl,n,os,rfl⟩
 obtain ⟨k1,k2⟩:=hr.row' h he hB (hS l) n os
 have:=hCl l
 exact ⟨_,.loc k g 0 (C l).length 1 false,E,_,rfl,⟨rfl,rfl⟩,.loc _ _ _ _ _ _ e _ he rfl (by have:=hb.1;omega) (fun _=>⟨_,cap,rfl,by omega,by omega,(fun h=>by cases h),fun _=>⟨B,hB,rfl,hroom⟩⟩),k2,k1⟩
end Go.AM
namespace Go.AM
set_option linter.unusedVariables false
set_option linter.unusedSimpArgs false
variable {P:Program} {X:Nat→Prop} {E:Env} {w:World} {H:AHeap}
def mvV (j g s g':Nat):AV→AV
 | .loc i g1 off len sz c=>if i=j∧g1=g then .loc s g' off len sz c else .loc i g1 off len sz c
 | v=>v
def mvB (j g s g':Nat):ABlk→ABlk
 | .dead g1=>.dead g1
 | .cells g1 cs=>.cells g1 (cs.map (mvV j g s g'))
 | .map g1 es=>.map g1 (es.map fun p=>(mvV j g s g' p.1,mvV j g s g' p.2))
def mvT (j g s g':Nat) (T:Tm):Tm:=T.map fun p=>(p.1,mvV j g s g' p.2)
theorem mvT_get {j g s g' k:Nat}:∀ {T:Tm},(∃ v,T.get k=v∧(mvT j g s g' T).get k=mvV j g s g' v)∨(mvT j g s g' T).get k=.any
 | []=>.inr rfl
 | (d,v)::T=>by
  simp only [mvT,List.map_cons,Tm.get]
  split
  ·exact .inl ⟨v,rfl,rfl⟩
  ·exact mvT_get
theorem Wk.move {lo:Nat} {T:Tm} {H:AHeap} (j s:Nat) {g g0:Nat} {cs:List AV} (hj:H[j]?=some (.cells g cs)) (hs:H[s]?=some (.dead g0)) :
  Wk lo T H (mvT j g s (g0+1) T) (((H.map (mvB j g s (g0+1))).set s (.cells (g0+1) (cs.map (mvV j g s (g0+1))))).set j (.dead g)):=by
 rintro X E0 w0 m a w hlo ⟨E,h1,h2,h3,h4⟩
 obtain ⟨ej,hej,bj⟩:=h2.ent hj
 obtain ⟨es,hes,bs⟩:=h2.ent hs
 obtain ⟨b1,b2,b3,b4⟩:=bj
 obtain ⟨c1,c2⟩:=bs
 have hjs:j≠s:=fun h=>by
  subst h
  rw [hj] at hs
  cases hs
 have lj:=lt_of_get hej
 have ls:=lt_of_get hes
 have lHj:=lt_of_get hj
 have lHs:=lt_of_get hs
 have key:∀ (i:Nat) (e:Ent),((E.set s ⟨g0+1,ej.blk,ej.base,ej.room,true⟩).set j { ej with live:=false })[i]?=some e→(i=j∧e={ ej with live:=false })∨(i=s∧e=⟨g0+1,ej.blk,ej.base,ej.room,true⟩)∨(i≠j∧i≠s∧E[i]?=some e):=by
  intro i e hi
  by_cases hij:j=i
  ·subst hij
   rw [List.getElem?_set_self (by simpa using lj)] at hi
   injection hi with hi
   exact .inl ⟨rfl,hi.symm⟩
  ·rw [List.getElem?_set_ne hij] at hi
   by_cases his:s=i
   ·subst his
    rw [List.getElem?_set_self ls] at hi
    injection hi with hi
    exact .inr (.inl ⟨rfl,hi.symm⟩)
   ·rw [List.getElem?_set_ne his] at hi
    exact .inr (.inr ⟨fun h=>hij h.symm,fun h=>his h.symm,hi⟩)
 have ga:((E.set s ⟨g0+1,ej.blk,ej.base,ej.room,true⟩).set j { ej with live:=false })[j]?=some { ej with live:=false }:=List.getElem?_set_self (by simpa using lj)
 have gs:((E.set s ⟨g0+1,ej.blk,ej.base,ej.room,true⟩).set j { ej with live:=false })[s]?=some ⟨g0+1,ej.blk,ej.base,ej.room,true⟩:=by
  rw [List.getElem?_set_ne hjs,List.getElem?_set_self ls]
 have go:∀ (i:Nat),i≠j→i≠s→((E.set s ⟨g0+1,ej.blk,ej.base,ej.room,true⟩).set j { ej with live:=false })[i]?=E[i]?:=fun i h1 h2=>by
  rw [List.getElem?_set_ne (fun h=>h1 h.symm),List.getElem?_set_ne (fun h=>h2 h.symm)]
 have hev:Ev E w ((E.set s ⟨g0+1,ej.blk,ej.base,ej.room,true⟩).set j { ej with live:=false }) w:=by
  refine ⟨rfl,rfl,rfl,Nat.le_refl _,fun _ _ _=>rfl,fun B hB=>?_,fun i e hi=>?_,Nat.le_refl _⟩
  ·obtain ⟨e,he,q1,q2⟩:=hB
   obtain ⟨i,hi,rfl⟩:=List.getElem_of_mem he
   rcases key i _ (List.getElem?_eq_getElem hi) with ⟨_,q⟩|⟨_,q⟩|⟨_,_,q⟩
   ·rw [q] at q1;cases q1
   ·rw [q] at q2
    exact .inl ⟨ej,List.mem_of_getElem? hej,b2,q2⟩
   ·exact .inl ⟨_,List.mem_of_getElem? q,q1,q2⟩
  ·by_cases hij:i=j
   ·subst hij
    rw [hej] at hi
    injection hi with hi
    subst hi
    exact ⟨_,ga,Nat.le_refl _,fun _=>⟨rfl,rfl,rfl⟩⟩
   ·by_cases his:i=s
    ·subst his
     rw [hes] at hi
     injection hi with hi
     subst hi
     exact ⟨_,gs,by show es.gen≤g0+1;omega,fun h=>by have h:es.gen=g0+1:=h;omega⟩
    ·exact ⟨e,by rw [go i hij his];exact hi,Nat.le_refl _,fun _=>⟨rfl,rfl,rfl⟩⟩
 have hv:∀ {v:AV} {u:Value},VR X E w v u→VR X ((E.set s ⟨g0+1,ej.blk,ej.base,ej.room,true⟩).set j { ej with live:=false }) w (mvV j g s (g0+1) v) u:=by
  intro v u h
  cases v with
  | loc i g1 off len sz c =>
   simp only [mvV]
   split
   ·rename_i hc
    obtain ⟨rfl,rfl⟩:=hc
    cases h with
    | loc _ _ _ _ _ _ e _ he q1 hg q2 =>
     rw [hej] at he
     injection he with he
     subst he
     refine .loc _ _ _ _ _ _ _ _ gs q1 (Nat.le_refl _) (fun _=>?_)
     exact q2 b1.symm
   ·exact h.mono hev
  | _=>exact h.mono hev
 refine ⟨_,h1.trans hev,⟨by simp [h2.len],fun i k ei ek B q1 q2 q3 q4 q5 q6=>?_,fun i e B q1 q2 q3=>?_,fun i e b q1 q2=>?_,h2.bound⟩,⟨fun k=>?_⟩,h4.1,m.mono hev h4.2⟩
 ·rcases key i ei q1 with ⟨_,r⟩|⟨r1,r⟩|⟨r1,r2,r⟩
  ·rw [r] at q3;cases q3
  ·rcases key k ek q2 with ⟨_,t⟩|⟨t1,t⟩|⟨t1,t2,t⟩
   ·rw [t] at q4;cases q4
   ·rw [r1,t1]
   ·rw [r] at q5
    exact absurd (h2.inj k j ek ej B t hej q4 b2 q6 q5) t1
  ·rcases key k ek q2 with ⟨_,t⟩|⟨t1,t⟩|⟨t1,t2,t⟩
   ·rw [t] at q4;cases q4
   ·rw [t] at q6
    exact absurd (h2.inj i j ei ej B r hej q3 b2 q5 q6) r1
   ·exact h2.inj i k ei ek B r t q3 q4 q5 q6
 ·rcases key i e q1 with ⟨_,r⟩|⟨_,r⟩|⟨_,_,r⟩
  ·rw [r] at q2;cases q2
  ·rw [r] at q3
   exact h2.own j ej B hej b2 q3
  ·exact h2.own i e B r q2 q3
 ·rcases key i e q1 with ⟨rfl,rfl⟩|⟨rfl,rfl⟩|⟨r1,r2,r⟩
  ·rw [List.getElem?_set_self (by simpa using lHj)] at q2
   injection q2 with q2
   subst q2
   exact ⟨b1,rfl⟩
  ·rw [List.getElem?_set_ne hjs,List.getElem?_set_self (by simpa using lHs)] at q2
   injection q2 with q2
   subst q2
   refine ⟨rfl,rfl,fun h=>by rw [b3 h];rfl,fun B hB=>?_⟩
   obtain ⟨arr,t,lo,hi',k1,k2,k3,k4,k5⟩:=b4 B hB
   refine ⟨arr,t,lo,hi',k1,k2,by simpa using k3,k4,fun x hx=>?_⟩
   obtain ⟨u,u1,u2⟩:=k5 x (by simpa using hx)
   refine ⟨u,u1,?_⟩
   simp only [List.getElem_map]
   exact hv u2
  ·rw [List.getElem?_set_ne (fun h=>r1 h.symm),List.getElem?_set_ne (fun h=>r2 h.symm),List.getElem?_map] at q2
   cases hHi:H[i]? with
   | none=>rw [hHi] at q2;cases q2
   | some b0 =>
    rw [hHi] at q2
    injection q2 with q2
    subst q2
    have hb0:=h2.br i e b0 r hHi
    cases b0 with
    | dead g'=>exact hb0
    | cells g' cs' =>
     obtain ⟨d1,d2,d3,d4⟩:=hb0
     refine ⟨d1,d2,fun h=>by rw [d3 h];rfl,fun B hB=>?_⟩
     obtain ⟨arr,t,lo,hi',k1,k2,k3,k4,k5⟩:=d4 B hB
     refine ⟨arr,t,lo,hi',k1,k2,by simpa using k3,k4,fun x hx=>?_⟩
     obtain ⟨u,u1,u2⟩:=k5 x (by simpa using hx)
     refine ⟨u,u1,?_⟩
     simp only [List.getElem_map]
     exact hv u2
    | map g' es =>
     obtain ⟨d1,d2,B,ents,clock,k1,k2,k3,k4,k5⟩:=hb0
     refine ⟨d1,d2,B,ents,clock,k1,k2,by simpa using k3,fun x hx hx'=>?_,k5⟩
     have:=k4 x (by simpa using hx) hx'
     simp only [List.getElem_map]
     exact ⟨hv this.1,hv this.2⟩
 ·rcases mvT_get (j:=j) (g:=g) (s:=s) (g':=g0+1) (k:=k) (T:=T) with ⟨v,hv',hf⟩|hf
  ·rw [hf]
   have:=h3.rel k
   rw [hv'] at this
   exact hv this
  ·rw [hf]
   exact .any _
end Go.AM
namespace Go.AM
set_option linter.unusedVariables false
set_option linter.unusedSimpArgs false
theorem Wk.leT {lo:Nat} {T T':Tm} {H:AHeap} (n:Nat) (h:al (fun p=>leP n (T.get p.1) p.2) T'):Wk lo T H T' H:=by
 rintro X E0 w0 m a w hlo ⟨E,h1,h2,h3,h4⟩
 refine ⟨E,h1,h2,⟨fun k=>?_⟩,h4⟩
 rcases get_mem (T:=T') (k:=k) with e|⟨p,hp,rfl,e⟩
 ·rw [e]
  exact .any _
 ·rw [e]
  exact (h3.rel p.1).le n (al_mem h p hp)
end Go.AM
namespace Go.AM
set_option linter.unusedVariables false
set_option linter.unusedSimpArgs false
variable {P:Program} {lo:Nat}
def Ka (P:Program) (lo:Nat) (b:ACode) (K:AEx→Tm→AHeap→Prop):AEx→Tm→AHeap→Prop
 | .normal=>run P lo b K
 | _=>fun _ _=>False
@[simp] theorem Ka_normal {b K T H}:Ka P lo b K .normal T H=run P lo b K T H:=rfl
def Kr (lo:Nat) (T:Tm) (I:Nat→AHeap→Prop) (k:Nat) (K:AEx→Tm→AHeap→Prop):AEx→Tm→AHeap→Prop
 | .normal=>fun _ H3=>∃ H4,Wk lo T H3 T H4∧I (k+1) H4
 | e=>fun _ H3=>K e T H3
@[simp] theorem Kr_exit {T I k K id T' H}:Kr lo T I k K (.exit id) T' H=K (.exit id) T H:=rfl
@[simp] theorem Kr_ret {T I k K T' H}:Kr lo T I k K .ret T' H=K .ret T H:=rfl
end Go.AM
