/- Contracts of the program's functions. -/
import Derived.Test.YtpdjffpdanmoeaaGreatL1
import Derived.Test.YtpdjffpdanmoeaaGreatAm4
import Derived.KernelRfl
namespace Go.AM
open Go.Proofs
set_option maxRecDepth 100000
set_option linter.unusedVariables false
set_option linter.unusedSimpArgs false
attribute [local go_sem] Function.comp_def argsT Opd.ev Tm.get put ares mapMo ares1 snilP bldParts bslParts putAt AV.cells AV.one astore aload loadCs callArgs abin abinInt aapp elems appMore appNone preLen aFa aFld apart aExt aPick aNot aLens aEqa cellsK fitsA LK.fitsA leavesA leafA nilD aNilc aCint aCid alive alen alenOk Rle lePs len_flat lit
theorem clone48F (l:List Int) (h0:l≠[]) (hA:l.length≤100000000) (H:AHeap):FT Tryz.prog 40 [ints l] H (fun rv H'=>rv=.loc H.length 0 0 l.length 1 false∧H'=H++[.cells 0 (i64s l)]):=by
 have hm1:l.length≤maxA:=by unfold maxA;omega
 have hfl:∀ l:List Int,(List.map (fun n=>[AV.int IntKind.i64 n]) l).flatten=i64s l:=by
  intro l
  induction l with
  | nil=>rfl
  | cons x l ih=>simp [ih]
 refine FTk hm Tryz.func40 c40_ok (Nat.le_of_ble_eq_true rfl) ?_
 simp (maxSteps:=3000000) [go_sem,-List.length_flatten,-List.map_drop,-List.map_take,c40,h0,hm1,hfl]
theorem giApp {α:Type} [Inhabited α] {l m:List α} {i:Nat} (h:i<l.length):gi (l++m) (i:Int)=gi l (i:Int):=by
 simp [gi,List.getD,List.getElem?_append_left h]
theorem giEnd {α:Type} [Inhabited α] {l:List α} {x:α}:gi (l++[x]) ((l.length:Nat):Int)=x:=by
 simp [gi,List.getD]
def putK (a:Kd) (key:List Int):Kd×Int×Bool:=if 0≤fstAt (fun x=>decide (x=key)) a.keys then (a,fstAt (fun x=>decide (x=key)) a.keys,false) else (⟨a.keys++[key],lay (a.keys++[key])⟩,a.keys.length,true)
def keyT (t:Tm0):List Int:=[t.kind,t.sym,t.part]++t.args
theorem FT.more {P:Program} {f:FuncId} {vs:List AV} {H:AHeap} {r:AV} (h:FT P f vs H (fun rv H'=>rv=r∧H'=H)) (has:al (RL H.length) vs) (hH:∀ b∈H,RLB H.length b) (X:AHeap):FT P f vs (H++X) (fun rv H'=>rv=r∧H'=H++X) :=
 (h.tail (fun rv H' h=>by rw [h.2]) (al_mem has) hH).mono (by rintro rv H' ⟨H1,⟨rfl,rfl⟩,rfl⟩;exact ⟨rfl,rfl⟩)
def putT (l:List Sg) (a:Kd) (t:Tm0) (limit:Int):Kd×Int×Int :=
 if mayBe l a.keys.length t=false then (a,0,1)
 else if (putK a (keyT t)).2.2=true∧limit≤a.keys.length then (a,0,7)
 else ((putK a (keyT t)).1,(putK a (keyT t)).2.1,0)
def RevAt {α:Type} [Inhabited α] (l s:List α) (i:Nat):Prop:=s.length=l.length∧∀ p:Nat,p<l.length→gi s p=if p<i∨l.length≤p+i then gi l (l.length - 1 - p:Nat) else gi l p
theorem RevAt.zero {α:Type} [Inhabited α] (l:List α):RevAt l l 0:=⟨rfl,fun p hp=>by rw [if_neg (by omega)]⟩
theorem RevAt.done {α:Type} [Inhabited α] {l s:List α} {i:Nat} (h:RevAt l s i) (hi:l.length≤2*i+1):s=l.reverse:=by
 refine eq_gi (by simp [h.1]) fun p hp=>?_
 have h1:=h.1
 rw [h.2 p (by omega)]
 have e:gi l.reverse (p:Int)=gi l (l.length - 1 - p:Nat):=by
  simp only [gi,List.getD,Int.toNat_natCast]
  rw [List.getElem?_reverse (by omega)]
 rw [e]
 by_cases hc:p<i∨l.length≤p+i
 ·rw [if_pos hc]
 ·rw [if_neg hc]
  congr 1
  omega
structure Nd where
 kind:Int
 name:ByteArray
 n:Int
 deriving DecidableEq
instance:Inhabited Nd:=⟨⟨0,⟨#[]⟩,0⟩⟩
@[simp] def Nd.cs (x:Nd):List AV:=[i64 x.kind,.str x.name,i64 x.n]
abbrev nds (l:List Nd):AV:=.rows false 3 (l.map Nd.cs)
def argsIn (a:Kd):Prop:=∀ i:Nat,i<a.keys.length→∀ x∈(termAt a i).1.args,0≤x∧x<i
theorem rlb_i64s {n g:Nat} {l:List Int}:RLB n (.cells g (i64s l)):=by
 intro y hy
 obtain ⟨b,_,rfl⟩:=List.mem_map.1 hy
 exact .int _ b
theorem i64s_app (l:List Int) (x:Int):List.take l.length (i64s l)++[AV.int IntKind.i64 x]=i64s (l++[x]):=by
 rw [List.take_of_length_le (by simp)]
 simp
inductive Rch (a:Kd) (id:Nat):Int→Prop where
 | self:Rch a id id
 | arg {n x:Int}:Rch a id n→x∈(termAt a n).1.args→Rch a id x
theorem rch_le {a:Kd} {id:Nat} (ha:argsIn a) (hid:id<a.keys.length) {x:Int} (h:Rch a id x):0≤x∧x≤id:=by
 induction h with
 | self=>omega
 | arg hn hx ih =>
  rename_i n x
  obtain ⟨m,rfl⟩:∃ m:Nat,n=m:=⟨n.toNat,by omega⟩
  have:=ha m (by omega) x hx
  omega
structure BInv (a:Kd) (id k:Nat) (b:List Bool):Prop where
 top:gi b (id:Int)=true
 rch:∀ m:Nat,m≤id→gi b (m:Int)=true→Rch a id m
 args:∀ p:Nat,p≤id→id<p+k→gi b (p:Int)=true→∀ x∈(termAt a p).1.args,gi b x=true
theorem BInv.all {a:Kd} {id k:Nat} {b:List Bool} (h:BInv a id k b) (ha:argsIn a) (hid:id<a.keys.length) {x:Int} (hx:Rch a id x):(id:Int)≤x+k→gi b x=true:=by
 induction hx with
 | self=>exact fun _=>h.top
 | arg hn hx ih =>
  rename_i n x
  intro hk
  have:=rch_le ha hid hn
  obtain ⟨m,rfl⟩:∃ m:Nat,n=m:=⟨n.toNat,by omega⟩
  have h1:=ha m (by omega) x hx
  exact h.args m (by omega) (by omega) (ih (by omega)) x hx
theorem pigeon:∀ (N:Nat) (l:List Nat),l.Nodup→(∀ a∈l,a<N)→l.length≤N
 | 0,l,h,ha=>by
  cases l with
  | nil=>simp
  | cons a l=>have:=ha a (by simp);omega
 | N+1,l,h,ha=>by
  by_cases hm:N∈l
  ·have h1:=pigeon N (l.erase N) (h.erase N) (fun a hq=>by
    have h2:=(h.mem_erase_iff (a:=a) (b:=N)).1 hq
    have:=ha a h2.2
    have:=h2.1
    omega)
   rw [List.length_erase_of_mem hm] at h1
   omega
  ·have:=pigeon N l h (fun a hq=>by
    have:=ha a hq
    have:a≠N:=fun e=>hm (e▸hq)
    omega)
   omega
theorem nodup_map {α β:Type} {f:α→β}:∀ {l:List α},l.Nodup→(∀ x∈l,∀ y∈l,f x=f y→x=y)→(l.map f).Nodup
 | [],_,_=>by simp
 | a::l,h,hf=>by
  rw [List.nodup_cons] at h
  rw [List.map_cons,List.nodup_cons]
  refine ⟨fun hm=>?_,nodup_map h.2 fun x hx y hy=>hf x (by simp [hx]) y (by simp [hy])⟩
  obtain ⟨b,hb,he⟩:=List.mem_map.1 hm
  exact h.1 (hf b (by simp [hb]) a (by simp) he▸hb)
structure RInv (a:Kd) (id i:Nat) (all:List Int):Prop where
 nd:all.Nodup
 top:(id:Int)∈all
 rch:∀ x∈all,Rch a id x
 args:∀ j:Nat,j<i→∀ x∈(termAt a (gi all j)).1.args,x∈all
theorem RInv.len {a:Kd} {id i:Nat} {all:List Int} (h:RInv a id i all) (ha:argsIn a) (hid:id<a.keys.length):all.length≤id+1:=by
 have:=pigeon (id+1) (all.map Int.toNat) (nodup_map h.nd fun x hx y hy e=>by
  have:=rch_le ha hid (h.rch x hx)
  have:=rch_le ha hid (h.rch y hy)
  omega) (fun m hm=>by
  obtain ⟨x,hx,rfl⟩:=List.mem_map.1 hm
  have:=rch_le ha hid (h.rch x hx)
  omega)
 simpa using this
theorem all_next {P:Nat→Prop} {i:Nat} (h:∀ j:Nat,j<i→P j) (hi:P i):∀ j:Nat,j<i+1→P j:=fun j hl=>by
 rcases Nat.lt_or_ge j i with h3|h3
 ·exact h j h3
 ·have:j=i:=by omega
  subst this
  exact hi
abbrev strs (l:List ByteArray):AV:=.rows false 1 (l.map fun s=>[.str s])
theorem c13_ok:cFn Tryz.prog an0 Tryz.f13=some c13:=by kernel_rfl
theorem rows_PF (a b:List (List Int)):PF Tryz.prog 13 [intss a,intss b] (.bool (decide (a=b))):=by
 refine PFk 9 hm Tryz.func13 c13_ok (Nat.le_of_ble_eq_true rfl) (by simp) (by simp) ?_
 by_cases h:a.length=b.length
 ·simp (maxSteps:=3000000) [go_sem,-List.length_flatten,-List.map_drop,-List.map_take,c13,h]
  intro hb
  refine run_countK a.length 5 [(0,intss a),(1,intss b)] [] (fun i=>∀ j:Nat,j<i→gi a j=gi b j)
   (Wk.tell 0 (by omega) (by simp [Tm.get]) (by simp) rfl (by simp)) (fun j hj=>by omega) ?_
  intro i hi hj KK kx kr kn
  by_cases h1:i<b.length
  ·have h2:i<a.length:=by omega
   simp (maxSteps:=3000000) [go_sem,-List.length_flatten,-List.map_drop,-List.map_take,h,h1,h2]
   intros
   refine ⟨_,ints_PF (gi a i) (gi b i),?_⟩
   by_cases he:gi a i=gi b i
   ·simp (maxSteps:=3000000) [go_sem,-List.length_flatten,-List.map_drop,-List.map_take,Kc,he]
    exact kn _ _ (Kn_next 0 (by omega) (by omega) (all_next hj he) (by simp [Tm.get,nxt h1 hb]) (by simp) rfl (by simp))
   ·have:¬ a=b:=fun e=>he (by rw [e])
    simp (maxSteps:=3000000) [go_sem,-List.length_flatten,-List.map_drop,-List.map_take,Kc,he,kr,this]
  ·have:a=b:=eq_gi (by omega) (fun j hl=>hj j (by omega))
   simp (maxSteps:=3000000) [go_sem,-List.length_flatten,-List.map_drop,-List.map_take,h,h1,kx,this]
 ·have:¬ a=b:=fun e=>h (by rw [e])
  simp (maxSteps:=3000000) [go_sem,-List.length_flatten,-List.map_drop,-List.map_take,c13,h,this]
  intros
  omega
def newK:Kd:=⟨[[0,0,0],[1,0,0]],lay [[0,0,0],[1,0,0]]⟩
theorem Wk.dclT {lo:Nat} {T:Tm} {H:AHeap} (n t:Nat):Wk lo T H ((t,dcl n (T.get t))::T) H:=by
 rintro X E0 w0 m a w hlo ⟨E,h1,h2,h3,h4⟩
 refine ⟨E,h1,h2,⟨fun k=>?_⟩,h4⟩
 simp only [Tm.get]
 split
 ·rename_i e
  subst e
  exact (h3.rel t).dcl n
 ·exact h3.rel k
def an46:An:=⟨[],[2]⟩
theorem c46_ok:cFn Tryz.prog an46 Tryz.f46=some c46:=by kernel_rfl
theorem rnew_PF:PF Tryz.prog 46 [] (.agg newK.cs):=by
 refine PFk 9 hm Tryz.func46 c46_ok (Nat.le_of_ble_eq_true rfl) (by simp) (by simp) ?_
 simp (maxSteps:=3000000) [go_sem,-List.length_flatten,-List.map_drop,-List.map_take,c46]
 refine run_markT [(1,intss [[0,0,0],[1,0,0]]),(0,.ptr 0 0 0)] [.cells 0 [.nilS,.nilS]] ((Wk.dclT 9 1).trans (Wk.tell 1 (by omega) (by simp [Tm.get,dcl]) (by simp) (by simp) (by simp [RLB]))) ?_
 simp (maxSteps:=3000000) [go_sem,-List.length_flatten,-List.map_drop,-List.map_take]
 refine PF.call (lay_PF [[0,0,0],[1,0,0]] (Nat.le_of_ble_eq_true rfl)) 9 (by simp [lePs]) ?_
 simp (maxSteps:=3000000) [go_sem,-List.length_flatten,-List.map_drop,-List.map_take,Kc]
 simp [newK]
theorem c74_ok:cFn Tryz.prog an0 Tryz.f74=some c74:=by kernel_rfl
theorem rat_PF (l:List ByteArray) (s:ByteArray):PF Tryz.prog 74 [strs l,.str s] (i64 (fstAt (fun x=>decide (x=s)) l)):=by
 refine PFk 9 hm Tryz.func74 c74_ok (Nat.le_of_ble_eq_true rfl) (by simp) (by simp) ?_
 simp (maxSteps:=3000000) [go_sem,-List.length_flatten,-List.map_drop,-List.map_take,c74]
 refine run_countK l.length 5 [(0,strs l),(1,.str s)] [] (fun i=>∀ j:Nat,j<i→gi l j≠s)
  (Wk.tell 0 (by omega) (by simp [Tm.get]) (by simp) rfl (by simp)) (fun j hj=>by omega) ?_
 intro i hi hj KK kx kr kn
 by_cases h:i<l.length
 ·by_cases he:gi l i=s
  ·have:=fstAt_some (p:=fun x=>decide (x=s)) h (by simpa using he) (fun k hk=>by simpa using hj k hk)
   simp (maxSteps:=3000000) [go_sem,-List.length_flatten,-List.map_drop,-List.map_take,h,he,kr]
   intros
   exact this.symm
  ·simp (maxSteps:=3000000) [go_sem,-List.length_flatten,-List.map_drop,-List.map_take,h,he]
   intro ha
   exact kn _ _ (Kn_next 0 (by omega) (by omega) (all_next hj he) (by simp [Tm.get,nxt h ha]) (by simp) rfl (by simp))
 ·have:=fstAt_none (p:=fun x=>decide (x=s)) (l:=l) (fun k hk=>by simpa using hj k (by omega))
  simp (maxSteps:=3000000) [go_sem,-List.length_flatten,-List.map_drop,-List.map_take,h,kx]
  intros
  exact this.symm
def varOk (s:ByteArray):Bool:=nameOk s&&decide (65≤byte s 0)&&decide (byte s 0≤90)
theorem c118_ok:cFn Tryz.prog an0 Tryz.f118=some c118:=by kernel_rfl
theorem var_PF (s:ByteArray):PF Tryz.prog 118 [.str s] (.bool (varOk s)):=by
 refine PFk 9 hm Tryz.func118 c118_ok (Nat.le_of_ble_eq_true rfl) (by simp) (by simp) ?_
 simp (maxSteps:=3000000) [go_sem,-List.length_flatten,-List.map_drop,-List.map_take,c118]
 refine PF.call (name_PF s) 9 (by simp [lePs]) ?_
 cases h:nameOk s with
 | false=>simp (maxSteps:=3000000) [go_sem,-List.length_flatten,-List.map_drop,-List.map_take,Kc,varOk,h]
 | true =>
  have:=nameSize h
  simp (maxSteps:=3000000) [go_sem,-List.length_flatten,-List.map_drop,-List.map_take,Kc,this]
  refine PF.call (big_PF (byte s 0)) 9 (by simp [lePs]) ?_
  simp (maxSteps:=3000000) [go_sem,-List.length_flatten,-List.map_drop,-List.map_take,Kc]
  simp [varOk,h]
def partsN (x:Nd):Int:=if x.kind=6 then 1 else x.n
theorem c88_ok:cFn Tryz.prog an0 Tryz.f88=some c88:=by kernel_rfl
theorem parts46_PF (x:Nd):PF Tryz.prog 88 [.agg x.cs] (i64 (partsN x)):=by
 refine PFk 9 hm Tryz.func88 c88_ok (Nat.le_of_ble_eq_true rfl) (by simp) (by simp) ?_
 by_cases h:x.kind=6
 all_goals
  simp (maxSteps:=3000000) [go_sem,-List.length_flatten,-List.map_drop,-List.map_take,c88,h]
  simp [partsN,h]
def ndMay (x:Nd):Bool :=
 if x.kind=0∨x.kind=1 then decide (x.name=⟨#[]⟩)&&decide (x.n=0)
 else if x.kind=2 then varOk x.name&&decide (x.n=0)
 else if x.kind=3 then conOk x.name&&(decide (0≤x.n)&&decide (x.n≤8))
 else if x.kind=4∨x.kind=5 then decide (x.name=⟨#[]⟩)&&decide (x.n=2)
 else if x.kind=6 then conOk x.name&&(decide (1≤x.n)&&decide (x.n≤8))
 else false
theorem c87_ok:cFn Tryz.prog an0 Tryz.f87=some c87:=by kernel_rfl
theorem rndMay_PF (x:Nd):PF Tryz.prog 87 [.agg x.cs] (.bool (ndMay x)):=by
 refine PFk 9 hm Tryz.func87 c87_ok (Nat.le_of_ble_eq_true rfl) (by simp) (by simp) ?_
 generalize hQ:Rle 9 (.bool (ndMay x))=Q
 have hk:x.kind=0∨x.kind=1∨x.kind=2∨x.kind=3∨x.kind=4∨x.kind=5∨x.kind=6∨(x.kind≠0∧x.kind≠1∧x.kind≠2∧x.kind≠3∧x.kind≠4∧x.kind≠5∧x.kind≠6):=by omega
 simp (maxSteps:=3000000) [go_sem,-List.length_flatten,-List.map_drop,-List.map_take,c87]
 refine PF.call (con_PF x.name) 9 (by simp [lePs]) ?_
 rcases hk with k|k|k|k|k|k|k|k
 ·by_cases h:x.name=⟨#[]⟩
  all_goals
   simp (maxSteps:=3000000) [go_sem,-List.length_flatten,-List.map_drop,-List.map_take,Kc,k,h]
   rw [←hQ]
   simp (maxSteps:=3000000) [go_sem,-List.length_flatten,-List.map_drop,-List.map_take,ndMay,k,h]
 ·by_cases h:x.name=⟨#[]⟩
  all_goals
   simp (maxSteps:=3000000) [go_sem,-List.length_flatten,-List.map_drop,-List.map_take,Kc,k,h]
   rw [←hQ]
   simp (maxSteps:=3000000) [go_sem,-List.length_flatten,-List.map_drop,-List.map_take,ndMay,k,h]
 ·simp (maxSteps:=3000000) [go_sem,-List.length_flatten,-List.map_drop,-List.map_take,Kc,k]
  refine PF.call (var_PF x.name) 9 (by simp [lePs]) ?_
  cases h:varOk x.name
  all_goals
   simp (maxSteps:=3000000) [go_sem,-List.length_flatten,-List.map_drop,-List.map_take,Kc]
   rw [←hQ]
   simp (maxSteps:=3000000) [go_sem,-List.length_flatten,-List.map_drop,-List.map_take,ndMay,k,h]
 ·cases h:conOk x.name
  ·simp (maxSteps:=3000000) [go_sem,-List.length_flatten,-List.map_drop,-List.map_take,Kc,k,h]
   rw [←hQ]
   simp (maxSteps:=3000000) [go_sem,-List.length_flatten,-List.map_drop,-List.map_take,ndMay,k,h]
  ·by_cases h2:0≤x.n
   all_goals
    simp (maxSteps:=3000000) [go_sem,-List.length_flatten,-List.map_drop,-List.map_take,Kc,k,h,h2]
    rw [←hQ]
    simp (maxSteps:=3000000) [go_sem,-List.length_flatten,-List.map_drop,-List.map_take,ndMay,k,h,h2]
 ·by_cases h:x.name=⟨#[]⟩
  all_goals
   simp (maxSteps:=3000000) [go_sem,-List.length_flatten,-List.map_drop,-List.map_take,Kc,k,h]
   rw [←hQ]
   simp (maxSteps:=3000000) [go_sem,-List.length_flatten,-List.map_drop,-List.map_take,ndMay,k,h]
 ·by_cases h:x.name=⟨#[]⟩
  all_goals
   simp (maxSteps:=3000000) [go_sem,-List.length_flatten,-List.map_drop,-List.map_take,Kc,k,h]
   rw [←hQ]
   simp (maxSteps:=3000000) [go_sem,-List.length_flatten,-List.map_drop,-List.map_take,ndMay,k,h]
 ·cases h:conOk x.name
  ·simp (maxSteps:=3000000) [go_sem,-List.length_flatten,-List.map_drop,-List.map_take,Kc,k,h]
   rw [←hQ]
   simp (maxSteps:=3000000) [go_sem,-List.length_flatten,-List.map_drop,-List.map_take,ndMay,k,h]
  ·by_cases h2:1≤x.n
   all_goals
    simp (maxSteps:=3000000) [go_sem,-List.length_flatten,-List.map_drop,-List.map_take,Kc,k,h,h2]
    rw [←hQ]
    simp (maxSteps:=3000000) [go_sem,-List.length_flatten,-List.map_drop,-List.map_take,ndMay,k,h,h2]
 ·simp (maxSteps:=3000000) [go_sem,-List.length_flatten,-List.map_drop,-List.map_take,Kc,k]
  rw [←hQ]
  simp (maxSteps:=3000000) [go_sem,-List.length_flatten,-List.map_drop,-List.map_take,ndMay,k]
def nsum (l:List Nd):Nat:=l.foldl (fun s x=>s+(1+x.name.size)) 0
theorem nsum_mono (l:List Nd) (i:Nat) (h:i<l.length):nsum (l.take (i+1))=nsum (l.take i)+(1+(gi l i).name.size):=foldl_take _ _ _ _ h
theorem nsum_le (l:List Nd) (i:Nat):nsum (l.take i)≤nsum l:=by
 have:∀ (l:List Nd) (s:Nat),s≤l.foldl (fun s x=>s+(1+x.name.size)) s:=by
  intro l
  induction l with
  | nil=>intro s;exact Nat.le_refl _
  | cons x l ih=>intro s;exact Nat.le_trans (Nat.le_add_right s (1+x.name.size)) (ih _)
 unfold nsum
 conv=>rhs;rw [←List.take_append_drop i l,List.foldl_append]
 exact this _ _
def ndFew (l:List Nd):Bool:=decide (nsum l≤600)
theorem c54_ok:cFn Tryz.prog an0 Tryz.f54=some c54:=by kernel_rfl
theorem ndFew_PF (l:List Nd) (hl:l.length≤maxA) (hs:∀ i:Nat,i<l.length→(gi l i).name.size≤maxA):PF Tryz.prog 54 [nds l] (.bool (ndFew l)):=by
 refine PFk 9 hm Tryz.func54 c54_ok (Nat.le_of_ble_eq_true rfl) (by simp) (by simp) ?_
 simp (maxSteps:=3000000) [go_sem,-List.length_flatten,-List.map_drop,-List.map_take,c54]
 refine run_loopK (fun m T H=>∃ i:Nat,m=l.length - i∧i≤l.length∧nsum (l.take i)≤600∧T=[(4,i64 i),(3,i64 (nsum (l.take i))),(0,nds l)]∧H=[]) l.length [(4,i64 (0:Nat)),(3,i64 (0:Nat)),(0,nds l)] []
  (Wk.tell 0 (by omega) (by simp [Tm.get]) (by simp) rfl (by simp)) ⟨0,rfl,by omega,by simp [nsum],by simp [nsum],rfl⟩ ?_
 rintro m T H ⟨i,rfl,hi,h6,rfl,rfl⟩ KK kx kr kn
 by_cases h:i<l.length
 ·have hz:=hs i h
  have hm:=nsum_mono l i h
  have hw1:IntKind.i64.wrap ((nsum (l.take i):Int)+1)=((nsum (l.take i)+1:Nat):Int):=by rw [w64 (by omega) (by omega)];omega
  have hw2:IntKind.i64.wrap (((nsum (l.take i)+1:Nat):Int)+(gi l i).name.size)=((nsum (l.take (i+1)):Nat):Int):=by unfold maxA at hz;rw [w64 (by omega) (by omega)];omega
  by_cases h2:nsum (l.take (i+1))≤600
  ·have h2':¬ (600:Int)<((nsum (l.take (i+1)):Nat):Int):=by omega
   simp (maxSteps:=3000000) [go_sem,-List.length_flatten,-List.map_drop,-List.map_take,h,hw1,hw2,h2',-Int.natCast_add]
   intros
   exact kn _ _ (Kl_next (l.length - (i+1)) 0 (by omega) ⟨i+1,rfl,by omega,h2,rfl,rfl⟩ (by simp [Tm.get,nxt h hl]) (by simp) rfl (by simp) (by omega))
  ·have h2':(600:Int)<((nsum (l.take (i+1)):Nat):Int):=by omega
   have hf:ndFew l=false:=decide_eq_false (by have:=nsum_le l (i+1);omega)
   simp (maxSteps:=3000000) [go_sem,-List.length_flatten,-List.map_drop,-List.map_take,h,hw1,hw2,h2',kr,hf,-Int.natCast_add]
 ·have e:l.take i=l:=List.take_of_length_le (by omega)
  have hf:ndFew l=true:=decide_eq_true (by rw [e] at h6;exact h6)
  simp (maxSteps:=3000000) [go_sem,-List.length_flatten,-List.map_drop,-List.map_take,h,kx,hf]
def tx (l:List UInt8):ByteArray:=⟨l.toArray⟩
structure En where
 r:Nat
 s:Nat
 t:ByteArray
 d:Int
 k:Int
instance:Inhabited En:=⟨⟨0,0,⟨#[]⟩,0,0⟩⟩
def two (k:Int):Bool:=decide (k=4)||decide (k=5)
def brk (kind:Int) (fst:Bool) (e:En):Bool:=two e.k&&(!fst||decide (e.k≠kind))
def brT (b:Bool) (t:ByteArray):ByteArray:=if b then ⟨#[40]⟩++t++⟨#[41]⟩ else t
def brD (b:Bool) (d:Int):Int:=if b then d+1 else d
def joinB:List ByteArray→ByteArray
 | []=>⟨#[]⟩
 | [x]=>x
 | x::y::l=>x++(⟨#[44]⟩++joinB (y::l))
def maxD (ks:List En):Int:=ks.foldl (fun m e=>if m<e.d then e.d else m) 0
def txtN (x:Nd) (ks:List En):ByteArray :=
 if x.kind=0 then ⟨#[48]⟩
 else if x.kind=1 then ⟨#[49]⟩
 else if x.kind=3 then (if x.n=0 then x.name else x.name++⟨#[40]⟩++joinB (ks.map (·.t))++⟨#[41]⟩)
 else if two x.kind then brT (brk x.kind true (gi ks 0)) (gi ks 0).t++⟨#[if x.kind=4 then 124 else 38]⟩++brT (brk x.kind false (gi ks 1)) (gi ks 1).t
 else if x.kind=6 then x.name++⟨#[126]⟩++⟨#[UInt8.ofNat (48+x.n.toNat)]⟩++brT true (gi ks 0).t
 else x.name
def dpN (x:Nd) (ks:List En):Int :=
 if x.kind=3 then (if x.n=0 then 0 else maxD ks+1)
 else if two x.kind then (if brD (brk x.kind true (gi ks 0)) (gi ks 0).d<brD (brk x.kind false (gi ks 1)) (gi ks 1).d then brD (brk x.kind false (gi ks 1)) (gi ks 1).d else brD (brk x.kind true (gi ks 0)) (gi ks 0).d)
 else if x.kind=6 then (gi ks 0).d+1
 else 0
def pN (x:Nd):Nat:=(partsN x).toNat
def mkEn (x:Nd) (i:Nat) (st:List En):En :=
 ⟨i,if pN x=0 then i else (gi st ((pN x - 1:Nat):Int)).s,txtN x (st.take (pN x)).reverse,dpN x (st.take (pN x)).reverse,x.kind⟩
def stk (l:List Nd):Nat→List En
 | 0=>[]
 | i+1=>mkEn (gi l i) i (stk l i)::(stk l i).drop (pN (gi l i))
def enN (l:List Nd) (i:Nat):En:=mkEn (gi l i) i (stk l i)
def kidsN (l:List Nd) (i:Nat):List En:=((stk l i).take (pN (gi l i))).reverse
def goodN (l:List Nd) (i:Nat):Prop:=∀ j:Nat,j<i→0≤partsN (gi l j)∧pN (gi l j)≤(stk l j).length
def chain:Nat→List En→Prop
 | e,[]=>e=0
 | e,x::st=>x.r+1=e∧x.s≤x.r∧chain x.s st
theorem chain_drop:∀ {st:List En} {e:Nat} (p:Nat),chain e st→p≤st.length→chain (if p=0 then e else (gi st ((p - 1:Nat):Int)).s) (st.drop p)∧(if p=0 then e else (gi st ((p - 1:Nat):Int)).s)≤e
 | st,e,0,h,_=>by simpa using h
 | [],e,p+1,h,hp=>by simp at hp
 | x::st,e,p+1,h,hp=>by
  obtain ⟨h1,h2,h3⟩:=h
  have ih:=chain_drop p h3 (by simpa using hp)
  have e1:(if p+1=0 then e else (gi (x::st) ((p+1 - 1:Nat):Int)).s)=(if p=0 then x.s else (gi st ((p - 1:Nat):Int)).s):=by
   cases p with
   | zero=>simp [gi]
   | succ p=>simp [gi]
  rw [e1]
  exact ⟨ih.1,by omega⟩
theorem chain_at:∀ {st:List En} {e:Nat} (k:Nat),chain e st→k<st.length→(gi st (k:Int)).r+1=(if k=0 then e else (gi st ((k - 1:Nat):Int)).s)∧(gi st (k:Int)).r<e∧(gi st (k:Int)).s≤(gi st (k:Int)).r
 | [],e,k,h,hk=>by simp at hk
 | x::st,e,0,h,hk=>by
  obtain ⟨h1,h2,h3⟩:=h
  simp [gi]
  omega
 | x::st,e,k+1,h,hk=>by
  obtain ⟨h1,h2,h3⟩:=h
  have ih:=chain_at k h3 (by simpa using hk)
  have e1:gi (x::st) ((k+1:Nat):Int)=gi st (k:Int):=by simp [gi]
  rw [e1]
  refine ⟨?_,by omega,ih.2.2⟩
  rw [ih.1]
  cases k with
  | zero=>simp [gi]
  | succ k=>simp [gi]
theorem stk_chain (l:List Nd):∀ i,goodN l i→chain i (stk l i)
 | 0,_=>rfl
 | i+1,h=>by
  have ih:=stk_chain l i (fun j hj=>h j (by omega))
  have:=chain_drop (pN (gi l i)) ih (h i (by omega)).2
  exact ⟨rfl,this.2,this.1⟩
theorem stk_en (l:List Nd):∀ i,∀ e∈stk l i,e.r<i∧e=enN l e.r
 | 0,e,h=>by cases h
 | i+1,e,h=>by
  rw [stk] at h
  rcases List.mem_cons.1 h with rfl|h
  ·exact ⟨Nat.lt_succ_self _,rfl⟩
  ·have:=stk_en l i e (List.mem_of_mem_drop h)
   exact ⟨by omega,this.2⟩
theorem stk_len (l:List Nd) (i:Nat) (h:pN (gi l i)≤(stk l i).length):(stk l (i+1)).length=(stk l i).length - pN (gi l i)+1:=by
 rw [stk]
 simp
theorem stk_le (l:List Nd):∀ i,(stk l i).length≤i
 | 0=>by simp [stk]
 | i+1=>by
  have:=stk_le l i
  rw [stk]
  simp
  omega
theorem goodN.sub {l:List Nd} {i j:Nat} (h:goodN l i) (hj:j≤i):goodN l j:=fun k hk=>h k (by omega)
def Begs (l:List Nd) (i:Nat) (S:List Int):Prop:=i≤S.length∧∀ r:Nat,r<i→gi S (r:Int)=((enN l r).s:Int)
theorem kid_at {l:List Nd} {i k:Nat} (h:goodN l i) (hk:k<(stk l i).length):(gi (stk l i) (k:Int)).r+1=(if k=0 then i else (gi (stk l i) ((k - 1:Nat):Int)).s)∧(gi (stk l i) (k:Int)).r<i∧gi (stk l i) (k:Int)=enN l (gi (stk l i) (k:Int)).r∧(gi (stk l i) (k:Int)).s≤(gi (stk l i) (k:Int)).r:=by
 have h1:=chain_at k (stk_chain l i h) hk
 have h2:=stk_en l i (gi (stk l i) (k:Int)) (by simp [gi,List.getD,hk])
 exact ⟨h1.1,h1.2.1,h2.2,h1.2.2⟩
def RowAt (H:AHeap) (sv:AV) (S:List Int):Prop:=sv=ints S∨∃ j g c,sv=.loc j g 0 S.length 1 c∧H[j]?=some (.cells g (i64s S))
theorem RowAt.app {H X:AHeap} {sv:AV} {S:List Int} (h:RowAt H sv S):RowAt (H++X) sv S:=by
 rcases h with rfl|⟨j,g,c,rfl,h⟩
 ·exact .inl rfl
 ·exact .inr ⟨j,g,c,rfl,by rw [List.getElem?_append_left (lt_of_get h)];exact h⟩
theorem RowAt.rl {H:AHeap} {sv:AV} {S:List Int} (h:RowAt H sv S) {n:Nat} (hn:H.length≤n):RL n sv:=by
 rcases h with rfl|⟨j,g,c,rfl,h⟩
 ·simp
 ·have:=lt_of_get h
  simp
  omega
theorem RowAt.get {H:AHeap} {sv:AV} {S:List Int} (h:RowAt H sv S) {k:Nat} (hk:k<S.length):∃ q,aIa 1 H sv (i64 k)=some q∧aload 1 false H q=some (i64 (gi S k)):=by
 rcases h with rfl|⟨j,g,c,rfl,h⟩
 ·refine ⟨.rptr [i64 (gi S k)],?_,rfl⟩
  rw [aIa_map,if_pos ⟨by omega,by omega,rfl⟩]
 ·refine ⟨.ptr j g (0+k*1),?_,?_⟩
  ·rw [aIa_loc,if_pos ⟨by omega,by omega⟩]
   simp [alive,h]
  ·have:=loadCs_drop (f:=fun n:Int=>AV.int IntKind.i64 n) hk
   simp [aload,h,this]
def begAll (l:List Nd):List Int:=(List.range l.length).map fun j=>((enN l j).s:Int)
theorem begAll_at {l:List Nd} {r:Nat} (h:r<l.length):gi (begAll l) (r:Int)=((enN l r).s:Int):=by
 simp [begAll,gi,List.getD,h]
theorem begs_all (l:List Nd) (i:Nat) (h:i≤l.length):Begs l i (begAll l):=⟨by simp [begAll];exact h,fun r hr=>begAll_at (by omega)⟩
theorem kids_lenN {l:List Nd} {i:Nat} (h:pN (gi l i)≤(stk l i).length):(kidsN l i).length=pN (gi l i):=by
 unfold kidsN
 simp
 omega
theorem kids_at {l:List Nd} {i k:Nat} (h:pN (gi l i)≤(stk l i).length) (hk:k<pN (gi l i)):gi (kidsN l i) (k:Int)=gi (stk l i) ((pN (gi l i) - 1 - k:Nat):Int):=by
 unfold kidsN
 generalize pN (gi l i)=p at *
 generalize stk l i=st at *
 simp only [gi,List.getD,Int.toNat_natCast]
 rw [List.getElem?_reverse (by simp;omega),List.length_take,List.getElem?_take,if_pos (by omega)]
 congr 2
 omega
theorem kids_r {l:List Nd} {i k:Nat} (h:pN (gi l i)≤(stk l i).length) (hk:k<pN (gi l i)):gi ((kidsN l i).map fun e=>(e.r:Int)) (k:Int)=((gi (kidsN l i) (k:Int)).r:Int):=by
 have:=kids_lenN h
 simp [gi,List.getD,show k<(kidsN l i).length by omega]
theorem kids_en {l:List Nd} {i k:Nat} (hg:goodN l (i+1)) (hk:k<pN (gi l i)):(gi (kidsN l i) (k:Int)).r<i∧gi (kidsN l i) (k:Int)=enN l (gi (kidsN l i) (k:Int)).r:=by
 have h:=(hg i (by omega)).2
 rw [kids_at h hk]
 have:=kid_at (l:=l) (i:=i) (k:=pN (gi l i) - 1 - k) (hg.sub (by omega)) (by omega)
 exact ⟨this.2.1,this.2.2.1⟩
theorem rev_take {α:Type} [Inhabited α] {b:List α} {k:Nat} (h:k<b.length):b.reverse.take (k+1)=b.reverse.take k++[gi b ((b.length - 1 - k:Nat):Int)]:=by
 rw [List.take_succ_eq_append_getElem (by simpa using h)]
 congr 1
 simp [gi,List.getD,List.getElem_reverse,show b.length - 1 - k<b.length by omega]
def rsK (st:List En) (k:Nat):List Int:=(st.take k).map fun e=>(e.r:Int)
theorem rsK_len {st:List En} {k:Nat} (h:k≤st.length):(rsK st k).length=k:=by simp [rsK];omega
theorem rsK_succ {st:List En} {k:Nat} (h:k<st.length):rsK st (k+1)=rsK st k++[((gi st (k:Int)).r:Int)]:=by
 unfold rsK
 rw [List.take_succ_eq_append_getElem h,List.map_append]
 simp [gi,List.getD,h]
theorem c73_ok:cFn Tryz.prog an0 Tryz.f73=some c73:=by kernel_rfl
theorem rkids_PF {l:List Nd} {i:Nat} {S:List Int} (hB:Begs l i S) (hg:goodN l (i+1)) (hi:i<l.length) (hl:l.length≤1048576) :
  PF Tryz.prog 73 [nds l,ints S,i64 i] (ints ((kidsN l i).map fun e=>(e.r:Int))):=by
 obtain ⟨hp0,hp⟩:=hg i (by omega)
 have hpe:partsN (gi l i)=(pN (gi l i):Int):=by unfold pN;omega
 have hkid:=fun k hk=>kid_at (l:=l) (i:=i) (k:=k) (hg.sub (by omega)) hk
 have hsl:=stk_le l i
 refine PFk 9 hm Tryz.func73 c73_ok (Nat.le_of_ble_eq_true rfl) (by simp) (by simp) ?_
 unfold kidsN
 generalize hst:stk l i=st at *
 have hpx:=parts46_PF (gi l i)
 rw [hpe] at hpx
 generalize hpp:pN (gi l i)=p at *
 generalize hQ:Rle 9 (ints (((st.take p).reverse).map fun e=>(e.r:Int)))=Q
 have hw1:IntKind.i64.wrap ((i:Int) - 1)=(i:Int) - 1:=w64 (by omega) (by omega)
 simp (maxSteps:=3000000) [go_sem,-List.length_flatten,-List.map_drop,-List.map_take,c73,hw1]
 refine run_loopK (fun m T H=>∃ (k g:Nat),m=p - k∧k≤p∧T=[(9,i64 k),(8,i64 ((if k=0 then (i:Int) else ((gi st ((k - 1:Nat):Int)).s:Int)) - 1)),(7,.loc 0 g 0 k 1 false),(0,nds l),(1,ints S),(2,i64 i)]∧H=[.cells g (i64s (rsK st k))]) p
  [(9,i64 (0:Nat)),(8,i64 ((i:Int) - 1)),(7,.loc 0 0 0 0 1 false),(0,nds l),(1,ints S),(2,i64 i)] [.cells 0 []]
  ((Wk.nil 7 1 (by simp [Tm.get])).trans (Wk.tell 1 (by omega) (by simp [Tm.get]) (by simp) (by simp) (by simp [RLB]))) ⟨0,0,rfl,by omega,rfl,rfl⟩ ?_
 rintro m T H ⟨k,g,rfl,hk,rfl,rfl⟩ KK kx kr kn
 have hilI:(i:Int)<l.length:=by omega
 simp (maxSteps:=3000000) [go_sem,-List.length_flatten,-List.map_drop,-List.map_take,hilI]
 refine PF.call hpx 9 (by simp [lePs]) ?_
 by_cases h:k<p
 ·obtain ⟨k1,k2,k3,k4⟩:=hkid k (by omega)
  have e0:((if k=0 then (i:Int) else ((gi st ((k - 1:Nat):Int)).s:Int)) - 1)=((gi st (k:Int)).r:Int):=by
   by_cases h0:k=0
   ·simp only [h0,if_true] at k1 ⊢;omega
   ·simp only [h0,if_false] at k1 ⊢;omega
  have hS2:=hB.1
  have hval:=hB.2 (gi st (k:Int)).r k2
  rw [←k3] at hval
  have hrS:(gi st (k:Int)).r<S.length:=by omega
  have hws:IntKind.i64.wrap (((gi st (k:Int)).s:Int) - 1)=((gi st (k:Int)).s:Int) - 1:=w64 (by omega) (by omega)
  have hkl:=rsK_len (st:=st) (k:=k) (by omega)
  have htk:=rsK_succ (st:=st) (k:=k) (by omega)
  have hap:=i64s_app (rsK st k) ((gi st (k:Int)).r:Int)
  rw [hkl,←htk] at hap
  rw [e0]
  have hwk:IntKind.i64.wrap ((k:Int)+1)=((k+1:Nat):Int):=nxt (n:=p) h (by unfold maxA;omega)
  generalize (gi st (k:Int)).r=r at *
  have hkA:k+1≤maxA:=by unfold maxA;omega
  simp (maxSteps:=3000000) [go_sem,-List.length_flatten,-List.map_drop,-List.map_take,Kc,h,hkl,hap,hrS,hval,hws,hkA]
  intros
  refine kn _ _ (Kl_next (p - (k+1)) 1 (by omega) ⟨k+1,g+1,rfl,h,rfl,rfl⟩ (by simp [Tm.get,hwk]) (by simp) (by simp) ⟨rlb_i64s,trivial⟩ (by omega))
 ·have:k=p:=by omega
  subst this
  have hkl:=rsK_len (st:=st) (k:=k) (by omega)
  have hrv:((st.take k).reverse).map (fun e=>(e.r:Int))=(rsK st k).reverse:=by simp [rsK]
  rw [hrv] at hQ
  generalize rsK st k=b at *
  have hw2:IntKind.i64.wrap ((k:Int) - 1)=(k:Int) - 1:=w64 (by omega) (by omega)
  simp (maxSteps:=3000000) [go_sem,-List.length_flatten,-List.map_drop,-List.map_take,Kc,kx,hw2]
  intros
  refine run_loopK (fun m T H=>∃ (q g2:Nat),m=k - q∧q≤k∧T=[(11,i64 ((k:Int) - 1 - q)),(10,.loc 1 g2 0 q 1 false),(7,.loc 0 g 0 k 1 false)]∧H=[.cells g (i64s b),.cells g2 (i64s (b.reverse.take q))]) k
   [(11,i64 ((k:Int) - 1 - (0:Nat))),(10,.loc 1 0 0 0 1 false),(7,.loc 0 g 0 k 1 false)] [.cells g (i64s b),.cells 0 []]
   ((Wk.nil 10 1 (by simp [Tm.get])).trans (Wk.tell 2 (by omega) (by simp [Tm.get]) (by simp) (by simp) ⟨rlb_i64s,by simp [RLB],trivial⟩)) ⟨0,0,rfl,by omega,rfl,by simp⟩ ?_
  rintro m T H ⟨q,g2,rfl,hq,rfl,rfl⟩ KK2 kx2 kr2 kn2
  by_cases h2:q<k
  ·obtain ⟨z,hz⟩:∃ z:Nat,(k:Int) - 1 - q=z:=⟨k - 1 - q,by omega⟩
   have hz2:z=b.length - 1 - q:=by omega
   have hzk:z<k:=by omega
   have hld:=loadCs_drop (f:=fun n:Int=>AV.int IntKind.i64 n) (l:=b) (k:=z) (by omega)
   have hrt:=rev_take (b:=b) (k:=q) (by omega)
   rw [←hz2] at hrt
   have hql:(b.reverse.take q).length=q:=by simp;omega
   have hap:=i64s_app (b.reverse.take q) (gi b (z:Int))
   rw [hql,←hrt] at hap
   have hwz:IntKind.i64.wrap ((z:Int) - 1)=(k:Int) - 1 - ((q+1:Nat):Int):=by rw [w64 (by omega) (by omega)];omega
   have hqA:q+1≤maxA:=by unfold maxA;omega
   have hz0:(0:Int)≤z:=by omega
   rw [hz]
   generalize hL:b.reverse.take q=L at *
   simp (maxSteps:=3000000) [go_sem,-List.length_flatten,-List.map_drop,-List.map_take,hzk,↓hld,hap,hql,hqA,hz0]
   intros
   refine kn2 _ _ (Kl_next (k - (q+1)) 2 (by omega) ⟨q+1,g2+1,rfl,h2,rfl,rfl⟩ (by simp [Tm.get,hwz]) (by simp) (by simp) ⟨rlb_i64s,rlb_i64s,trivial⟩ (by omega))
  ·have:q=k:=by omega
   subst this
   have e11:(q:Int) - 1 - q=-1:=by omega
   rw [e11]
   have e:b.reverse.take q=b.reverse:=List.take_of_length_le (by simp;omega)
   rw [e]
   have hl2:q=b.reverse.length:=by simp [hkl]
   generalize b.reverse=s at *
   simp (maxSteps:=3000000) [go_sem,-List.length_flatten,-List.map_drop,-List.map_take,kx2]
   rw [←hQ,hl2]
   simp (maxSteps:=3000000) [go_sem,-List.length_flatten,-List.map_drop,-List.map_take]
   rw [chunk_one]
   simp [Function.comp_def]
def begsT (l:List Nd) (i:Nat):List Int:=(List.range i).map fun j=>((enN l j).s:Int)
theorem begsT_len (l:List Nd) (i:Nat):(begsT l i).length=i:=by simp [begsT]
theorem begsT_at {l:List Nd} {i r:Nat} (h:r<i):gi (begsT l i) (r:Int)=((enN l r).s:Int):=by simp [begsT,gi,List.getD,h]
theorem begsT_succ (l:List Nd) (i:Nat):begsT l (i+1)=begsT l i++[((enN l i).s:Int)]:=by simp [begsT,List.range_succ]
theorem c72_ok:cFn Tryz.prog an0 Tryz.f72=some c72:=by kernel_rfl
theorem rstarts_PF {l:List Nd} (hg:goodN l l.length) (hl:l.length≤1048576):PF Tryz.prog 72 [nds l] (ints (begAll l)):=by
 refine PFk 9 hm Tryz.func72 c72_ok (Nat.le_of_ble_eq_true rfl) (by simp) (by simp) ?_
 generalize hQ:Rle 9 (ints (begAll l))=Q
 simp (maxSteps:=3000000) [go_sem,-List.length_flatten,-List.map_drop,-List.map_take,c72]
 refine run_loopK (fun m T H=>∃ (i g:Nat),m=l.length - i∧i≤l.length∧T=[(4,i64 i),(3,.loc 0 g 0 i 1 false),(0,nds l)]∧H=[.cells g (i64s (begsT l i))]) l.length
  [(4,i64 (0:Nat)),(3,.loc 0 0 0 0 1 false),(0,nds l)] [.cells 0 []]
  ((Wk.nil 3 1 (by simp [Tm.get])).trans (Wk.tell 1 (by omega) (by simp [Tm.get]) (by simp) (by simp) (by simp [RLB]))) ⟨0,0,rfl,by omega,rfl,rfl⟩ ?_
 rintro m T H ⟨i,g,rfl,hi,rfl,rfl⟩ KK kx kr kn
 by_cases h:i<l.length
 ·obtain ⟨hp0,hp⟩:=hg i h
  have hpe:partsN (gi l i)=(pN (gi l i):Int):=by unfold pN;omega
  have hkid:=fun k hk=>kid_at (l:=l) (i:=i) (k:=k) (hg.sub (by omega)) hk
  have hsl:=stk_le l i
  have hss:((enN l i).s:Int)=if pN (gi l i)=0 then (i:Int) else ((gi (stk l i) ((pN (gi l i) - 1:Nat):Int)).s:Int):=by
   unfold enN mkEn
   simp only
   split<;>rfl
  generalize hst:stk l i=st at *
  have hpx:=parts46_PF (gi l i)
  rw [hpe] at hpx
  generalize hpp:pN (gi l i)=p at *
  have hbl:=begsT_len l i
  have hap:=i64s_app (begsT l i) ((enN l i).s:Int)
  rw [hbl,←begsT_succ] at hap
  have hilI:(i:Int)<l.length:=by omega
  have hiA:i+1≤maxA:=by unfold maxA;omega
  simp (maxSteps:=3000000) [go_sem,-List.length_flatten,-List.map_drop,-List.map_take,hilI]
  intro hA
  refine run_loopK (fun m T H=>∃ k:Nat,m=p - k∧k≤p∧T=[(6,i64 k),(5,i64 (if k=0 then (i:Int) else ((gi st ((k - 1:Nat):Int)).s:Int))),(4,i64 i),(3,.loc 0 g 0 i 1 false),(0,nds l)]∧H=[.cells g (i64s (begsT l i))]) p
   [(6,i64 (0:Nat)),(5,i64 i),(4,i64 i),(3,.loc 0 g 0 i 1 false),(0,nds l)] [.cells g (i64s (begsT l i))]
   (Wk.tell 1 (by omega) (by simp [Tm.get]) (by simp) (by simp) ⟨rlb_i64s,trivial⟩) ⟨0,rfl,by omega,rfl,rfl⟩ ?_
  rintro m T H ⟨k,rfl,hk,rfl,rfl⟩ KK2 kx2 kr2 kn2
  simp (maxSteps:=3000000) [go_sem,-List.length_flatten,-List.map_drop,-List.map_take,hilI]
  refine PF.call hpx 9 (by simp [lePs]) ?_
  by_cases h2:k<p
  ·obtain ⟨k1,k2,k3,k4⟩:=hkid k (by omega)
   have e0:IntKind.i64.wrap ((if k=0 then (i:Int) else ((gi st ((k - 1:Nat):Int)).s:Int)) - 1)=((gi st (k:Int)).r:Int):=by
    by_cases h0:k=0
    ·simp only [h0,if_true] at k1 ⊢;rw [w64 (by omega) (by omega)];omega
    ·simp only [h0,if_false] at k1 ⊢;rw [w64 (by omega) (by omega)];omega
   have hval:=begsT_at (l:=l) (i:=i) (r:=(gi st (k:Int)).r) k2
   rw [←k3] at hval
   have hld:=loadCs_drop (f:=fun n:Int=>AV.int IntKind.i64 n) (l:=begsT l i) (k:=(gi st (k:Int)).r) (by omega)
   rw [hval] at hld
   have hwk:IntKind.i64.wrap ((k:Int)+1)=((k+1:Nat):Int):=nxt (n:=p) h2 (by unfold maxA;omega)
   simp (maxSteps:=3000000) [go_sem,-List.length_flatten,-List.map_drop,-List.map_take,Kc,h2,e0,k2,↓hld]
   refine kn2 _ _ (Kl_next (p - (k+1)) 1 (by omega) ⟨k+1,rfl,h2,rfl,rfl⟩ (by simp [Tm.get,hwk]) (by simp) (by simp) ⟨rlb_i64s,trivial⟩ (by omega))
  ·have:k=p:=by omega
   subst this
   rw [←hss]
   simp (maxSteps:=3000000) [go_sem,-List.length_flatten,-List.map_drop,-List.map_take,Kc,kx2,hbl,hap,hiA]
   intros
   refine kn _ _ (Kl_next (l.length - (i+1)) 1 (by omega) ⟨i+1,g+1,rfl,h,rfl,rfl⟩ (by simp [Tm.get,nxt h hA]) (by simp) (by simp) ⟨rlb_i64s,trivial⟩ (by omega))
 ·have:i=l.length:=by omega
  subst this
  have e:begsT l l.length=begAll l:=rfl
  have hbl:=begsT_len l l.length
  rw [e] at hbl ⊢
  simp (maxSteps:=3000000) [go_sem,-List.length_flatten,-List.map_drop,-List.map_take,kx,h]
  rw [←hQ]
  generalize begAll l=s at *
  rw [←hbl]
  simp (maxSteps:=3000000) [go_sem,-List.length_flatten,-List.map_drop,-List.map_take]
  rw [chunk_one]
  simp [Function.comp_def]
abbrev strL (l:List ByteArray):List AV:=l.map AV.str
def txts (l:List Nd) (i:Nat):List ByteArray:=(List.range i).map fun j=>(enN l j).t
def dps (l:List Nd) (i:Nat):List Int:=(List.range i).map fun j=>(enN l j).d
theorem txts_len (l:List Nd) (i:Nat):(txts l i).length=i:=by simp [txts]
theorem txts_at {l:List Nd} {i r:Nat} (h:r<i):gi (txts l i) (r:Int)=(enN l r).t:=by simp [txts,gi,List.getD,h]
theorem txts_succ (l:List Nd) (i:Nat):txts l (i+1)=txts l i++[(enN l i).t]:=by simp [txts,List.range_succ]
theorem rlb_strL {n g:Nat} {l:List ByteArray}:RLB n (.cells g (strL l)):=by
 intro y hy
 obtain ⟨b,_,rfl⟩:=List.mem_map.1 hy
 exact .str b
theorem strL_app (l:List ByteArray) (x:ByteArray):List.take l.length (strL l)++[AV.str x]=strL (l++[x]):=by
 rw [List.take_of_length_le (by simp)]
 simp
structure Wr (H:AHeap) (j g0 k1 g1 k2 g2:Nat) (l:List Nd) (i:Nat):Prop where
 w:H[j]?=some (.cells g0 [nds l,ints (begAll l),.loc k1 g1 0 i 1 false,.loc k2 g2 0 i 1 false])
 t:H[k1]?=some (.cells g1 (strL (txts l i)))
 d:H[k2]?=some (.cells g2 (i64s (dps l i)))
 rl:∀ b∈H,RLB H.length b
structure Shp (l:List Nd):Prop where
 good:goodN l l.length
 two:∀ j:Nat,j<l.length→two (gi l j).kind=true→pN (gi l j)=2
 six:∀ j:Nat,j<l.length→(gi l j).kind=6→pN (gi l j)=1∧0≤(gi l j).n∧(gi l j).n<10
 kinds:∀ j:Nat,j<l.length→0≤(gi l j).kind∧(gi l j).kind≤6
 len:l.length≤1048576
 size:l.foldl (fun s x=>s+(x.name.size+12)) 0≤1099511627776
def wsum (l:List Nd) (i:Nat):Nat:=(l.take i).foldl (fun s x=>s+(x.name.size+12)) 0
theorem wsum_succ {l:List Nd} {i:Nat} (h:i<l.length):wsum l (i+1)=wsum l i+((gi l i).name.size+12):=foldl_take _ _ _ _ h
theorem wsum_le (l:List Nd) (i:Nat):wsum l i≤l.foldl (fun s x=>s+(x.name.size+12)) 0:=by
 have:∀ (l:List Nd) (s:Nat),s≤l.foldl (fun s x=>s+(x.name.size+12)) s:=by
  intro l
  induction l with
  | nil=>intro s;exact Nat.le_refl _
  | cons x l ih=>intro s;exact Nat.le_trans (Nat.le_add_right s (x.name.size+12)) (ih _)
 unfold wsum
 conv=>rhs;rw [←List.take_append_drop i l,List.foldl_append]
 exact this _ _
def tsum (st:List En):Nat:=(st.map fun e=>e.t.size+3).sum
theorem tsum_app (a b:List En):tsum (a++b)=tsum a+tsum b:=by simp [tsum]
theorem tsum_rev (a:List En):tsum a.reverse=tsum a:=by simp [tsum,List.map_reverse,List.sum_reverse]
theorem tsum_mem {st:List En} {e:En} (h:e∈st):e.t.size+3≤tsum st:=by
 obtain ⟨a,b,rfl⟩:=List.append_of_mem h
 simp only [tsum,List.map_append,List.map_cons,List.sum_append,List.sum_cons]
 omega
theorem join_size:∀ ks:List En,(joinB (ks.map (·.t))).size≤tsum ks
 | []=>Nat.zero_le _
 | [x]=>by simp [joinB,tsum]
 | x::y::ks=>by
  have ih:=join_size (y::ks)
  simp only [List.map_cons,joinB,ByteArray.size_append] at ih ⊢
  simp only [tsum,List.map_cons,List.sum_cons] at ih ⊢
  have:(⟨#[44]⟩:ByteArray).size=1:=rfl
  omega
theorem brT_size (b:Bool) (t:ByteArray):(brT b t).size≤t.size+2:=by
 unfold brT
 split
 ·simp only [ByteArray.size_append]
  have:(⟨#[40]⟩:ByteArray).size=1:=rfl
  have:(⟨#[41]⟩:ByteArray).size=1:=rfl
  omega
 ·omega
theorem txtN_size {x:Nd} {ks:List En} (h2:two x.kind=true→ks.length=2) (h6:x.kind=6→ks.length=1):(txtN x ks).size+3≤tsum ks+(x.name.size+12):=by
 have s1:∀ c:UInt8,(⟨#[c]⟩:ByteArray).size=1:=fun c=>rfl
 unfold txtN
 split
 ·simp only [s1];omega
 split
 ·simp only [s1];omega
 split
 ·split
  ·omega
  ·have:=join_size ks
   simp only [ByteArray.size_append,s1]
   omega
 split
 ·rename_i h
  have hl:=h2 h
  match ks,hl with
  | [a,b],_ =>
   have b1:=brT_size (brk x.kind true a) a.t
   have b2:=brT_size (brk x.kind false b) b.t
   simp only [ByteArray.size_append,s1]
   simp only [gi,tsum,List.getD,List.map_cons,List.map_nil,List.sum_cons,List.sum_nil] at *
   simp at *
   omega
 split
 ·rename_i h
  have hl:=h6 h
  match ks,hl with
  | [a],_ =>
   have b1:=brT_size true a.t
   simp only [ByteArray.size_append,s1]
   simp only [gi,tsum,List.getD,List.map_cons,List.map_nil,List.sum_cons,List.sum_nil] at *
   simp at *
   omega
 ·omega
theorem Shp.tsum {l:List Nd} (h:Shp l):∀ i,i≤l.length→Go.AM.tsum (stk l i)≤wsum l i
 | 0,_=>by simp [stk,Go.AM.tsum]
 | i+1,hi=>by
  have ih:=h.tsum i (by omega)
  have hp:=(h.good i (by omega)).2
  have hk:=kids_lenN hp
  have:=txtN_size (x:=gi l i) (ks:=kidsN l i) (fun e=>by rw [hk];exact h.two i (by omega) e) (fun e=>by rw [hk];exact (h.six i (by omega) e).1)
  rw [wsum_succ (by omega),stk]
  have e1:Go.AM.tsum (stk l i)=Go.AM.tsum (kidsN l i)+Go.AM.tsum ((stk l i).drop (pN (gi l i))):=by
   unfold kidsN
   rw [tsum_rev,←tsum_app,List.take_append_drop]
  have e2:Go.AM.tsum (mkEn (gi l i) i (stk l i)::(stk l i).drop (pN (gi l i)))=((txtN (gi l i) (kidsN l i)).size+3)+Go.AM.tsum ((stk l i).drop (pN (gi l i))):=by
   simp only [Go.AM.tsum,List.map_cons,List.sum_cons]
   rfl
  rw [e2]
  omega
theorem Shp.tx {l:List Nd} (h:Shp l) {i:Nat} (hi:i<l.length):(enN l i).t.size+3≤1099511627776:=by
 have h1:=h.tsum (i+1) hi
 have h2:=wsum_le l (i+1)
 have h3:=tsum_mem (st:=stk l (i+1)) (e:=enN l i) (by rw [stk];exact List.mem_cons_self)
 have:=h.size
 omega
theorem Wr.app {H X:AHeap} {j g0 k1 g1 k2 g2:Nat} {l:List Nd} {i:Nat} (h:Wr H j g0 k1 g1 k2 g2 l i) (hX:∀ b∈X,RLB (H++X).length b):Wr (H++X) j g0 k1 g1 k2 g2 l i:=by
 refine ⟨?_,?_,?_,fun b hb=>?_⟩
 ·rw [List.getElem?_append_left (lt_of_get h.w)];exact h.w
 ·rw [List.getElem?_append_left (lt_of_get h.t)];exact h.t
 ·rw [List.getElem?_append_left (lt_of_get h.d)];exact h.d
 ·rcases List.mem_append.1 hb with hb|hb
  ·exact RLB_mono (by simp) (h.rl b hb)
  ·exact hX b hb
theorem Shp.kids {l:List Nd} (h:Shp l) {i k:Nat} (hi:i<l.length) (hk:k<pN (gi l i)):(gi (kidsN l i) (k:Int)).r<i∧gi (kidsN l i) (k:Int)=enN l (gi (kidsN l i) (k:Int)).r:=kids_en (h.good.sub hi) hk
def bw (c:UInt8):Int:=if c=40 then 1 else if c=41 then -1 else 0
def ol:List UInt8→Int
 | []=>0
 | c::l=>bw c+ol l
def od:List UInt8→Int
 | []=>0
 | c::l=>if 0≤bw c+od l then bw c+od l else 0
theorem od_nonneg:∀ l,0≤od l
 | []=>by simp [od]
 | c::l=>by rw [od];split<;>omega
theorem ol_app:∀ a b,ol (a++b)=ol a+ol b
 | [],b=>by simp [ol]
 | c::a,b=>by
  have:=ol_app a b
  simp only [List.cons_append,ol]
  omega
theorem od_app:∀ a b,od (a++b)=if od a≤ol a+od b then ol a+od b else od a
 | [],b=>by
  have:=od_nonneg b
  simp [od,ol,this]
 | c::a,b=>by
  have h:=od_app a b
  have:=od_nonneg a
  simp only [List.cons_append,od,ol,h]
  repeat' split
  all_goals omega
theorem ol_take_le:∀ (l:List UInt8) (i:Nat),ol (l.take i)≤od l
 | [],i=>by simp [ol,od]
 | c::l,0=>by simp only [List.take_zero,ol];exact od_nonneg _
 | c::l,i+1=>by
  have:=ol_take_le l i
  simp only [List.take_succ_cons,ol,od]
  split<;>omega
theorem od_take:∀ l:List UInt8,∃ i,i≤l.length∧ol (l.take i)=od l
 | []=>⟨0,by simp,rfl⟩
 | c::l=>by
  obtain ⟨i,h1,h2⟩:=od_take l
  by_cases h:0≤bw c+od l
  ·exact ⟨i+1,by simpa using h1,by simp only [List.take_succ_cons,ol,od,if_pos h,h2]⟩
  ·exact ⟨0,by simp,by simp only [List.take_zero,ol,od,if_neg h]⟩
def Bal (t:ByteArray) (d:Int):Prop:=ol t.data.toList=0∧od t.data.toList=d
theorem bal_plain {t:ByteArray} (h:∀ c∈t.data.toList,c≠40∧c≠41):Bal t 0:=by
 have:∀ l:List UInt8,(∀ c∈l,c≠40∧c≠41)→ol l=0∧od l=0:=by
  intro l
  induction l with
  | nil=>intro _;exact ⟨rfl,rfl⟩
  | cons c l ih =>
   intro h
   obtain ⟨h1,h2⟩:=ih (fun x hx=>h x (by simp [hx]))
   obtain ⟨h3,h4⟩:=h c (by simp)
   simp [ol,od,bw,h1,h2,h3,h4]
 exact this _ h
theorem Bal.app {a b:ByteArray} {x y:Int} (ha:Bal a x) (hb:Bal b y):Bal (a++b) (if x≤y then y else x):=by
 obtain ⟨a1,a2⟩:=ha
 obtain ⟨b1,b2⟩:=hb
 refine ⟨by simp [ol_app,a1,b1],?_⟩
 simp only [ByteArray.data_append,Array.toList_append,od_app,a1,a2,b2,Int.zero_add]
theorem Bal.br {t:ByteArray} {d:Int} (h:Bal t d):Bal (⟨#[40]⟩++t++⟨#[41]⟩) (d+1):=by
 obtain ⟨h1,h2⟩:=h
 have hn:=od_nonneg t.data.toList
 rw [h2] at hn
 refine ⟨by simp [ol_app,ol,bw,h1],?_⟩
 simp only [ByteArray.data_append,Array.toList_append,od_app,ol_app,h1,h2]
 simp [ol,od,bw]
 omega
theorem Bal.pos {t:ByteArray} {d:Int} (h:Bal t d):0≤d:=h.2▸od_nonneg _
theorem bal_c (c:UInt8) (h:c≠40∧c≠41):Bal ⟨#[c]⟩ 0:=bal_plain (fun x hx=>by simp at hx;subst hx;exact h)
theorem bal_brT {t:ByteArray} {d:Int} (b:Bool) (h:Bal t d):Bal (brT b t) (brD b d):=by
 cases b
 ·exact h
 ·exact h.br
theorem maxD_from (ks:List En):∀ m:Int,0≤m→(∀ e∈ks,0≤e.d)→ks.foldl (fun m e=>if m<e.d then e.d else m) m=if m<maxD ks then maxD ks else m:=by
 induction ks with
 | nil=>intro m hm _;simp [maxD];omega
 | cons e ks ih =>
  intro m hm h
  have h1:=ih (if m<e.d then e.d else m) (by split<;>omega) (fun x hx=>h x (by simp [hx]))
  have h2:=ih (if 0<e.d then e.d else 0) (by split<;>omega) (fun x hx=>h x (by simp [hx]))
  have:=h e (by simp)
  have e3:maxD (e::ks)=ks.foldl (fun m e=>if m<e.d then e.d else m) (if 0<e.d then e.d else 0):=rfl
  rw [e3,h2,List.foldl_cons,h1]
  repeat' split
  all_goals omega
theorem maxD_cons {e:En} {ks:List En} (h:∀ x∈e::ks,0≤x.d):maxD (e::ks)=if e.d<maxD ks then maxD ks else e.d:=by
 have e3:maxD (e::ks)=ks.foldl (fun m e=>if m<e.d then e.d else m) (if 0<e.d then e.d else 0):=rfl
 have:=h e (by simp)
 rw [e3,maxD_from ks _ (by split<;>omega) (fun x hx=>h x (by simp [hx]))]
 repeat' split
 all_goals omega
theorem bal_join:∀ {ks:List En},(∀ e∈ks,Bal e.t e.d)→Bal (joinB (ks.map (·.t))) (maxD ks)
 | [],_=>⟨rfl,rfl⟩
 | [e],h=>by
  have he:=h e (by simp)
  have:=he.pos
  have e1:maxD [e]=e.d:=by simp only [maxD,List.foldl_cons,List.foldl_nil];split<;>omega
  rw [e1]
  exact he
 | e::e'::ks,h=>by
  have ih:=bal_join (ks:=e'::ks) (fun x hx=>h x (by simp at hx ⊢;exact .inr hx))
  have he:=h e (by simp)
  have hp:=he.pos
  have hip:=ih.pos
  have hc:=(bal_c 44 (by decide)).app ih
  have:=he.app hc
  rw [maxD_cons (fun x hx=>(h x hx).pos)]
  have e1:(if e.d≤(if (0:Int)≤maxD (e'::ks) then maxD (e'::ks) else 0) then (if (0:Int)≤maxD (e'::ks) then maxD (e'::ks) else 0) else e.d)=(if e.d<maxD (e'::ks) then maxD (e'::ks) else e.d):=by
   rw [if_pos hip]
   repeat' split
   all_goals omega
  rw [e1] at this
  exact this
theorem bal_txt {x:Nd} {ks:List En} (hn:Bal x.name 0) (hk:∀ e∈ks,Bal e.t e.d) (h2:two x.kind=true→ks.length=2) (h6:x.kind=6→ks.length=1∧x.n<10):Bal (txtN x ks) (dpN x ks):=by
 have z:∀ {t:ByteArray} {d:Int},0≤d→Bal t (if (0:Int)≤d then d else 0)→Bal t d:=fun hd h=>by rwa [if_pos hd] at h
 unfold txtN dpN
 by_cases k0:x.kind=0
 ·simp [k0,two];exact bal_c 48 (by decide)
 by_cases k1:x.kind=1
 ·simp [k1,two];exact bal_c 49 (by decide)
 by_cases k3:x.kind=3
 ·simp only [k3]
  by_cases n0:x.n=0
  ·simp [n0];exact hn
  ·simp only [n0,if_false,if_true]
   have hj:=bal_join hk
   have:=hn.app hj.br
   have hp:=hj.pos
   rw [if_pos (by omega)] at this
   have e:x.name++⟨#[40]⟩++joinB (ks.map (·.t))++⟨#[41]⟩=x.name++(⟨#[40]⟩++joinB (ks.map (·.t))++⟨#[41]⟩):=by simp only [ByteArray.append_assoc]
   simp only [show ¬ ((3:Int)=0) by decide,show ¬ ((3:Int)=1) by decide,if_false]
   rw [e]
   exact this
 by_cases kt:two x.kind=true
 ·simp only [if_neg k0,if_neg k1,if_neg k3,if_pos kt]
  have hl:=h2 kt
  match ks,hl with
  | [a,b],_ =>
   have ha:=bal_brT (brk x.kind true a) (hk a (by simp))
   have hb:=bal_brT (brk x.kind false b) (hk b (by simp))
   have hc:Bal ⟨#[if x.kind=4 then 124 else 38]⟩ 0:=bal_c _ (by split<;>decide)
   have:=(ha.app hc).app hb
   have pa:=ha.pos
   have pb:=hb.pos
   have g0:gi [a,b] 0=a:=rfl
   have g1:gi [a,b] 1=b:=rfl
   rw [g0,g1]
   generalize brD (brk x.kind true a) a.d=u at *
   generalize brD (brk x.kind false b) b.d=v at *
   have e:(if (if u≤0 then (0:Int) else u)≤v then v else (if u≤0 then (0:Int) else u))=if u<v then v else u:=by
    repeat' split
    all_goals omega
   rw [e] at this
   exact this
 by_cases k6:x.kind=6
 ·obtain ⟨hl,hx⟩:=h6 k6
  match ks,hl with
  | [a],_ =>
   have ha:=(hk a (by simp)).br
   have hd:Bal ⟨#[UInt8.ofNat (48+x.n.toNat)]⟩ 0:=bal_c _ (by
    have hlt:x.n.toNat<10:=by omega
    generalize x.n.toNat=n at *
    match n,hlt with
    | 0,_=>decide
    | 1,_=>decide
    | 2,_=>decide
    | 3,_=>decide
    | 4,_=>decide
    | 5,_=>decide
    | 6,_=>decide
    | 7,_=>decide
    | 8,_=>decide
    | 9,_=>decide)
   have:=((hn.app (bal_c 126 (by decide))).app hd).app ha
   have pa:=ha.pos
   simp only [if_neg k0,if_neg k1,if_neg k3,if_neg kt,if_pos k6]
   have g0:gi [a] 0=a:=rfl
   rw [g0]
   simp only [Int.le_refl,if_true] at this
   rw [if_pos pa] at this
   exact this
 ·simp only [if_neg k0,if_neg k1,if_neg k3,if_neg kt,if_neg k6]
  exact hn
theorem c119_ok:cFn Tryz.prog an0 Tryz.f119=some c119:=by kernel_rfl
theorem side_FT {H:AHeap} {k1 g1:Nat} {l:List Nd} {i r:Nat} (ht:H[k1]?=some (.cells g1 (strL (txts l i)))) (hR:∀ b∈H,RLB H.length b) (hs:Shp l) (hi:i≤l.length) (hr:r<i) (kind:Int) (fst:Bool) :
  FT Tryz.prog 119 [nds l,.loc k1 g1 0 i 1 false,i64 r,i64 kind,.bool fst] H (fun rv H'=>rv=.str (brT (brk kind fst (enN l r)) (enN l r).t)∧H'=H):=by
 refine FTt hm Tryz.func119 c119_ok (Nat.le_of_ble_eq_true rfl) ?_
 have hl1:=loadCs_drop (f:=fun s:ByteArray=>AV.str s) (l:=txts l i) (k:=r) (by rw [txts_len];exact hr)
 rw [txts_at hr] at hl1
 have hts:=hs.tx (i:=r) (by omega)
 have hk:(enN l r).k=(gi l r).kind:=rfl
 have hrl:r<l.length:=by omega
 have hb:∀ b:Bool,brk kind fst (enN l r)=b→((two (gi l r).kind&&(!fst||decide ((gi l r).kind≠kind)))=b):=fun b h=>h
 by_cases h4:(gi l r).kind=4
 ·cases fst
  ·simp (maxSteps:=3000000) [go_sem,-List.length_flatten,-List.map_drop,-List.map_take,c119,ht,hr,hrl,h4,↓hl1]
   refine ⟨by omega,by omega,hR,?_⟩
   simp [brk,two,hk,h4,brT]
  ·by_cases he:kind=4
   ·have he2:(4:Int)=kind:=he.symm
    simp (maxSteps:=3000000) [go_sem,-List.length_flatten,-List.map_drop,-List.map_take,c119,ht,hr,hrl,h4,↓hl1,he]
    refine ⟨hR,?_⟩
    simp [brk,two,hk,h4,brT]
   ·have he2:¬ (4:Int)=kind:=fun e=>he e.symm
    simp (maxSteps:=3000000) [go_sem,-List.length_flatten,-List.map_drop,-List.map_take,c119,ht,hr,hrl,h4,↓hl1,he2]
    refine ⟨by omega,by omega,hR,?_⟩
    simp [brk,two,hk,h4,brT,he2]
 by_cases h5:(gi l r).kind=5
 ·cases fst
  ·simp (maxSteps:=3000000) [go_sem,-List.length_flatten,-List.map_drop,-List.map_take,c119,ht,hr,hrl,h5,↓hl1]
   refine ⟨by omega,by omega,hR,?_⟩
   simp [brk,two,hk,h5,brT]
  ·by_cases he:kind=5
   ·simp (maxSteps:=3000000) [go_sem,-List.length_flatten,-List.map_drop,-List.map_take,c119,ht,hr,hrl,h5,↓hl1,he]
    refine ⟨hR,?_⟩
    simp [brk,two,hk,h5,brT]
   ·have he2:¬ (5:Int)=kind:=fun e=>he e.symm
    simp (maxSteps:=3000000) [go_sem,-List.length_flatten,-List.map_drop,-List.map_take,c119,ht,hr,hrl,h5,↓hl1,he2]
    refine ⟨by omega,by omega,hR,?_⟩
    simp [brk,two,hk,h5,brT,he2]
 ·simp (maxSteps:=3000000) [go_sem,-List.length_flatten,-List.map_drop,-List.map_take,c119,ht,hr,hrl,h4,h5,↓hl1]
  refine ⟨hR,?_⟩
  simp [brk,two,hk,h4,h5,brT]
theorem c120_ok:cFn Tryz.prog an0 Tryz.f120=some c120:=by kernel_rfl
theorem figure_PF (n:Int) (h:0≤n∧n<10):PF Tryz.prog 120 [i64 n] (.str ⟨#[UInt8.ofNat (48+n.toNat)]⟩):=by
 refine PFk 9 hm Tryz.func120 c120_ok (Nat.le_of_ble_eq_true rfl) (by simp) (by simp) ?_
 have hw:IntKind.i64.wrap (48+n)=48+n:=w64 (by omega) (by omega)
 have hw2:IntKind.u8.wrap (48+n)=48+n:=by
  have:∀ x:Int,IntKind.u8.wrap x=x%256:=fun x=>by simp [IntKind.wrap,IntKind.bits,IntKind.signed]
  rw [this]
  omega
 have hw3:(48+n).toNat=48+n.toNat:=by omega
 simp (maxSteps:=3000000) [go_sem,-List.length_flatten,-List.map_drop,-List.map_take,c120,hw,hw2,aB2s,bytesA,hw3]
def sK (name:ByteArray) (ks:List En):Nat→ByteArray
 | 0=>name
 | k+1=>sK name ks k++⟨#[if k=0 then 40 else 44]⟩++(gi ks (k:Int)).t
theorem joinB_snoc:∀ (xs:List ByteArray) (y:ByteArray),xs≠[]→joinB (xs++[y])=joinB xs++⟨#[44]⟩++y
 | [],y,h=>absurd rfl h
 | [x],y,_=>by simp only [List.cons_append,List.nil_append,joinB,ByteArray.append_assoc]
 | x::x'::xs,y,_=>by
  have ih:=joinB_snoc (x'::xs) y (by simp)
  simp only [List.cons_append,joinB] at ih ⊢
  rw [ih]
  simp only [ByteArray.append_assoc]
theorem sK_join (name:ByteArray) (ks:List En):∀ k,k<ks.length→sK name ks (k+1)=name++⟨#[40]⟩++joinB ((ks.take (k+1)).map (·.t))
 | 0,h=>by
  match ks,h with
  | e::ks,_=>simp [sK,joinB,gi]
 | k+1,h=>by
  have ih:=sK_join name ks k (by omega)
  rw [sK,ih,if_neg (by omega),List.take_succ_eq_append_getElem h,List.map_append,List.map_cons,List.map_nil,joinB_snoc _ _ (by
   intro e
   have h3:0<((ks.take (k+1)).map (·.t)).length:=by simp;omega
   rw [e] at h3
   simp at h3)]
  have e:gi ks ((k+1:Nat):Int)=ks[k+1]:=by simp only [gi,List.getD,Int.toNat_natCast];simp [h]
  rw [e]
  simp only [ByteArray.append_assoc]
theorem sK_size {name:ByteArray} {ks:List En} (hn:name.size≤1099511627776) (hk:∀ k:Nat,k<ks.length→(gi ks (k:Int)).t.size≤1099511627776):∀ k,k≤ks.length→(sK name ks k).size≤1099511627776+k*1099511627777
 | 0,_=>by simpa [sK] using hn
 | k+1,h=>by
  have ih:=sK_size hn hk k (by omega)
  have:=hk k (by omega)
  have s1:∀ c:UInt8,(⟨#[c]⟩:ByteArray).size=1:=fun c=>rfl
  rw [sK]
  simp only [ByteArray.size_append,s1]
  omega
def an89:An:=⟨[2000069,2000076,2000085,2000092],[30]⟩
theorem c89_ok:cFn Tryz.prog an89 Tryz.f89=some c89:=by kernel_rfl
set_option maxHeartbeats 4000000 in
theorem rtext_PF {l:List Nd} (hs:Shp l) (h0:0<l.length):PF Tryz.prog 89 [nds l] (.str (enN l (l.length - 1)).t):=by
 refine PFk 9 hm Tryz.func89 c89_ok (Nat.le_of_ble_eq_true rfl) (by simp) (by simp) ?_
 generalize hQ:Rle 9 (.str (enN l (l.length - 1)).t)=Q
 have hln:=hs.len
 simp (maxSteps:=3000000) [go_sem,-List.length_flatten,-List.map_drop,-List.map_take,c89]
 refine PF.call (rstarts_PF hs.good hln) 9 (by simp [lePs]) ?_
 simp (maxSteps:=3000000) [go_sem,-List.length_flatten,-List.map_drop,-List.map_take,Kc]
 refine run_loopK (fun m T H=>∃ (i g:Nat),m=l.length - i∧i≤l.length∧T=[(5,i64 i),(4,.loc 0 g 0 i 1 false),(3,ints (begAll l)),(0,nds l)]∧H=[.cells g (strL (txts l i))]) l.length
  [(5,i64 (0:Nat)),(4,.loc 0 0 0 0 1 false),(3,ints (begAll l)),(0,nds l)] [.cells 0 []]
  ((Wk.nil 4 1 (by simp [Tm.get])).trans (Wk.tell 1 (by omega) (by simp [Tm.get]) (by simp) (by simp) (by simp [RLB]))) ⟨0,0,rfl,by omega,rfl,rfl⟩ ?_
 rintro m T H ⟨i,g,rfl,hi,rfl,rfl⟩ KK kx kr kn
 by_cases h:i<l.length
 ·have hp:=(hs.good i h).2
  have hp0:=(hs.good i h).1
  have hk:=rkids_PF (begs_all l i hi) (hs.good.sub h) h hln
  have hkl:=kids_lenN hp
  have hki:=fun k hk=>hs.kids (k:=k) h hk
  have hkr:=fun k hk=>kids_r (l:=l) (i:=i) (k:=k) hp hk
  have e1:(enN l i).t=txtN (gi l i) (kidsN l i):=rfl
  have hts:=hs.tx h
  have htk:=fun k hk=>hs.tx (i:=(gi (kidsN l i) ((k:Nat):Int)).r) (by have:=(hki k hk).1;omega)
  have hld:=fun r (hr:r<i)=>loadCs_drop (f:=fun s:ByteArray=>AV.str s) (l:=txts l i) (k:=r) (by rw [txts_len];exact hr)
  have hldv:=fun r (hr:r<i)=>txts_at (l:=l) hr
  have ht2:=txts_succ l i
  have hRL:∀ x:Nd,∀ b∈([.cells g (strL (txts l i)),.cells 0 (Nd.cs x)]:AHeap),RLB 2 b:=fun x=>al_mem ⟨rlb_strL,by simp [RLB],trivial⟩
  have hsd:=fun (x:Nd) r (hr:r<i) kind fst=>side_FT (H:=[.cells g (strL (txts l i)),.cells 0 (Nd.cs x)]) (k1:=0) (g1:=g) (l:=l) (i:=i) rfl (hRL x) hs hi hr kind fst
  have htl:=txts_len l i
  have hz:(gi l i).name.size≤1099511627776:=by
   have h1:=wsum_succ h
   have h2:=wsum_le l (i+1)
   have:=hs.size
   omega
  refine by_way (A:=?G) (fun key=>?main) ?sub
  case main =>
   obtain ⟨k0,k6⟩:=hs.kinds i h
   have hkk:(gi l i).kind=0∨(gi l i).kind=1∨(gi l i).kind=2∨(gi l i).kind=3∨(gi l i).kind=4∨(gi l i).kind=5∨(gi l i).kind=6:=by omega
   simp (maxSteps:=3000000) [go_sem,-List.length_flatten,-List.map_drop,-List.map_take,h]
   intro _
   refine PF.call hk 9 (by simp [lePs]) ?_
   rcases hkk with k|k|k|k|k|k|k
   ·simp (maxSteps:=3000000) [go_sem,-List.length_flatten,-List.map_drop,-List.map_take,Kc,k]
    refine run_markT [(8,.str (enN l i).t),(5,i64 i),(4,.loc 0 g 0 i 1 false),(3,ints (begAll l)),(0,nds l)] [.cells g (strL (txts l i))] (Wk.tell 1 (by omega) (by simp [Tm.get,e1,txtN,k]) (by simp) (by simp) ⟨rlb_strL,trivial⟩) ?_
    exact key ()
   ·simp (maxSteps:=3000000) [go_sem,-List.length_flatten,-List.map_drop,-List.map_take,Kc,k]
    refine run_markT [(8,.str (enN l i).t),(5,i64 i),(4,.loc 0 g 0 i 1 false),(3,ints (begAll l)),(0,nds l)] [.cells g (strL (txts l i))] (Wk.tell 1 (by omega) (by simp [Tm.get,e1,txtN,k]) (by simp) (by simp) ⟨rlb_strL,trivial⟩) ?_
    exact key ()
   ·simp (maxSteps:=3000000) [go_sem,-List.length_flatten,-List.map_drop,-List.map_take,Kc,k]
    refine run_markT [(8,.str (enN l i).t),(5,i64 i),(4,.loc 0 g 0 i 1 false),(3,ints (begAll l)),(0,nds l)] [.cells g (strL (txts l i))] (Wk.tell 1 (by omega) (by simp [Tm.get,e1,txtN,k,two]) (by simp) (by simp) ⟨rlb_strL,trivial⟩) ?_
    exact key ()
   ·have hpe:partsN (gi l i)=(gi l i).n:=by unfold partsN;rw [if_neg (by omega)]
    have hpn:((kidsN l i).length:Int)=(gi l i).n:=by rw [hkl];unfold pN;omega
    have hsz:=sK_size (name:=(gi l i).name) (ks:=kidsN l i) hz (fun k hk=>by
     have h1:=hki k (by omega)
     have:=htk k (by omega)
     rw [←h1.2] at this
     omega)
    have hpi:(kidsN l i).length≤l.length:=by rw [hkl];have:=stk_le l i;omega
    have hjn:=sK_join (gi l i).name (kidsN l i)
    have e1':(enN l i).t=if (kidsN l i).length=0 then (gi l i).name else (gi l i).name++⟨#[40]⟩++joinB ((kidsN l i).map (·.t))++⟨#[41]⟩:=by
     rw [e1]
     simp only [txtN,k]
     by_cases hn:(gi l i).n=0
     ·rw [if_pos hn,if_pos (show (kidsN l i).length=0 by omega)]
      rfl
     ·rw [if_neg hn,if_neg (show ¬ (kidsN l i).length=0 by omega)]
      rfl
    rw [←hkl] at hki hkr htk
    rw [e1'] at hts
    simp (maxSteps:=3000000) [go_sem,-List.length_flatten,-List.map_drop,-List.map_take,Kc,k]
    generalize hks:kidsN l i=ks at *
    refine run_loopK (fun m T H=>∃ q:Nat,m=ks.length - q∧q≤ks.length∧T=[(9,i64 q),(8,.str (sK (gi l i).name ks q)),(7,ints (ks.map fun e=>(e.r:Int))),(5,i64 i),(4,.loc 0 g 0 i 1 false),(3,ints (begAll l)),(0,nds l)]∧H=[.cells g (strL (txts l i))]) ks.length
     [(9,i64 (0:Nat)),(8,.str (gi l i).name),(7,ints (ks.map fun e=>(e.r:Int))),(5,i64 i),(4,.loc 0 g 0 i 1 false),(3,ints (begAll l)),(0,nds l)] [.cells g (strL (txts l i))]
     (Wk.tell 1 (by omega) (by simp [Tm.get]) (by simp) (by simp) ⟨rlb_strL,trivial⟩) ⟨0,rfl,by omega,rfl,rfl⟩ ?_
    rintro m T H ⟨q,rfl,hq,rfl,rfl⟩ KK2 kx2 kr2 kn2
    have hs1:=hsz q hq
    by_cases h2:q<ks.length
    ·obtain ⟨r1,r2⟩:=hki q h2
     have hr:=hkr q h2
     have hv:=hld _ r1
     rw [hldv _ r1,←r2] at hv
     have hs2:=hsz (q+1) (by omega)
     have hti:=htk q h2
     rw [←r2] at hti
     have hwq:IntKind.i64.wrap ((q:Int)+1)=((q+1:Nat):Int):=nxt (n:=ks.length) h2 (by unfold maxA;omega)
     by_cases hq0:q=0
     ·have hsk:sK (gi l i).name ks (q+1)=sK (gi l i).name ks q++⟨#[40]⟩++(gi ks (q:Int)).t:=by rw [sK,if_pos hq0]
      have hq1:=eq_true hq0
      have hq2:=eq_true (show (q:Int)=0 by omega)
      clear hq0
      simp (maxSteps:=3000000) [go_sem,-List.length_flatten,-List.map_drop,-List.map_take,h2,hr,r1,↓hv,htl,hq1,hq2]
      intros
      refine ⟨by omega,by omega,kn2 _ _ (Kl_next (ks.length - (q+1)) 1 (by omega) ⟨q+1,rfl,h2,rfl,rfl⟩ (by simp [Tm.get,hwq,hsk]) (by simp) (by simp) ⟨rlb_strL,trivial⟩ (by omega))⟩
     ·have hq1:¬ (q:Int)=0:=by omega
      have hsk:sK (gi l i).name ks (q+1)=sK (gi l i).name ks q++⟨#[44]⟩++(gi ks (q:Int)).t:=by rw [sK,if_neg hq0]
      simp (maxSteps:=3000000) [go_sem,-List.length_flatten,-List.map_drop,-List.map_take,h2,hr,r1,↓hv,htl,hq1,hq0]
      intros
      refine ⟨by omega,by omega,kn2 _ _ (Kl_next (ks.length - (q+1)) 1 (by omega) ⟨q+1,rfl,h2,rfl,rfl⟩ (by simp [Tm.get,hwq,hsk]) (by simp) (by simp) ⟨rlb_strL,trivial⟩ (by omega))⟩
    ·have:q=ks.length:=by omega
     subst this
     by_cases hne:ks=[]
     ·rw [if_pos (by rw [hne];rfl)] at e1'
      simp (maxSteps:=3000000) [go_sem,-List.length_flatten,-List.map_drop,-List.map_take,kx2,hne]
      refine run_markT [(8,.str (enN l i).t),(5,i64 i),(4,.loc 0 g 0 i 1 false),(3,ints (begAll l)),(0,nds l)] [.cells g (strL (txts l i))] (Wk.tell 1 (by omega) (by simp [Tm.get,e1',hne,sK]) (by simp) (by simp) ⟨rlb_strL,trivial⟩) ?_
      exact key ()
     ·have hl0:0<ks.length:=List.length_pos_iff.2 hne
      rw [if_neg (by omega)] at e1'
      have hj:=hjn (ks.length - 1) (by omega)
      rw [show ks.length - 1+1=ks.length by omega,List.take_of_length_le (Nat.le_refl _)] at hj
      have hs3:=hsz ks.length (Nat.le_refl _)
      rw [hj] at hs3 ⊢
      have hs4:(gi l i).name.size+1+(joinB (ks.map (·.t))).size≤1099511627776+ks.length*1099511627777:=by
       simp only [ByteArray.size_append] at hs3
       have:(⟨#[40]⟩:ByteArray).size=1:=rfl
       omega
      simp (maxSteps:=3000000) [go_sem,-List.length_flatten,-List.map_drop,-List.map_take,kx2,hl0]
      intros
      refine ⟨by omega,?_⟩
      refine run_markT [(8,.str (enN l i).t),(5,i64 i),(4,.loc 0 g 0 i 1 false),(3,ints (begAll l)),(0,nds l)] [.cells g (strL (txts l i))] (Wk.tell 1 (by omega) (by simp [Tm.get,e1']) (by simp) (by simp) ⟨rlb_strL,trivial⟩) ?_
      exact key ()
   ·have hp2:=hs.two i h (by simp [two,k])
    have r0:gi ((kidsN l i).map fun e=>(e.r:Int)) 0=((gi (kidsN l i) 0).r:Int):=hkr 0 (by omega)
    have r1:gi ((kidsN l i).map fun e=>(e.r:Int)) 1=((gi (kidsN l i) 1).r:Int):=hkr 1 (by omega)
    obtain ⟨q0,q0'⟩:(gi (kidsN l i) 0).r<i∧gi (kidsN l i) 0=enN l (gi (kidsN l i) 0).r:=hki 0 (by omega)
    obtain ⟨q1,q1'⟩:(gi (kidsN l i) 1).r<i∧gi (kidsN l i) 1=enN l (gi (kidsN l i) 1).r:=hki 1 (by omega)
    have s0:=hsd ⟨4,(gi l i).name,(gi l i).n⟩ _ q0 4 true
    have s1:=hsd ⟨4,(gi l i).name,(gi l i).n⟩ _ q1 4 false
    have s0:=s0.more (by simp) (hRL _)
    have s1:=s1.more (by simp) (hRL _)
    rw [←q0'] at s0
    rw [←q1'] at s1
    have e1':(enN l i).t=brT (brk 4 true (gi (kidsN l i) 0)) (gi (kidsN l i) 0).t++⟨#[124]⟩++brT (brk 4 false (gi (kidsN l i) 1)) (gi (kidsN l i) 1).t:=by
     rw [e1]
     simp [txtN,k,two]
    rw [e1'] at hts
    rw [hp2] at hkl
    generalize kidsN l i=ks at *
    generalize brT (brk 4 true (gi ks 0)) (gi ks 0).t=x0 at *
    generalize brT (brk 4 false (gi ks 1)) (gi ks 1).t=x1 at *
    have hz2:x0.size+1+x1.size≤1099511627776:=by
     simp only [ByteArray.size_append] at hts
     have:(⟨#[124]⟩:ByteArray).size=1:=rfl
     omega
    have hne:¬ ks=[]:=fun e=>by rw [e] at hkl;simp at hkl
    simp (maxSteps:=3000000) [go_sem,-List.length_flatten,-List.map_drop,-List.map_take,Kc,k,r0,r1,hkl,hne]
    refine ⟨_,s0,?_⟩
    simp (maxSteps:=3000000) [go_sem,-List.length_flatten,-List.map_drop,-List.map_take,Kc,r0,r1,hkl]
    refine ⟨by omega,_,s1,?_⟩
    simp (maxSteps:=3000000) [go_sem,-List.length_flatten,-List.map_drop,-List.map_take,Kc]
    refine ⟨by omega,?_⟩
    refine run_markT [(8,.str (enN l i).t),(5,i64 i),(4,.loc 0 g 0 i 1 false),(3,ints (begAll l)),(0,nds l)] [.cells g (strL (txts l i))] (Wk.tell 1 (by omega) (by simp [Tm.get,e1']) (by simp) (by simp) ⟨rlb_strL,trivial⟩) ?_
    exact key ()
   ·have hp2:=hs.two i h (by simp [two,k])
    have r0:gi ((kidsN l i).map fun e=>(e.r:Int)) 0=((gi (kidsN l i) 0).r:Int):=hkr 0 (by omega)
    have r1:gi ((kidsN l i).map fun e=>(e.r:Int)) 1=((gi (kidsN l i) 1).r:Int):=hkr 1 (by omega)
    obtain ⟨q0,q0'⟩:(gi (kidsN l i) 0).r<i∧gi (kidsN l i) 0=enN l (gi (kidsN l i) 0).r:=hki 0 (by omega)
    obtain ⟨q1,q1'⟩:(gi (kidsN l i) 1).r<i∧gi (kidsN l i) 1=enN l (gi (kidsN l i) 1).r:=hki 1 (by omega)
    have s0:=hsd ⟨5,(gi l i).name,(gi l i).n⟩ _ q0 5 true
    have s1:=hsd ⟨5,(gi l i).name,(gi l i).n⟩ _ q1 5 false
    have s0:=s0.more (by simp) (hRL _)
    have s1:=s1.more (by simp) (hRL _)
    rw [←q0'] at s0
    rw [←q1'] at s1
    have e1':(enN l i).t=brT (brk 5 true (gi (kidsN l i) 0)) (gi (kidsN l i) 0).t++⟨#[38]⟩++brT (brk 5 false (gi (kidsN l i) 1)) (gi (kidsN l i) 1).t:=by
     rw [e1]
     simp [txtN,k,two]
    rw [e1'] at hts
    rw [hp2] at hkl
    generalize kidsN l i=ks at *
    generalize brT (brk 5 true (gi ks 0)) (gi ks 0).t=x0 at *
    generalize brT (brk 5 false (gi ks 1)) (gi ks 1).t=x1 at *
    have hz2:x0.size+1+x1.size≤1099511627776:=by
     simp only [ByteArray.size_append] at hts
     have:(⟨#[38]⟩:ByteArray).size=1:=rfl
     omega
    have hne:¬ ks=[]:=fun e=>by rw [e] at hkl;simp at hkl
    simp (maxSteps:=3000000) [go_sem,-List.length_flatten,-List.map_drop,-List.map_take,Kc,k,r0,r1,hkl,hne]
    refine ⟨_,s0,?_⟩
    simp (maxSteps:=3000000) [go_sem,-List.length_flatten,-List.map_drop,-List.map_take,Kc,r0,r1,hkl]
    refine ⟨by omega,_,s1,?_⟩
    simp (maxSteps:=3000000) [go_sem,-List.length_flatten,-List.map_drop,-List.map_take,Kc]
    refine ⟨by omega,?_⟩
    refine run_markT [(8,.str (enN l i).t),(5,i64 i),(4,.loc 0 g 0 i 1 false),(3,ints (begAll l)),(0,nds l)] [.cells g (strL (txts l i))] (Wk.tell 1 (by omega) (by simp [Tm.get,e1']) (by simp) (by simp) ⟨rlb_strL,trivial⟩) ?_
    exact key ()
   ·obtain ⟨hp1,hn0,hn1⟩:=hs.six i h k
    have r0:gi ((kidsN l i).map fun e=>(e.r:Int)) 0=((gi (kidsN l i) 0).r:Int):=hkr 0 (by omega)
    obtain ⟨q0,q0'⟩:(gi (kidsN l i) 0).r<i∧gi (kidsN l i) 0=enN l (gi (kidsN l i) 0).r:=hki 0 (by omega)
    have hv:=hld _ q0
    rw [hldv _ q0,←q0'] at hv
    have hfg:=figure_PF (gi l i).n ⟨hn0,hn1⟩
    have e1':(enN l i).t=(gi l i).name++⟨#[126]⟩++⟨#[UInt8.ofNat (48+(gi l i).n.toNat)]⟩++⟨#[40]⟩++(gi (kidsN l i) 0).t++⟨#[41]⟩:=by
     rw [e1]
     simp [txtN,k,two,brT,ByteArray.append_assoc]
    rw [e1'] at hts
    rw [hp1] at hkl
    generalize kidsN l i=ks at *
    have hz2:(gi l i).name.size+1+1+1+(gi ks 0).t.size+1≤1099511627776:=by
     simp only [ByteArray.size_append] at hts
     have s1:∀ c:UInt8,(⟨#[c]⟩:ByteArray).size=1:=fun c=>rfl
     simp only [s1] at hts
     omega
    have hne:¬ ks=[]:=fun e=>by rw [e] at hkl;simp at hkl
    simp (maxSteps:=3000000) [go_sem,-List.length_flatten,-List.map_drop,-List.map_take,Kc,k]
    refine ⟨by omega,_,hfg,?_⟩
    simp (maxSteps:=3000000) [go_sem,-List.length_flatten,-List.map_drop,-List.map_take,Kc,r0,hkl,hne,q0,↓hv,htl]
    refine ⟨by omega,by omega,by omega,by omega,?_⟩
    refine run_markT [(8,.str (enN l i).t),(5,i64 i),(4,.loc 0 g 0 i 1 false),(3,ints (begAll l)),(0,nds l)] [.cells g (strL (txts l i))] (Wk.tell 1 (by omega) (by simp [Tm.get,e1']) (by simp) (by simp) ⟨rlb_strL,trivial⟩) ?_
    exact key ()
  case sub =>
   have a1:=strL_app (txts l i) (enN l i).t
   rw [htl,←txts_succ] at a1
   have hkA:i+1≤maxA:=by unfold maxA;omega
   have hwk:IntKind.i64.wrap ((i:Int)+1)=((i+1:Nat):Int):=nxt (n:=l.length) h (by unfold maxA;omega)
   simp (maxSteps:=3000000) [go_sem,-List.length_flatten,-List.map_drop,-List.map_take,htl,a1,hkA]
   intros
   refine kn _ _ (Kl_sub (l.length - (i+1)) ⟨i+1,g+1,rfl,h,rfl,rfl⟩ (by simp [Tm.get,hwk]) (by omega))
 ·have:i=l.length:=by omega
  subst this
  obtain ⟨n,hn⟩:∃ n,l.length=n+1:=⟨l.length - 1,by omega⟩
  have ht:=txts_len l l.length
  have l1:=loadCs_drop (f:=fun s:ByteArray=>AV.str s) (l:=txts l l.length) (k:=n) (by omega)
  rw [txts_at (by omega)] at l1
  have hw:IntKind.i64.wrap (n:Int)=(n:Int):=w64 (by omega) (by omega)
  have hni:(n:Int)<(n:Int)+1:=by omega
  rw [hn] at hQ l1 ht ⊢
  rw [show n+1 - 1=n by omega] at hQ
  simp (maxSteps:=3000000) [go_sem,-List.length_flatten,-List.map_drop,-List.map_take,hn,kx,hw,↓l1,ht,hni]
  intros
  rw [←hQ]
  simp (maxSteps:=3000000) [go_sem,-List.length_flatten,-List.map_drop,-List.map_take]
def ndsMay (l:List Nd):Prop:=∀ i:Nat,i<l.length→ndMay (gi l i)=true∧partsN (gi l i)≤(stk l i).length
theorem mayKind {x:Nd} (h:ndMay x=true):0≤x.kind∧x.kind≤6:=by
 unfold ndMay at h
 apply Classical.byContradiction
 intro hn
 rw [if_neg (by omega),if_neg (by omega),if_neg (by omega),if_neg (by omega),if_neg (by omega)] at h
 cases h
theorem nameOk_size {s:ByteArray} (h:nameOk s=true):s.size≤20:=by
 simp only [nameOk,Bool.and_eq_true,decide_eq_true_eq] at h
 exact h.1.2
theorem mayName {x:Nd} (h:ndMay x=true):x.name=⟨#[]⟩∨nameOk x.name=true:=by
 have hk:=mayKind h
 unfold ndMay at h
 have hkk:x.kind=0∨x.kind=1∨x.kind=2∨x.kind=3∨x.kind=4∨x.kind=5∨x.kind=6:=by omega
 rcases hkk with k|k|k|k|k|k|k<;>simp [k,varOk,conOk] at h
 all_goals first
  | exact .inl h.1
  | exact .inr h.1.1.1
theorem mayN {x:Nd} (h:ndMay x=true):0≤partsN x∧(two x.kind=true→partsN x=2)∧(x.kind=6→partsN x=1∧1≤x.n∧x.n≤8)∧(x.kind<3→x.n=0):=by
 have hk:=mayKind h
 unfold ndMay at h
 have hkk:x.kind=0∨x.kind=1∨x.kind=2∨x.kind=3∨x.kind=4∨x.kind=5∨x.kind=6:=by omega
 rcases hkk with k|k|k|k|k|k|k<;>simp [k] at h<;>simp [partsN,two,k]<;>omega
theorem maySize {x:Nd} (h:ndMay x=true):x.name.size≤20:=by
 rcases mayName h with e|e
 ·rw [e];show (0:Nat)≤_;omega
 ·exact nameOk_size e
theorem mayBal {x:Nd} (h:ndMay x=true):Bal x.name 0:=by
 rcases mayName h with e|e
 ·rw [e];exact ⟨rfl,rfl⟩
 ·refine bal_plain fun c hc=>?_
  simp only [nameOk,Bool.and_eq_true,decide_eq_true_eq] at e
  obtain ⟨i,h1,h2⟩:=List.getElem_of_mem hc
  have hi:i<x.name.size:=by rw [Array.length_toList] at h1;exact h1
  have hb:byte x.name i=(c.toNat:Int):=by
   have h3:i<x.name.data.size:=hi
   have h4:x.name.data.getD i 0=c:=by
    rw [←h2]
    simp [Array.getD,hi]
   unfold byte
   rw [Int.toNat_natCast,h4]
  have hl:=e.2 i hi
  rw [hb] at hl
  unfold letter figure at hl
  have e40:(40:UInt8).toNat=40:=rfl
  have e41:(41:UInt8).toNat=41:=rfl
  refine ⟨fun hh=>?_,fun hh=>?_⟩
  ·rw [hh,e40] at hl
   omega
  ·rw [hh,e41] at hl
   omega
theorem fold_size {l:List Nd} (h:∀ x∈l,x.name.size≤20):∀ s,l.foldl (fun s x=>s+(x.name.size+12)) s≤s+32*l.length:=by
 induction l with
 | nil=>intro s;simp
 | cons x l ih =>
  intro s
  have h1:=ih (fun y hy=>h y (by simp [hy])) (s+(x.name.size+12))
  have h2:=h x (by simp)
  simp only [List.foldl_cons,List.length_cons]
  omega
theorem shp_of {l:List Nd} (hl:l.length≤1048576) (h:ndsMay l):Shp l:=by
 refine ⟨fun j hj=>?_,fun j hj e=>?_,fun j hj e=>?_,fun j hj=>mayKind (h j hj).1,hl,?_⟩
 ·have:=(h j hj).2
  have h2:=(mayN (h j hj).1).1
  unfold pN
  omega
 ·have:=(mayN (h j hj).1).2.1 e
  unfold pN
  omega
 ·have:=(mayN (h j hj).1).2.2.1 e
  unfold pN
  omega
 ·have:=fold_size (l:=l) (fun x hx=>by
   obtain ⟨i,h1,h2⟩:=List.getElem_of_mem hx
   have:=maySize (h i h1).1
   simpa [gi,List.getD,h1,h2] using this) 0
  omega
theorem bal_en {l:List Nd} (hl:l.length≤1048576) (h:ndsMay l):∀ i:Nat,i<l.length→Bal (enN l i).t (enN l i).d:=by
 intro i
 induction i using Nat.strongRecOn with
 | _ i ih =>
  intro hi
  have hs:=shp_of hl h
  have hk:=kids_lenN (hs.good i hi).2
  refine bal_txt (x:=gi l i) (ks:=kidsN l i) (mayBal (h i hi).1) (fun e he=>?_) (fun e=>by rw [hk];exact hs.two i hi e) (fun e=>by rw [hk];have:=hs.six i hi e;exact ⟨this.1,this.2.2⟩)
  obtain ⟨k,h1,h2⟩:=List.getElem_of_mem he
  have hki:=hs.kids (k:=k) hi (by omega)
  have e2:gi (kidsN l i) (k:Int)=e:=by simp [gi,List.getD,h1,h2]
  rw [e2] at hki
  rw [hki.2]
  exact ih e.r hki.1 (by omega)
noncomputable def rightN (l:List Nd):Bool:=by
 classical exact decide (ndsMay l)&&(decide ((stk l l.length).length=1)&&decide ((enN l (l.length - 1)).d≤40))
theorem ndsBad {l:List Nd} {i:Nat} (h:i<l.length) (hn:¬ (ndMay (gi l i)=true∧partsN (gi l i)≤(stk l i).length)):rightN l=false:=by
 have:¬ ndsMay l:=fun hh=>hn (hh i h)
 simp [rightN,this]
theorem stk_int {l:List Nd} {i:Nat} (h0:0≤partsN (gi l i)) (h:partsN (gi l i)≤(stk l i).length):((stk l (i+1)).length:Int)=(stk l i).length - partsN (gi l i)+1:=by
 have:=stk_len l i (by unfold pN;omega)
 unfold pN at this
 omega
def opn (s:ByteArray) (i:Nat):Int:=ol (s.data.toList.take i)
theorem opn_succ {s:ByteArray} {i:Nat} (h:i<s.size):opn s (i+1)=opn s i+(if byte s i=40 then 1 else if byte s i=41 then -1 else 0):=by
 have h1:i<s.data.toList.length:=by rw [Array.length_toList];exact h
 unfold opn
 rw [List.take_succ_eq_append_getElem h1,ol_app]
 have hb:byte s i=((s.data.toList[i]).toNat:Int):=by
  have h3:i<s.data.size:=h
  have h4:s.data.getD i 0=s.data.toList[i]:=by
   rw [Array.getElem_toList]
   simp [Array.getD,h]
  unfold byte
  rw [Int.toNat_natCast,h4]
 rw [hb]
 generalize s.data.toList[i]=c
 have e:ol [c]=bw c:=by simp [ol]
 rw [e]
 congr 1
 unfold bw
 have e40:c=40↔(c.toNat:Int)=40:=⟨fun h=>by subst h;rfl,fun h=>UInt8.toNat_inj.1 (by show c.toNat=40;omega)⟩
 have e41:c=41↔(c.toNat:Int)=41:=⟨fun h=>by subst h;rfl,fun h=>UInt8.toNat_inj.1 (by show c.toNat=41;omega)⟩
 simp only [e40,e41]
theorem opn_range (s:ByteArray):∀ i,i≤s.size→-(i:Int)≤opn s i∧opn s i≤i
 | 0,_=>by simp [opn,ol]
 | i+1,h=>by
  have ih:=opn_range s i (by omega)
  rw [opn_succ (by omega)]
  repeat' split
  all_goals omega
theorem bal_open {t:ByteArray} {d:Int} (h:Bal t d) (m:Int):(∀ i,i≤t.size→opn t i≤m)↔d≤m:=by
 constructor
 ·intro hh
  obtain ⟨i,h1,h2⟩:=od_take t.data.toList
  rw [h.2] at h2
  have:=hh i (by rw [Array.length_toList] at h1;exact h1)
  unfold opn at this
  omega
 ·intro hd i _
  have:=ol_take_le t.data.toList i
  rw [h.2] at this
  unfold opn
  omega
def turned (s v:Int):Int:=if v=43 then s else if v=45∧s=76 then 82 else if v=45∧s=82 then 76 else 66
abbrev prs (l:List (Int×Int)):AV:=.rows false 2 (l.map fun p=>[i64 p.1,i64 p.2])
theorem prs_RL (l:List (Int×Int)) (n:Nat):RL n (prs l):=by
 simp
 rintro x a b _ rfl y hy
 simp at hy
 rcases hy with rfl|rfl<;>simp
def varied (p q v:Int):List (Int×Int):=if v=43 then [(p,q)] else if v=45 then [(q,p)] else [(p,q),(q,p)]
structure Bo where
 l:List Sg
 x:Int
 y:Int
 s:Tm0
 t:Tm0
abbrev Bo.cs (b:Bo):List AV:=[sigs b.l,i64 b.x,i64 b.y]++b.s.cs++b.t.cs
abbrev way (k:Int) (ps:List (Int×Int)):AV:=.agg [i64 k,prs ps]
theorem way_RL (k:Int) (ps:List (Int×Int)) (n:Nat):RL n (way k ps):=by
 simp only [RL_agg,List.mem_cons,List.not_mem_nil,or_false,forall_eq_or_imp,forall_eq]
 exact ⟨by simp,prs_RL _ _⟩
def takesWay (b:Bo):Int×List (Int×Int) :=
 let v:=byte (gi b.l b.t.sym).args b.t.part
 let e:=gi b.t.args 0
 if b.s.kind=1 then (1,if v=43 then [(1,e)] else if v=45 then [(e,0)] else [(1,e),(e,0)])
 else if b.s.kind=3∧b.s.sym=b.t.sym then (1,varied (gi b.s.args b.t.part) e v)
 else (0,[])
def consL (b:Bo):Nat→List (Int×Int)
 | 0=>[]
 | i+1=>consL b i++varied (gi b.s.args i) (gi b.t.args i) (byte (gi b.l b.s.sym).args i)
theorem varied_len (p q v:Int):1≤(varied p q v).length∧(varied p q v).length≤2:=by
 unfold varied
 split
 ·simp
 ·split<;>simp
theorem consL_len (b:Bo):∀ i,(consL b i).length≤2*i
 | 0=>by simp [consL]
 | i+1=>by
  have:=consL_len b i
  have:=varied_len (gi b.s.args i) (gi b.t.args i) (byte (gi b.l b.s.sym).args i)
  simp [consL]
  omega
structure TermFit (l:List Sg) (n:Int) (t:Tm0):Prop where
 parts:∀ i:Nat,i<t.args.length→0≤gi t.args i∧gi t.args i<n
 kind:0≤t.kind∧t.kind≤6
 flat:t.kind≤2→t.args.length=0
 con:t.kind=3→(0≤t.sym∧t.sym<l.length)∧t.args.length=(gi l t.sym).args.size
 two:t.kind=4∨t.kind=5→t.args.length=2
 proj:t.kind=6→(0≤t.sym∧t.sym<l.length)∧(0≤t.part∧t.part<(gi l t.sym).args.size)∧t.args.length=1
theorem mayBe_fit {l:List Sg} {n:Int} {t:Tm0} (h:mayBe l n t=true):TermFit l n t:=by
 unfold mayBe at h
 simp only [Bool.and_eq_true,decide_eq_true_eq] at h
 obtain ⟨h1,h2⟩:=h
 split at h2
 ·simp at h2
  refine ⟨h1,by omega,fun _=>by simp [h2],fun h=>by omega,fun h=>by omega,fun h=>by omega⟩
 split at h2
 ·simp at h2
  refine ⟨h1,by omega,fun _=>by simp [h2],fun h=>by omega,fun h=>by omega,fun h=>by omega⟩
 split at h2
 ·simp at h2
  refine ⟨h1,by omega,fun _=>by omega,fun h=>⟨h2.1,h2.2.2⟩,fun h=>by omega,fun h=>by omega⟩
 split at h2
 ·simp at h2
  refine ⟨h1,by omega,fun _=>by omega,fun h=>by omega,fun h=>h2.2.2,fun h=>by omega⟩
 split at h2
 ·simp only [decide_eq_true_eq] at h2
  refine ⟨h1,by omega,fun _=>by omega,fun h=>by omega,fun h=>by omega,fun h=>⟨h2.1,⟨h2.2.1,h2.2.2.1⟩,h2.2.2.2⟩⟩
 ·cases h2
structure Fine (l:List Sg) (a:Kd):Prop where
 many:a.keys.length≤2000
 ok:∀ i:Nat,i<a.keys.length→(termAt a i).2=true∧TermFit l i (termAt a i).1
 short:∀ i:Int,(gi l i).args.size≤8
 two:2≤a.keys.length
 zero:(termAt a 0).1.kind=0
 one:(termAt a 1).1.kind=1
theorem termAt_range {a:Kd} {x:Int} (h:(termAt a x).2=true):0≤x∧x<a.keys.length:=by
 unfold termAt at h
 split at h
 ·cases h
 ·omega
theorem Fine.fit {l:List Sg} {a:Kd} (hF:Fine l a) {x:Int} (h:0≤x∧x<a.keys.length):(termAt a x).2=true∧TermFit l x (termAt a x).1:=by
 have:=hF.ok x.toNat (by omega)
 rw [Int.toNat_of_nonneg h.1] at this
 exact this
theorem Fine.is {l:List Sg} {a:Kd} (hF:Fine l a) {x:Int}:(termAt a x).2=true↔(0≤x∧x<a.keys.length):=⟨termAt_range,fun h=>(hF.fit h).1⟩
theorem TermFit.args {l:List Sg} {n:Int} {t:Tm0} (h:TermFit l n t) (hs:∀ i:Int,(gi l i).args.size≤8):t.args.length≤8:=by
 have hk:=h.kind
 rcases (show t.kind≤2∨t.kind=3∨(t.kind=4∨t.kind=5)∨t.kind=6 by omega) with k|k|k|k
 ·have:=h.flat k;omega
 ·have:=h.con k;have:=hs t.sym;omega
 ·have:=h.two k;omega
 ·have:=h.proj k;omega
def stepWay (b:Bo):Int×List (Int×Int) :=
 if b.x=b.y∨b.s.kind=0∨b.t.kind=1 then (0,[])
 else if b.s.kind=4 then (1,[(gi b.s.args 0,b.y),(gi b.s.args 1,b.y)])
 else if b.t.kind=5 then (1,[(b.x,gi b.t.args 0),(b.x,gi b.t.args 1)])
 else if b.s.kind=2∨b.t.kind=2 then (2,[])
 else if b.t.kind=6 then takesWay b
 else if b.s.kind=3∧b.t.kind=3∧b.s.sym=b.t.sym then (1,consL b b.s.args.length)
 else if (b.s.kind=1∨b.s.kind=3)∧(b.t.kind=0∨b.t.kind=3) then (3,[])
 else (0,[])
def stepOf (l:List Sg) (a:Kd) (x y:Int):Int×List (Int×Int) :=
 if (termAt a x).2=true∧(termAt a y).2=true then stepWay ⟨l,x,y,(termAt a x).1,(termAt a y).1⟩ else (0,[])
def sideN (l:List Sg) (t:Tm0) (side:Int) (i:Int):Int :=
 if t.kind=6 then turned side (byte (gi l t.sym).args t.part) else if t.kind=3 then turned side (byte (gi l t.sym).args i) else side
def sideMay (t:Tm0) (side:Int):Bool:=if t.kind=4 then decide (side=76) else if t.kind=5∨t.kind=6 then decide (side=82) else true
def okN (l:List Sg) (a:Kd):Nat→Int→Int→Bool
 | 0,_,_=>true
 | n+1,id,s=>sideMay (termAt a id).1 s&&decide (∀ i:Nat,i<(termAt a id).1.args.length→okN l a n (gi (termAt a id).1.args i) (sideN l (termAt a id).1 s i)=true)
def okAt (l:List Sg) (a:Kd) (id s:Int):Bool:=okN l a (id.toNat+1) id s
theorem okN_fuel {l:List Sg} {a:Kd} (hF:Fine l a):∀ (k:Nat) (id s:Int),0≤id→id<a.keys.length→id.toNat<k→okN l a k id s=okAt l a id s
 | 0,id,s,_,_,h=>by omega
 | k+1,id,s,h0,h1,h=>by
  unfold okAt
  simp only [okN]
  have hfit:=(hF.fit ⟨h0,h1⟩).2
  congr 1
  refine decide_eq_decide.2 (forall_congr' fun i=>forall_congr' fun hi=>?_)
  have hp:=hfit.parts i hi
  have e1:=okN_fuel hF k _ (sideN l (termAt a id).1 s i) hp.1 (by omega) (by omega)
  by_cases hk:id.toNat<k
  ·have e2:=okN_fuel hF id.toNat _ (sideN l (termAt a id).1 s i) hp.1 (by omega) (by omega)
   rw [e1,e2]
  ·have:k=id.toNat:=by omega
   subst this
   rfl
theorem okAt_step {l:List Sg} {a:Kd} (hF:Fine l a) {id s:Int} (h:0≤id∧id<a.keys.length) :
  okAt l a id s=true↔sideMay (termAt a id).1 s=true∧∀ i:Nat,i<(termAt a id).1.args.length→okAt l a (gi (termAt a id).1.args i) (sideN l (termAt a id).1 s i)=true:=by
 have hfit:=(hF.fit h).2
 conv=>lhs;unfold okAt;simp only [okN,Bool.and_eq_true,decide_eq_true_eq]
 refine and_congr_right fun _=>forall_congr' fun i=>forall_congr' fun hi=>?_
 have hp:=hfit.parts i hi
 rw [okN_fuel hF id.toNat _ _ hp.1 (by omega) (by omega)]
def isSide (s:Int):Prop:=s=76∨s=82∨s=66
theorem turned_side {s:Int} (h:isSide s) (v:Int):isSide (turned s v):=by
 unfold turned isSide at *
 split
 ·exact h
 ·split
  ·simp
  ·split<;>simp
theorem sideN_side {l:List Sg} {t:Tm0} {s:Int} (h:isSide s) (i:Int):isSide (sideN l t s i):=by
 unfold sideN
 split
 ·exact turned_side h _
 ·split
  ·exact turned_side h _
  ·exact h
def kids (l:List Sg) (a:Kd) (q:Int×Int) (n:Nat):List (Int×Int):=(List.range n).map fun i:Nat=>(gi (termAt a q.1).1.args i,sideN l (termAt a q.1).1 q.2 i)
def wants (n:Nat):List (Int×Int):=(List.range n).flatMap fun i:Nat=>[((i:Int),76),((i:Int),82),((i:Int),66)]
def unseen (n:Nat) (S:List (Int×Int)):Nat:=(wants n).countP fun q=>decide (q∉S)
def measW (n:Nat) (S L:List (Int×Int)):Nat:=unseen n S*9+L.length
structure InvW (l:List Sg) (a:Kd) (q0:Int×Int) (S L:List (Int×Int)):Prop where
 good:∀ q∈S++L,(0≤q.1∧q.1<a.keys.length)∧isSide q.2
 ok:okAt l a q0.1 q0.2=true→∀ q∈S++L,okAt l a q.1 q.2=true
 done:∀ q∈S,sideMay (termAt a q.1).1 q.2=true∧∀ p∈kids l a q (termAt a q.1).1.args.length,p∈S++L
 start:q0∈S++L
 few:measW a.keys.length S L≤27*a.keys.length+1
theorem InvW.skip {l:List Sg} {a:Kd} {q0 q:Int×Int} {S L:List (Int×Int)} (h:InvW l a q0 S (q::L)) (hq:q∈S):InvW l a q0 S L∧measW a.keys.length S L<measW a.keys.length S (q::L):=by
 have sub:∀ p,p∈S++(q::L)→p∈S++L:=by
  intro p hp
  simp at hp ⊢
  rcases hp with hp|rfl|hp
  ·exact .inl hp
  ·exact .inl hq
  ·exact .inr hp
 have sup:∀ p,p∈S++L→p∈S++(q::L):=by
  intro p hp
  simp at hp ⊢
  rcases hp with hp|hp
  ·exact .inl hp
  ·exact .inr (.inr hp)
 have hm:measW a.keys.length S L<measW a.keys.length S (q::L):=by simp [measW]
 refine ⟨⟨fun p hp=>h.good p (sup p hp),fun h0 p hp=>h.ok h0 p (sup p hp),fun p hp=>⟨(h.done p hp).1,fun r hr=>sub r ((h.done p hp).2 r hr)⟩,sub _ h.start,?_⟩,hm⟩
 have:=h.few
 omega
theorem InvW.bad {l:List Sg} {a:Kd} (hF:Fine l a) {q0 q:Int×Int} {S L:List (Int×Int)} (h:InvW l a q0 S (q::L)) (hm:sideMay (termAt a q.1).1 q.2=false):okAt l a q0.1 q0.2=false:=by
 cases h0:okAt l a q0.1 q0.2 with
 | false=>rfl
 | true =>
  have hg:=h.good q (by simp)
  have:=((okAt_step hF hg.1).1 (h.ok h0 q (by simp))).1
  rw [hm] at this
  cases this
theorem InvW.fin {l:List Sg} {a:Kd} (hF:Fine l a) {q0:Int×Int} {S:List (Int×Int)} (h:InvW l a q0 S []):okAt l a q0.1 q0.2=true:=by
 have key:∀ (n:Nat) (q:Int×Int),q∈S→q.1.toNat<n→okAt l a q.1 q.2=true:=by
  intro n
  induction n with
  | zero=>intro q _ hn;omega
  | succ n ih =>
   intro q hq hn
   have hg:=h.good q (by simp [hq])
   have hfit:=(hF.fit hg.1).2
   refine (okAt_step hF hg.1).2 ⟨(h.done q hq).1,fun i hi=>?_⟩
   have hp:=hfit.parts i hi
   have:=(h.done q hq).2 (gi (termAt a q.1).1.args i,sideN l (termAt a q.1).1 q.2 i) (by simp only [kids,List.mem_map,List.mem_range];exact ⟨i,hi,rfl⟩)
   rw [List.append_nil] at this
   refine ih (gi (termAt a q.1).1.args i,sideN l (termAt a q.1).1 q.2 i) this ?_
   show (gi (termAt a q.1).1.args i).toNat<n
   omega
 exact key (q0.1.toNat+1) q0 (by simpa using h.start) (by omega)
def nside (s:Int):Int:=if s=76∨s=82 then s else 66
def sided (l:List Sg) (a:Kd) (id s:Int):Bool:=(termAt a id).2&&okAt l a id (nside s)
theorem okAt_both {l:List Sg} {a:Kd} (hF:Fine l a):∀ (n:Nat) (id:Int),(0≤id∧id<a.keys.length)→id.toNat<n→okAt l a id 66=true→okAt l a id 76=true∧okAt l a id 82=true
 | 0,id,_,h,_=>by omega
 | n+1,id,hr,hn,h=>by
  obtain ⟨h1,h2⟩:=(okAt_step hF hr).1 h
  have hfit:=(hF.fit hr).2
  have hk:¬ (termAt a id).1.kind=4∧¬ (termAt a id).1.kind=5∧¬ (termAt a id).1.kind=6:=by
   unfold sideMay at h1
   refine ⟨fun e=>by simp [e] at h1,fun e=>by simp [e] at h1,fun e=>by simp [e] at h1⟩
  have m:∀ s,sideMay (termAt a id).1 s=true:=fun s=>by simp [sideMay,hk]
  have kid:∀ s,isSide s→∀ i:Nat,i<(termAt a id).1.args.length→okAt l a (gi (termAt a id).1.args i) (sideN l (termAt a id).1 s i)=true:=by
   intro s hs i hi
   have hp:=hfit.parts i hi
   have h3:=h2 i hi
   have e66:sideN l (termAt a id).1 66 i=66:=by
    unfold sideN turned
    simp [hk]
   rw [e66] at h3
   obtain ⟨q1,q2⟩:=okAt_both hF n (gi (termAt a id).1.args i) ⟨hp.1,by omega⟩ (by omega) h3
   rcases sideN_side (l:=l) (t:=(termAt a id).1) hs i with e|e|e<;>rw [e]<;>assumption
  exact ⟨(okAt_step hF hr).2 ⟨m 76,kid 76 (.inl rfl)⟩,(okAt_step hF hr).2 ⟨m 82,kid 82 (.inr (.inl rfl))⟩⟩
theorem okAt_any {l:List Sg} {a:Kd} (hF:Fine l a) {id:Int} (hr:0≤id∧id<a.keys.length) (h:okAt l a id 66=true) {s:Int} (hs:isSide s):okAt l a id s=true:=by
 obtain ⟨q1,q2⟩:=okAt_both hF _ id hr (Nat.lt_succ_self _) h
 rcases hs with rfl|rfl|rfl<;>assumption
theorem okAt_flat {l:List Sg} {a:Kd} (hF:Fine l a) {id:Int} (hr:0≤id∧id<a.keys.length) (hk:(termAt a id).1.kind≤2) (s:Int):okAt l a id s=true:=by
 refine (okAt_step hF hr).2 ⟨?_,fun i hi=>?_⟩
 ·unfold sideMay
  rw [if_neg (by omega),if_neg (by omega)]
 ·have:=(hF.fit hr).2.flat hk
  omega
def okP (l:List Sg) (a:Kd) (r:Int×Int):Prop:=okAt l a r.1 76=true∧okAt l a r.2 82=true
def inP (a:Kd) (r:Int×Int):Prop:=(0≤r.1∧r.1<a.keys.length)∧0≤r.2∧r.2<a.keys.length
theorem varied_in {a:Kd} {p q:Int} (hp:0≤p∧p<a.keys.length) (hq:0≤q∧q<a.keys.length) (v:Int):∀ r∈varied p q v,inP a r:=by
 intro r hr
 unfold varied at hr
 unfold inP
 split at hr
 ·simp at hr;subst hr;exact ⟨hp,hq⟩
 ·split at hr
  ·simp at hr;subst hr;exact ⟨hq,hp⟩
  ·simp at hr;rcases hr with rfl|rfl
   ·exact ⟨hp,hq⟩
   ·exact ⟨hq,hp⟩
theorem varied_ok {l:List Sg} {a:Kd} (hF:Fine l a) {p q v:Int} (hp:0≤p∧p<a.keys.length) (hq:0≤q∧q<a.keys.length) (h1:okAt l a p (turned 76 v)=true) (h2:okAt l a q (turned 82 v)=true):∀ r∈varied p q v,okP l a r:=by
 intro r hr
 unfold varied at hr
 unfold turned at h1 h2
 unfold okP
 split at hr
 ·rename_i hv
  simp at hr;subst hr
  simp [hv] at h1 h2
  exact ⟨h1,h2⟩
 ·rename_i hv
  split at hr
  ·rename_i hv2
   simp at hr;subst hr
   simp [hv2] at h1 h2
   exact ⟨h2,h1⟩
  ·rename_i hv2
   simp [hv,hv2] at h1 h2
   have a1:∀ s,isSide s→okAt l a p s=true:=fun s hs=>okAt_any hF hp h1 hs
   have a2:∀ s,isSide s→okAt l a q s=true:=fun s hs=>okAt_any hF hq h2 hs
   simp at hr;rcases hr with rfl|rfl
   ·exact ⟨a1 _ (.inl rfl),a2 _ (.inr (.inl rfl))⟩
   ·exact ⟨a2 _ (.inl rfl),a1 _ (.inr (.inl rfl))⟩
theorem consL_mem {b:Bo}:∀ {n:Nat} {r:Int×Int},r∈consL b n→∃ i:Nat,i<n∧r∈varied (gi b.s.args i) (gi b.t.args i) (byte (gi b.l b.s.sym).args i)
 | n+1,r,h=>by
  simp only [consL,List.mem_append] at h
  rcases h with h|h
  ·obtain ⟨i,hi,hr⟩:=consL_mem h
   exact ⟨i,by omega,hr⟩
  ·exact ⟨n,by omega,h⟩
theorem stepOf_law {l:List Sg} {a:Kd} (hF:Fine l a) (x y:Int) :
  (∀ r∈(stepOf l a x y).2,inP a r∧(sided l a x 76=true→sided l a y 82=true→okP l a r))∧(0≤(stepOf l a x y).1∧(stepOf l a x y).1≤3)∧((stepOf l a x y).1=1∨(stepOf l a x y).2=[]):=by
 unfold stepOf
 split
 ·rename_i h
  obtain ⟨h1,h2⟩:=h
  have rx:=termAt_range h1
  have ry:=termAt_range h2
  have fx:=(hF.fit rx).2
  have fy:=(hF.fit ry).2
  have sx:sided l a x 76=okAt l a x 76:=by simp [sided,h1,nside]
  have sy:sided l a y 82=okAt l a y 82:=by simp [sided,h2,nside]
  rw [sx,sy]
  have px:∀ i:Nat,i<(termAt a x).1.args.length→0≤gi (termAt a x).1.args i∧gi (termAt a x).1.args i<a.keys.length:=fun i hi=>by have:=fx.parts i hi;omega
  have py:∀ i:Nat,i<(termAt a y).1.args.length→0≤gi (termAt a y).1.args i∧gi (termAt a y).1.args i<a.keys.length:=fun i hi=>by have:=fy.parts i hi;omega
  unfold stepWay
  simp only
  split
  ·simp
  split
  ·rename_i hk
   have hl:=fx.two (.inl hk)
   refine ⟨?_,by simp,by simp⟩
   intro r hr
   have p0:=px 0 (by omega)
   have p1:=px 1 (by omega)
   have key:∀ i:Nat,i<2→okAt l a x 76=true→okAt l a (gi (termAt a x).1.args i) 76=true:=fun i hi h=>by
    have:=((okAt_step hF rx).1 h).2 i (by omega)
    simpa [sideN,hk] using this
   simp at hr
   rcases hr with rfl|rfl
   ·exact ⟨⟨p0,ry⟩,fun q1 q2=>⟨key 0 (by omega) q1,q2⟩⟩
   ·exact ⟨⟨p1,ry⟩,fun q1 q2=>⟨key 1 (by omega) q1,q2⟩⟩
  split
  ·rename_i hk
   have hl:=fy.two (.inr hk)
   refine ⟨?_,by simp,by simp⟩
   intro r hr
   have p0:=py 0 (by omega)
   have p1:=py 1 (by omega)
   have key:∀ i:Nat,i<2→okAt l a y 82=true→okAt l a (gi (termAt a y).1.args i) 82=true:=fun i hi h=>by
    have:=((okAt_step hF ry).1 h).2 i (by omega)
    simpa [sideN,hk] using this
   simp at hr
   rcases hr with rfl|rfl
   ·exact ⟨⟨rx,p0⟩,fun q1 q2=>⟨q1,key 0 (by omega) q2⟩⟩
   ·exact ⟨⟨rx,p1⟩,fun q1 q2=>⟨q1,key 1 (by omega) q2⟩⟩
  split
  ·simp
  split
  ·rename_i hk
   obtain ⟨q1,q2,q3⟩:=fy.proj hk
   have pe:=py 0 (by omega)
   have ke:okAt l a y 82=true→okAt l a (gi (termAt a y).1.args 0) (turned 82 (byte (gi l (termAt a y).1.sym).args (termAt a y).1.part))=true:=fun h=>by
    have:=((okAt_step hF ry).1 h).2 0 (by omega)
    simpa [sideN,hk] using this
   unfold takesWay
   simp only
   split
   ·rename_i hs
    have r1:(0:Int)≤1∧(1:Int)<a.keys.length:=by have:=hF.two;omega
    have r0:(0:Int)≤0∧(0:Int)<a.keys.length:=by have:=hF.two;omega
    have o1:∀ s,okAt l a 1 s=true:=okAt_flat hF r1 (by rw [hF.one];omega)
    have o0:∀ s,okAt l a 0 s=true:=okAt_flat hF r0 (by rw [hF.zero];omega)
    refine ⟨?_,by simp,by simp⟩
    intro r hr
    generalize byte (gi l (termAt a y).1.sym).args (termAt a y).1.part=v at *
    have pe:0≤gi (termAt a y).1.args 0∧gi (termAt a y).1.args 0<a.keys.length:=pe
    split at hr
    ·rename_i hv
     simp at hr;subst hr
     refine ⟨⟨r1,pe⟩,fun _ h=>⟨o1 _,?_⟩⟩
     have:=ke h
     simpa [turned,hv] using this
    ·rename_i hv
     split at hr
     ·rename_i hv2
      simp at hr;subst hr
      refine ⟨⟨pe,r0⟩,fun _ h=>⟨?_,o0 _⟩⟩
      have:=ke h
      simpa [turned,hv2] using this
     ·rename_i hv2
      have kk:okAt l a y 82=true→okAt l a (gi (termAt a y).1.args 0) 66=true:=fun h=>by
       have:=ke h
       simpa [turned,hv,hv2] using this
      simp at hr
      rcases hr with rfl|rfl
      ·exact ⟨⟨r1,pe⟩,fun _ h=>⟨o1 _,okAt_any hF pe (kk h) (.inr (.inl rfl))⟩⟩
      ·exact ⟨⟨pe,r0⟩,fun _ h=>⟨okAt_any hF pe (kk h) (.inl rfl),o0 _⟩⟩
   split
   ·rename_i hs
    obtain ⟨k3,ks⟩:=hs
    have hc:=fx.con k3
    have hpl:(termAt a y).1.part.toNat<(termAt a x).1.args.length:=by rw [hc.2,ks];omega
    have ee:(((termAt a y).1.part.toNat:Nat):Int)=(termAt a y).1.part:=Int.toNat_of_nonneg q2.1
    have pp:=px (termAt a y).1.part.toNat hpl
    rw [ee] at pp
    refine ⟨fun r hr=>⟨varied_in pp pe _ r hr,fun h1 h2=>varied_ok hF pp pe ?_ (ke h2) r hr⟩,by simp,by simp⟩
    have:=((okAt_step hF rx).1 h1).2 (termAt a y).1.part.toNat hpl
    rw [ee] at this
    simpa [sideN,k3,ks] using this
   ·simp
  split
  ·rename_i hk
   obtain ⟨k1,k2,k3⟩:=hk
   have c1:=fx.con k1
   have c2:=fy.con k2
   refine ⟨fun r hr=>?_,by simp,by simp⟩
   obtain ⟨i,hi,hr⟩:=consL_mem hr
   simp only at hi hr
   have hiy:i<(termAt a y).1.args.length:=by rw [c2.2,←k3,←c1.2];exact hi
   refine ⟨varied_in (px i hi) (py i hiy) _ r hr,fun h1 h2=>varied_ok hF (px i hi) (py i hiy) ?_ ?_ r hr⟩
   ·have:=((okAt_step hF rx).1 h1).2 i hi
    simpa [sideN,k1] using this
   ·have:=((okAt_step hF ry).1 h2).2 i hiy
    simpa [sideN,k2,k3] using this
  split
  ·simp
  ·simp
 ·simp
theorem key_kind {l:List Sg} {a:Kd} (hF:Fine l a) {x:Int} (h:0≤x∧x<a.keys.length):0<(gi a.keys x).length∧gi (gi a.keys x) 0=(termAt a x).1.kind:=by
 have h1:=(hF.fit h).1
 have e:termAt a x=termOf (gi a.keys x):=by
  unfold termAt
  rw [if_neg (by omega)]
 rw [e] at h1 ⊢
 unfold termOf at h1 ⊢
 split at h1
 ·cases h1
 ·rename_i h3
  rw [if_neg h3]
  exact ⟨by omega,rfl⟩
theorem c68_ok:cFn Tryz.prog an0 Tryz.f68=some c68:=by kernel_rfl
theorem parts_PF (l:List (Int×Int)):PF Tryz.prog 68 [prs l] (way 1 l):=by
 refine PFk 9 hm Tryz.func68 c68_ok (Nat.le_of_ble_eq_true rfl) (by simp only [List.mem_singleton,forall_eq];exact prs_RL _ _) (way_RL _ _ _) ?_
 simp (maxSteps:=3000000) [go_sem,-List.length_flatten,-List.map_drop,-List.map_take,c68]
theorem c77_ok:cFn Tryz.prog an0 Tryz.f77=some c77:=by kernel_rfl
def onS (s:Int) (p q b:Bool):Bool:=if s=76 then p else if s=82 then q else b
theorem on_PF (s:Int) (p q b:Bool):PF Tryz.prog 77 [.int .u8 s,.bool p,.bool q,.bool b] (.bool (onS s p q b)):=by
 refine PFk 9 hm Tryz.func77 c77_ok (Nat.le_of_ble_eq_true rfl) (by simp) (by simp) ?_
 simp (maxSteps:=3000000) [go_sem,-List.length_flatten,-List.map_drop,-List.map_take,c77]
 repeat' (first|with_reducible apply And.intro|with_reducible intro _)
 all_goals (unfold onS;simp [*])
theorem c78_ok:cFn Tryz.prog an0 Tryz.f78=some c78:=by kernel_rfl
theorem turn_PF (s v:Int):PF Tryz.prog 78 [.int .u8 s,.int .u8 v] (.int .u8 (turned s v)):=by
 refine PFk 9 hm Tryz.func78 c78_ok (Nat.le_of_ble_eq_true rfl) (by simp) (by simp) ?_
 simp (maxSteps:=3000000) [go_sem,-List.length_flatten,-List.map_drop,-List.map_take,c78]
 repeat' (first|with_reducible apply And.intro|with_reducible intro _)
 all_goals first|omega|(unfold turned;simp [*];done)|(exfalso;omega)|(unfold turned;simp [*];omega)
abbrev prc (p:Int×Int):List AV:=[i64 p.1,i64 p.2]
theorem c70_ok:cFn Tryz.prog an0 Tryz.f70=some c70:=by kernel_rfl
theorem pairs0_PF (p q v:Int):PF Tryz.prog 70 [.nilS,i64 p,i64 q,.int .u8 v] (prs (varied p q v)):=by
 refine PFk 9 hm Tryz.func70 c70_ok (Nat.le_of_ble_eq_true rfl) (by simp) (prs_RL _ _) ?_
 have h1:1≤maxA:=Nat.le_of_ble_eq_true rfl
 have h2:2≤maxA:=Nat.le_of_ble_eq_true rfl
 by_cases hv:v=43
 ·simp (maxSteps:=3000000) [go_sem,-List.length_flatten,-List.map_drop,-List.map_take,c70,hv,h1,h2,chunk]
  simp [varied]
 by_cases hv2:v=45
 ·simp (maxSteps:=3000000) [go_sem,-List.length_flatten,-List.map_drop,-List.map_take,c70,hv2,h1,h2,chunk]
  simp [varied]
 ·simp (maxSteps:=3000000) [go_sem,-List.length_flatten,-List.map_drop,-List.map_take,c70,hv,hv2,h1,h2,chunk]
  simp [varied,hv,hv2]
theorem pairs_FT (i g:Nat) (l:List (Int×Int)) (p q v:Int) (H:AHeap) (hH:H[i]?=some (.cells g (fl prc l))) (hl:l.length+2≤maxA) :
  FT Tryz.prog 70 [.loc i g 0 l.length 2 false,i64 p,i64 q,.int .u8 v] H (fun rv H'=>∃ g',rv=.loc i g' 0 (l++varied p q v).length 2 false∧H'=H.set i (.cells g' (fl prc (l++varied p q v)))):=by
 refine FTk hm Tryz.func70 c70_ok (Nat.le_of_ble_eq_true rfl) ?_
 have hi:i<H.length:=lt_of_get hH
 have h1:l.length+1≤maxA:=by omega
 have e1:=app_fl (f:=prc) (sz:=2) (by simp) l [(p,q)]
 have e2:=app_fl (f:=prc) (sz:=2) (by simp) l [(q,p)]
 have e3:=app_fl (f:=prc) (sz:=2) (by simp) (l++[(p,q)]) [(q,p)]
 have hlen:=fl_len (f:=prc) (sz:=2) (by simp) l
 have hlen2:=fl_len (f:=prc) (sz:=2) (by simp) (l++[(p,q)])
 simp only [fl_cons,fl_nil,List.append_nil,List.length_append,List.length_singleton] at e1 e2 e3 hlen2
 by_cases hv:v=43
 ·simp (maxSteps:=3000000) [go_sem,-List.length_flatten,-List.map_drop,-List.map_take,c70,hv,hH,hlen,h1,e1]
  simp [varied]
 by_cases hv2:v=45
 ·simp (maxSteps:=3000000) [go_sem,-List.length_flatten,-List.map_drop,-List.map_take,c70,hv2,hH,hlen,h1,e2]
  simp [varied]
 ·have hset:∀ x,(H.set i x)[i]?=some x:=fun x=>by simp [hi]
  simp (maxSteps:=3000000) [go_sem,-List.length_flatten,-List.map_drop,-List.map_take,c70,hv,hv2,hH,hlen,hlen2,h1,hl,e1,e3,hset]
  simp [varied,hv,hv2]
theorem c69_ok:cFn Tryz.prog an0 Tryz.f69=some c69:=by kernel_rfl
theorem projected_PF (b:Bo) (h1:0≤b.t.sym∧b.t.sym<b.l.length) (h2:0≤b.t.part∧b.t.part<(gi b.l b.t.sym).args.size) (h3:1≤b.t.args.length) (h4:b.s.kind=3→b.s.sym=b.t.sym→b.t.part<b.s.args.length) :
  PF Tryz.prog 69 [sigs b.l,.agg b.s.cs,.agg b.t.cs] (way (takesWay b).1 (takesWay b).2):=by
 refine PFk 9 hm Tryz.func69 c69_ok (Nat.le_of_ble_eq_true rfl) (by simp) (way_RL _ _ _) ?_
 have h3':0<b.t.args.length:=by omega
 have m1:1≤maxA:=Nat.le_of_ble_eq_true rfl
 have m2:2≤maxA:=Nat.le_of_ble_eq_true rfl
 by_cases hk:b.s.kind=1
 ·by_cases hv:byte (gi b.l b.t.sym).args b.t.part=43
  ·simp (maxSteps:=3000000) [go_sem,-List.length_flatten,-List.map_drop,-List.map_take,c69,hk,hv,h1,h2,h3',m1,m2]
   refine FT.letgo 3 9 rfl ?_
   simp (maxSteps:=3000000) [go_sem,-List.length_flatten,-List.map_drop,-List.map_take,fz]
   refine PF.call (parts_PF [(1,gi b.t.args 0)]) 9 (by simp [lePs,chunk]) ?_
   simp (maxSteps:=3000000) [go_sem,-List.length_flatten,-List.map_drop,-List.map_take,Kc]
   simp [takesWay,hk,hv]
  by_cases hv2:byte (gi b.l b.t.sym).args b.t.part=45
  ·simp (maxSteps:=3000000) [go_sem,-List.length_flatten,-List.map_drop,-List.map_take,c69,hk,hv2,h1,h2,h3',m1,m2]
   refine FT.letgo 3 9 rfl ?_
   simp (maxSteps:=3000000) [go_sem,-List.length_flatten,-List.map_drop,-List.map_take,fz]
   refine PF.call (parts_PF [(gi b.t.args 0,0)]) 9 (by simp [lePs,chunk]) ?_
   simp (maxSteps:=3000000) [go_sem,-List.length_flatten,-List.map_drop,-List.map_take,Kc]
   simp [takesWay,hk,hv2]
  ·simp (maxSteps:=3000000) [go_sem,-List.length_flatten,-List.map_drop,-List.map_take,c69,hk,hv,hv2,h1,h2,h3',m1,m2]
   refine FT.letgo 3 9 rfl ?_
   simp (maxSteps:=3000000) [go_sem,-List.length_flatten,-List.map_drop,-List.map_take,fz]
   refine PF.call (parts_PF [(1,gi b.t.args 0),(gi b.t.args 0,0)]) 9 (by simp [lePs,chunk]) ?_
   simp (maxSteps:=3000000) [go_sem,-List.length_flatten,-List.map_drop,-List.map_take,Kc]
   simp [takesWay,hk,hv,hv2]
 by_cases hk3:b.s.kind=3
 ·by_cases hs:b.s.sym=b.t.sym
  ·have h4':=h4 hk3 hs
   simp (maxSteps:=3000000) [go_sem,-List.length_flatten,-List.map_drop,-List.map_take,c69,hk3,hs,h1,h2,h3',h4']
   refine PF.call (pairs0_PF (gi b.s.args b.t.part) (gi b.t.args 0) (byte (gi b.l b.t.sym).args b.t.part)) 9 (by simp [lePs]) ?_
   simp (maxSteps:=3000000) [go_sem,-List.length_flatten,-List.map_drop,-List.map_take,Kc]
   refine PF.call (parts_PF (varied (gi b.s.args b.t.part) (gi b.t.args 0) (byte (gi b.l b.t.sym).args b.t.part))) 9 (by simp [lePs]) ?_
   simp (maxSteps:=3000000) [go_sem,-List.length_flatten,-List.map_drop,-List.map_take,Kc]
   simp [takesWay,hk3,hs]
  ·simp (maxSteps:=3000000) [go_sem,-List.length_flatten,-List.map_drop,-List.map_take,c69,hk3,hs,h1,h2,h3']
   simp [takesWay,hk3,hs]
 ·simp (maxSteps:=3000000) [go_sem,-List.length_flatten,-List.map_drop,-List.map_take,c69,hk,hk3,h1,h2,h3']
  simp [takesWay,hk,hk3]
def an44:An:=⟨[],[1000018]⟩
theorem c44_ok:cFn Tryz.prog an44 Tryz.f44=some c44:=by kernel_rfl
theorem rstep_PF {l:List Sg} {a:Kd} (hF:Fine l a) (x y:Int):PF Tryz.prog 44 [sigs l,.agg a.cs,i64 x,i64 y] (way (stepOf l a x y).1 (stepOf l a x y).2):=by
 refine PFk 9 hm Tryz.func44 c44_ok (Nat.le_of_ble_eq_true rfl) (by simp) (way_RL _ _ _) ?_
 simp (maxSteps:=3000000) [go_sem,-List.length_flatten,-List.map_drop,-List.map_take,c44]
 refine PF.call (rof_PF a x) 9 (by simp [lePs]) ?_
 simp (maxSteps:=3000000) [go_sem,-List.length_flatten,-List.map_drop,-List.map_take,Kc]
 refine PF.call (rof_PF a y) 9 (by simp [lePs]) ?_
 by_cases h1:(termAt a x).2=true
 ·by_cases h2:(termAt a y).2=true
  ·have hs:=(hF.fit (termAt_range h1)).2
   have ht:=(hF.fit (termAt_range h2)).2
   have e0:stepOf l a x y=stepWay ⟨l,x,y,(termAt a x).1,(termAt a y).1⟩:=by simp [stepOf,h1,h2]
   rw [e0]
   generalize (termAt a x).1=s at *
   generalize (termAt a y).1=t at *
   by_cases g0:x=y
   ·simp (maxSteps:=3000000) [go_sem,-List.length_flatten,-List.map_drop,-List.map_take,Kc,h1,h2,g0]
    simp [stepWay]
   by_cases g1:s.kind=0
   ·simp (maxSteps:=3000000) [go_sem,-List.length_flatten,-List.map_drop,-List.map_take,Kc,h1,h2,g0,g1]
    simp [stepWay,g1]
   by_cases g2:t.kind=1
   ·simp (maxSteps:=3000000) [go_sem,-List.length_flatten,-List.map_drop,-List.map_take,Kc,h1,h2,g0,g1,g2]
    simp [stepWay,g2]
   by_cases g3:s.kind=4
   ·have hl:=hs.two (.inl g3)
    have l0:0<s.args.length:=by omega
    have l1:1<s.args.length:=by omega
    have l1':(1:Int)<(s.args.length:Int):=by omega
    have l0':(0:Int)<(s.args.length:Int):=by omega
    simp (maxSteps:=3000000) [go_sem,-List.length_flatten,-List.map_drop,-List.map_take,Kc,h1,h2,g0,g1,g2,g3,l0,l1,l0',l1']
    refine ⟨_,(parts_PF [(gi s.args 0,y),(gi s.args 1,y)]).le 9 (by simp [lePs]) (by simp),?_⟩
    simp (maxSteps:=3000000) [go_sem,-List.length_flatten,-List.map_drop,-List.map_take,Kc]
    simp [stepWay,g0,g1,g2,g3]
   by_cases g4:t.kind=5
   ·have hl:=ht.two (.inr g4)
    have l0:0<t.args.length:=by omega
    have l1:1<t.args.length:=by omega
    have l1':(1:Int)<(t.args.length:Int):=by omega
    have l0':(0:Int)<(t.args.length:Int):=by omega
    simp (maxSteps:=3000000) [go_sem,-List.length_flatten,-List.map_drop,-List.map_take,Kc,h1,h2,g0,g1,g2,g3,g4,l0,l1,l0',l1']
    refine ⟨_,(parts_PF [(x,gi t.args 0),(x,gi t.args 1)]).le 9 (by simp [lePs]) (by simp),?_⟩
    simp (maxSteps:=3000000) [go_sem,-List.length_flatten,-List.map_drop,-List.map_take,Kc]
    simp [stepWay,g0,g1,g2,g3,g4]
   by_cases g5:s.kind=2
   ·simp (maxSteps:=3000000) [go_sem,-List.length_flatten,-List.map_drop,-List.map_take,Kc,h1,h2,g0,g1,g2,g3,g4,g5]
    simp [stepWay,g0,g1,g2,g3,g4,g5]
   by_cases g6:t.kind=2
   ·simp (maxSteps:=3000000) [go_sem,-List.length_flatten,-List.map_drop,-List.map_take,Kc,h1,h2,g0,g1,g2,g3,g4,g5,g6]
    simp [stepWay,g0,g1,g2,g3,g4,g5,g6]
   by_cases g7:t.kind=6
   ·simp (maxSteps:=3000000) [go_sem,-List.length_flatten,-List.map_drop,-List.map_take,Kc,h1,h2,g0,g1,g2,g3,g4,g5,g6,g7]
    obtain ⟨q1,q2,q3⟩:=ht.proj g7
    refine PF.call (projected_PF ⟨l,x,y,s,t⟩ q1 q2 (by simp only;omega) (fun k1 k2=>by
     have:=(hs.con k1).2
     simp only at k2
     rw [k2] at this
     simp only
     omega)) 9 (by simp [lePs,g7]) ?_
    simp (maxSteps:=3000000) [go_sem,-List.length_flatten,-List.map_drop,-List.map_take,Kc]
    simp [stepWay,g0,g1,g2,g3,g4,g5,g6,g7]
   by_cases g8:s.kind=3
   ·by_cases g9:t.kind=3
    ·by_cases g10:s.sym=t.sym
     ·obtain ⟨q1,q2⟩:=hs.con g8
      have q3:=(ht.con g9).2
      have q8:=hs.args hF.short
      simp (maxSteps:=3000000) [go_sem,-List.length_flatten,-List.map_drop,-List.map_take,Kc,h1,h2,g0,g1,g2,g3,g4,g5,g6,g7,g8,g9,g10]
      refine run_loop (fun m T H=>∃ i g:Nat,m=s.args.length - i∧i≤s.args.length∧T=[(14,i64 i),(13,.loc 4 g 0 (consL ⟨l,x,y,s,t⟩ i).length 2 false),(11,.ptr 3 0 0),(9,.ptr 2 0 0),(8,.ptr 1 0 0),(0,sigs l)]∧H=[.cells 0 a.cs,.cells 0 [.int .i64 0,.nilS],.cells 0 s.cs,.cells 0 t.cs,.cells g (fl prc (consL ⟨l,x,y,s,t⟩ i))])
       s.args.length [(14,i64 0),(13,.loc 4 0 0 0 2 false),(11,.ptr 3 0 0),(9,.ptr 2 0 0),(8,.ptr 1 0 0),(0,sigs l)] [.cells 0 a.cs,.cells 0 [.int .i64 0,.nilS],.cells 0 s.cs,.cells 0 t.cs,.cells 0 []]
       ((Wk.nil 13 2 (by simp [Tm.get])).trans (Wk.tell 5 (by omega) (by simp [Tm.get]) (by simp) (by simp [g8,g9,g10]) (by simp [RLB]))) ⟨0,0,by simp,by simp,by simp [consL],by simp [consL,fl]⟩ ?_
      rintro m T H ⟨i,g,rfl,hi,rfl,rfl⟩
      have hcl:=consL_len ⟨l,x,y,s,t⟩ i
      simp (maxSteps:=3000000) [go_sem,-List.length_flatten,-List.map_drop,-List.map_take]
      intro hsa
      refine ⟨fun h=>?_,fun h=>?_⟩
      ·have hit:i<t.args.length:=by rw [q3,←g10,←q2];exact h
       have hib:i<(gi l s.sym).args.size:=by rw [←q2];exact h
       simp (maxSteps:=3000000) [go_sem,-List.length_flatten,-List.map_drop,-List.map_take,h,hit,hib,q1]
       refine FT.mono (pairs_FT 4 g (consL ⟨l,x,y,s,t⟩ i) (gi s.args i) (gi t.args i) (byte (gi l s.sym).args i) _ rfl (by unfold maxA;omega)) ?_
       rintro rv H' ⟨g',rfl,rfl⟩
       simp (maxSteps:=3000000) [go_sem,-List.length_flatten,-List.map_drop,-List.map_take,Kc]
       exact Kl_next (s.args.length - (i+1)) 5 (by omega) ⟨i+1,rfl,h,g',rfl,rfl⟩ (by simp [Tm.get,nxt h hsa,consL]) (by simp) (by simp [consL]) (by simp only [al_cons,al_nil,and_true];exact ⟨by simp [RLB],by simp [RLB],by simp [RLB],by simp [RLB],fl_RL (by simp) _⟩) (by omega)
      ·have e:i=s.args.length:=by omega
       subst e
       refine FT.letgo 4 9 rfl ?_
       have hch:=chunk_fl (f:=prc) (sz:=2) (by simp) (consL ⟨l,x,y,s,t⟩ s.args.length)
       have hfl:=fl_len (f:=prc) (sz:=2) (by simp) (consL ⟨l,x,y,s,t⟩ s.args.length)
       simp (maxSteps:=3000000) [go_sem,-List.length_flatten,-List.map_drop,-List.map_take,fz,hch,hfl]
       refine PF.call (parts_PF (consL ⟨l,x,y,s,t⟩ s.args.length)) 9 (by simp [lePs]) ?_
       simp (maxSteps:=3000000) [go_sem,-List.length_flatten,-List.map_drop,-List.map_take,Kc]
       simp [stepWay,g0,g1,g2,g3,g4,g5,g6,g7,g8,g9,g10]
     ·simp (maxSteps:=3000000) [go_sem,-List.length_flatten,-List.map_drop,-List.map_take,Kc,h1,h2,g0,g1,g2,g3,g4,g5,g6,g7,g8,g9,g10]
      simp [stepWay,g0,g1,g2,g3,g4,g5,g6,g7,g8,g9,g10]
    ·by_cases g10:t.kind=0
     ·simp (maxSteps:=3000000) [go_sem,-List.length_flatten,-List.map_drop,-List.map_take,Kc,h1,h2,g0,g1,g2,g3,g4,g5,g6,g7,g8,g9,g10]
      simp [stepWay,g0,g1,g2,g3,g4,g5,g6,g7,g8,g9,g10]
     ·simp (maxSteps:=3000000) [go_sem,-List.length_flatten,-List.map_drop,-List.map_take,Kc,h1,h2,g0,g1,g2,g3,g4,g5,g6,g7,g8,g9,g10]
      simp [stepWay,g0,g1,g2,g3,g4,g5,g6,g7,g8,g9,g10]
   ·by_cases g9:s.kind=1
    ·by_cases g10:t.kind=0
     ·simp (maxSteps:=3000000) [go_sem,-List.length_flatten,-List.map_drop,-List.map_take,Kc,h1,h2,g0,g1,g2,g3,g4,g5,g6,g7,g8,g9,g10]
      simp [stepWay,g0,g1,g2,g3,g4,g5,g6,g7,g8,g9,g10]
     ·by_cases g11:t.kind=3
      ·simp (maxSteps:=3000000) [go_sem,-List.length_flatten,-List.map_drop,-List.map_take,Kc,h1,h2,g0,g1,g2,g3,g4,g5,g6,g7,g8,g9,g10,g11]
       simp [stepWay,g0,g1,g2,g3,g4,g5,g6,g7,g8,g9,g10,g11]
      ·simp (maxSteps:=3000000) [go_sem,-List.length_flatten,-List.map_drop,-List.map_take,Kc,h1,h2,g0,g1,g2,g3,g4,g5,g6,g7,g8,g9,g10,g11]
       simp [stepWay,g0,g1,g2,g3,g4,g5,g6,g7,g8,g9,g10,g11]
    ·simp (maxSteps:=3000000) [go_sem,-List.length_flatten,-List.map_drop,-List.map_take,Kc,h1,h2,g0,g1,g2,g3,g4,g5,g6,g7,g8,g9]
     simp [stepWay,g0,g1,g2,g3,g4,g5,g6,g7,g8,g9]
  ·simp (maxSteps:=3000000) [go_sem,-List.length_flatten,-List.map_drop,-List.map_take,Kc,h1,h2]
   simp [stepOf,h1,h2]
 ·simp (maxSteps:=3000000) [go_sem,-List.length_flatten,-List.map_drop,-List.map_take,Kc,h1]
  simp [stepOf,h1]
def varyOf (l:List Sg) (t:Tm0) (k:Int):Int:=if t.kind=3 then byte (gi l t.sym).args k else if t.kind=6 then byte (gi l t.sym).args t.part else 43
theorem sideN_vary (l:List Sg) (t:Tm0) (s k:Int):sideN l t s k=turned s (varyOf l t k):=by
 unfold sideN varyOf
 by_cases h6:t.kind=6
 ·simp [h6]
 ·by_cases h3:t.kind=3
  ·simp [h3]
  ·simp [h6,h3,turned]
def partK (l:List Sg) (a:Kd) (t:Tm0) (s:Int) (k:Nat):Bool:=sideMay t s&&decide (∀ j:Nat,j<k→okAt l a (gi t.args j) (sideN l t s j)=true)
theorem partK_zero (l:List Sg) (a:Kd) (t:Tm0) (s:Int):partK l a t s 0=sideMay t s:=by
 have:∀ j:Nat,j<0→okAt l a (gi t.args j) (sideN l t s j)=true:=fun j hj=>by omega
 simp [partK]
theorem partK_succ (l:List Sg) (a:Kd) (t:Tm0) (s:Int) (k:Nat):partK l a t s (k+1)=(partK l a t s k&&okAt l a (gi t.args k) (sideN l t s k)):=by
 unfold partK
 rw [Bool.and_assoc]
 congr 1
 rw [Bool.eq_iff_iff]
 simp only [Bool.and_eq_true,decide_eq_true_eq]
 constructor
 ·exact fun h=>⟨fun j hj=>h j (by omega),h k (by omega)⟩
 ·rintro ⟨h1,h2⟩ j hj
  rcases Nat.lt_or_ge j k with h|h
  ·exact h1 j h
  ·have:j=k:=by omega
   subst this
   exact h2
theorem onS_ok {l:List Sg} {a:Kd} {n s:Int} (h:isSide s):onS s (okAt l a n 76) (okAt l a n 82) (okAt l a n 66)=okAt l a n s:=by
 unfold onS
 rcases h with rfl|rfl|rfl<;>simp
theorem partK_on (l:List Sg) (a:Kd) (t:Tm0) {s:Int} (hs:isSide s) (k:Nat):partK l a t s (k+1)=(partK l a t s k&&onS (turned s (varyOf l t k)) (okAt l a (gi t.args k) 76) (okAt l a (gi t.args k) 82) (okAt l a (gi t.args k) 66)):=by
 rw [partK_succ,onS_ok (turned_side hs _),sideN_vary]
theorem partK_all {l:List Sg} {a:Kd} (hF:Fine l a) {id:Int} (h:0≤id∧id<a.keys.length) (s:Int):partK l a (termAt a id).1 s (termAt a id).1.args.length=okAt l a id s:=by
 rw [Bool.eq_iff_iff,okAt_step hF h]
 simp [partK]
def lst (l:List Sg) (a:Kd) (s:Int) (i:Nat):List AV:=(List.range i).map fun j:Nat=>AV.bool (okAt l a j s)
theorem lst_len (l:List Sg) (a:Kd) (s:Int) (i:Nat):(lst l a s i).length=i:=by simp [lst]
theorem lst_succ (l:List Sg) (a:Kd) (s:Int) (i:Nat):lst l a s (i+1)=lst l a s i++[.bool (okAt l a i s)]:=by simp [lst,List.range_succ]
theorem lst_RL (l:List Sg) (a:Kd) (s:Int) (i n:Nat):∀ y∈lst l a s i,RL n y:=by simp [lst]
theorem lst_load (l:List Sg) (a:Kd) (s:Int) {i:Nat} {n:Int} (h0:0≤n) (h1:n<i):loadCs 1 false ((lst l a s i).drop n.toNat)=some (.bool (okAt l a n s)):=by
 have e:=loadCs_drop (f:=fun b:Bool=>AV.bool b) (l:=(List.range i).map fun j:Nat=>okAt l a j s) (k:=n.toNat) (by simp;omega)
 rw [List.map_map] at e
 have e2:gi ((List.range i).map fun j:Nat=>okAt l a j s) (n.toNat:Nat)=okAt l a n s:=by
  have:n.toNat<i:=by omega
  simp [gi,List.getD,this,Int.toNat_of_nonneg h0]
 rw [e2] at e
 exact e
theorem lst_take (l:List Sg) (a:Kd) (s:Int) (i:Nat):(lst l a s i).take i=lst l a s i:=List.take_of_length_le (by rw [lst_len];exact Nat.le_refl _)
def an48:An:=⟨[],[22,23,24]⟩
theorem c48_ok:cFn Tryz.prog an48 Tryz.f48=some c48:=by kernel_rfl
set_option maxHeartbeats 1000000 in
theorem rsided_PF {l:List Sg} {a:Kd} (hF:Fine l a) (id s:Int):PF Tryz.prog 48 [sigs l,.agg a.cs,i64 id,.int .u8 s] (.bool (sided l a id s)):=by
 refine PFk 9 hm Tryz.func48 c48_ok (Nat.le_of_ble_eq_true rfl) (by simp) (by simp) ?_
 by_cases h0:id<0
 ·have e:sided l a id s=false:=by
   have:¬ (termAt a id).2=true:=fun h=>by have:=termAt_range h;omega
   simp [sided,this]
  simp (maxSteps:=3000000) [go_sem,-List.length_flatten,-List.map_drop,-List.map_take,c48,h0,e]
 by_cases h1:(a.keys.length:Int)≤id
 ·have e:sided l a id s=false:=by
   have:¬ (termAt a id).2=true:=fun h=>by have:=termAt_range h;omega
   simp [sided,this]
  simp (maxSteps:=3000000) [go_sem,-List.length_flatten,-List.map_drop,-List.map_take,c48,h0,h1,e]
 have hr:0≤id∧id<a.keys.length:=by omega
 have hmany:=hF.many
 have esd:sided l a id s=onS s (okAt l a id 76) (okAt l a id 82) (okAt l a id 66):=by
  have e1:=(hF.fit hr).1
  simp only [sided,e1,Bool.true_and]
  unfold nside onS
  by_cases q1:s=76
  ·simp [q1]
  ·by_cases q2:s=82
   ·simp [q2]
   ·simp [q1,q2]
 rw [esd]
 simp (maxSteps:=3000000) [go_sem,-List.length_flatten,-List.map_drop,-List.map_take,c48,h0,h1]
 intro hkl
 have w0:∀ (l:List Sg) (a:Kd) (s:Int),lst l a s 0=[]:=fun _ _ _=>rfl
 refine run_loopK (fun m T H=>∃ i:Nat,m=id.toNat+1 - i∧i≤id.toNat+1∧T=[(12,i64 i),(11,.loc 3 i 0 i 1 false),(10,.loc 2 i 0 i 1 false),(9,.loc 1 i 0 i 1 false),(5,.ptr 0 0 0),(2,i64 id),(3,.int .u8 s),(0,sigs l)]∧H=[.cells 0 a.cs,.cells i (lst l a 76 i),.cells i (lst l a 82 i),.cells i (lst l a 66 i)])
  (id.toNat+1) [(12,i64 0),(11,.loc 3 0 0 0 1 false),(10,.loc 2 0 0 0 1 false),(9,.loc 1 0 0 0 1 false),(5,.ptr 0 0 0),(2,i64 id),(3,.int .u8 s),(0,sigs l)] [.cells 0 a.cs,.cells 0 [],.cells 0 [],.cells 0 []]
  ((((Wk.nil 9 1 (by simp [Tm.get])).trans (Wk.nil 10 1 (by simp [Tm.get]))).trans (Wk.nil 11 1 (by simp [Tm.get]))).trans (Wk.tell 4 (by omega) (by simp [Tm.get]) (by simp) rfl (by simp [RLB]))) ⟨0,by simp,by simp,by simp,by simp [w0]⟩ ?_
 rintro m T H ⟨i,rfl,hi,rfl,rfl⟩ KK kx kr kn
 have l76:=lst_len l a 76 i
 have l82:=lst_len l a 82 i
 have l66:=lst_len l a 66 i
 by_cases hlt:(i:Int)≤id
 ·have hir:(0:Int)≤i∧(i:Int)<a.keys.length:=by omega
  have hfit:=(hF.fit hir).2
  have h8:=hfit.args hF.short
  have a76:=partK_all hF hir 76
  have a82:=partK_all hF hir 82
  have a66:=partK_all hF hir 66
  have hin:IntKind.i64.wrap ((i:Int)+1)=((i+1:Nat):Int):=nxt (n:=a.keys.length) (by omega) hkl
  simp (maxSteps:=3000000) [go_sem,-List.length_flatten,-List.map_drop,-List.map_take,hlt]
  refine PF.call (rof_PF a i) 9 (by simp [lePs]) ?_
  generalize ht:(termAt a i).1=t at *
  have m76:partK l a t 76 0=(!decide (t.kind=5)&&!decide (t.kind=6)):=by
   rw [partK_zero];unfold sideMay
   by_cases k4:t.kind=4
   ·simp [k4]
   ·by_cases k5:t.kind=5
    ·simp [k5]
    ·by_cases k6:t.kind=6<;>simp [k4,k5,k6]
  have m82:partK l a t 82 0=!decide (t.kind=4):=by
   rw [partK_zero];unfold sideMay
   by_cases k4:t.kind=4
   ·simp [k4]
   ·by_cases k5:t.kind=5
    ·simp [k5]
    ·by_cases k6:t.kind=6<;>simp [k4,k5,k6]
  have m66:partK l a t 66 0=(partK l a t 76 0&&partK l a t 82 0):=by
   rw [m76,m82,partK_zero];unfold sideMay
   by_cases k4:t.kind=4
   ·simp [k4]
   ·by_cases k5:t.kind=5
    ·simp [k5]
    ·by_cases k6:t.kind=6<;>simp [k4,k5,k6]
  refine by_way (A:=?G0) (fun key0=>?main0) ?sub0
  case main0 =>
   by_cases k4:t.kind=4
   ·skip
    simp (maxSteps:=3000000) [go_sem,-List.length_flatten,-List.map_drop,-List.map_take,Kc,k4]
    refine run_loopK (fun m T H=>∃ k:Nat,m=t.args.length - k∧k≤t.args.length∧T=[(18,i64 k),(17,.bool (partK l a t 66 k)),(16,.bool (partK l a t 82 k)),(15,.bool (partK l a t 76 k)),(13,.ptr 4 0 0),(12,i64 i),(11,.loc 3 i 0 i 1 false),(10,.loc 2 i 0 i 1 false),(9,.loc 1 i 0 i 1 false),(5,.ptr 0 0 0),(2,i64 id),(3,.int .u8 s),(0,sigs l)]∧H=[.cells 0 a.cs,.cells i (lst l a 76 i),.cells i (lst l a 82 i),.cells i (lst l a 66 i),.cells 0 t.cs])
      t.args.length [(18,i64 0),(17,.bool (partK l a t 66 0)),(16,.bool (partK l a t 82 0)),(15,.bool (partK l a t 76 0)),(13,.ptr 4 0 0),(12,i64 i),(11,.loc 3 i 0 i 1 false),(10,.loc 2 i 0 i 1 false),(9,.loc 1 i 0 i 1 false),(5,.ptr 0 0 0),(2,i64 id),(3,.int .u8 s),(0,sigs l)] [.cells 0 a.cs,.cells i (lst l a 76 i),.cells i (lst l a 82 i),.cells i (lst l a 66 i),.cells 0 t.cs]
      (Wk.tell 5 (by omega) (by simp [Tm.get,m66,m76,m82,k4]) (by simp) (by simp [k4]) (by simp only [al_cons,al_nil,and_true];exact ⟨by simp [RLB],lst_RL _ _ _ _ _,lst_RL _ _ _ _ _,lst_RL _ _ _ _ _,by simp [RLB]⟩)) ⟨0,by simp,by simp,rfl,rfl⟩ ?_
    exact key0 ()
   by_cases k5:t.kind=5
   ·skip
    simp (maxSteps:=3000000) [go_sem,-List.length_flatten,-List.map_drop,-List.map_take,Kc,k5]
    refine run_loopK (fun m T H=>∃ k:Nat,m=t.args.length - k∧k≤t.args.length∧T=[(18,i64 k),(17,.bool (partK l a t 66 k)),(16,.bool (partK l a t 82 k)),(15,.bool (partK l a t 76 k)),(13,.ptr 4 0 0),(12,i64 i),(11,.loc 3 i 0 i 1 false),(10,.loc 2 i 0 i 1 false),(9,.loc 1 i 0 i 1 false),(5,.ptr 0 0 0),(2,i64 id),(3,.int .u8 s),(0,sigs l)]∧H=[.cells 0 a.cs,.cells i (lst l a 76 i),.cells i (lst l a 82 i),.cells i (lst l a 66 i),.cells 0 t.cs])
      t.args.length [(18,i64 0),(17,.bool (partK l a t 66 0)),(16,.bool (partK l a t 82 0)),(15,.bool (partK l a t 76 0)),(13,.ptr 4 0 0),(12,i64 i),(11,.loc 3 i 0 i 1 false),(10,.loc 2 i 0 i 1 false),(9,.loc 1 i 0 i 1 false),(5,.ptr 0 0 0),(2,i64 id),(3,.int .u8 s),(0,sigs l)] [.cells 0 a.cs,.cells i (lst l a 76 i),.cells i (lst l a 82 i),.cells i (lst l a 66 i),.cells 0 t.cs]
      (Wk.tell 5 (by omega) (by simp [Tm.get,m66,m76,m82,k5]) (by simp) (by simp [k5]) (by simp only [al_cons,al_nil,and_true];exact ⟨by simp [RLB],lst_RL _ _ _ _ _,lst_RL _ _ _ _ _,lst_RL _ _ _ _ _,by simp [RLB]⟩)) ⟨0,by simp,by simp,rfl,rfl⟩ ?_
    exact key0 ()
   by_cases k6:t.kind=6
   ·skip
    simp (maxSteps:=3000000) [go_sem,-List.length_flatten,-List.map_drop,-List.map_take,Kc,k6]
    refine run_loopK (fun m T H=>∃ k:Nat,m=t.args.length - k∧k≤t.args.length∧T=[(18,i64 k),(17,.bool (partK l a t 66 k)),(16,.bool (partK l a t 82 k)),(15,.bool (partK l a t 76 k)),(13,.ptr 4 0 0),(12,i64 i),(11,.loc 3 i 0 i 1 false),(10,.loc 2 i 0 i 1 false),(9,.loc 1 i 0 i 1 false),(5,.ptr 0 0 0),(2,i64 id),(3,.int .u8 s),(0,sigs l)]∧H=[.cells 0 a.cs,.cells i (lst l a 76 i),.cells i (lst l a 82 i),.cells i (lst l a 66 i),.cells 0 t.cs])
      t.args.length [(18,i64 0),(17,.bool (partK l a t 66 0)),(16,.bool (partK l a t 82 0)),(15,.bool (partK l a t 76 0)),(13,.ptr 4 0 0),(12,i64 i),(11,.loc 3 i 0 i 1 false),(10,.loc 2 i 0 i 1 false),(9,.loc 1 i 0 i 1 false),(5,.ptr 0 0 0),(2,i64 id),(3,.int .u8 s),(0,sigs l)] [.cells 0 a.cs,.cells i (lst l a 76 i),.cells i (lst l a 82 i),.cells i (lst l a 66 i),.cells 0 t.cs]
      (Wk.tell 5 (by omega) (by simp [Tm.get,m66,m76,m82,k6]) (by simp) (by simp [k6]) (by simp only [al_cons,al_nil,and_true];exact ⟨by simp [RLB],lst_RL _ _ _ _ _,lst_RL _ _ _ _ _,lst_RL _ _ _ _ _,by simp [RLB]⟩)) ⟨0,by simp,by simp,rfl,rfl⟩ ?_
    exact key0 ()
   simp (maxSteps:=3000000) [go_sem,-List.length_flatten,-List.map_drop,-List.map_take,Kc,k4,k5,k6]
   refine run_loopK (fun m T H=>∃ k:Nat,m=t.args.length - k∧k≤t.args.length∧T=[(18,i64 k),(17,.bool (partK l a t 66 k)),(16,.bool (partK l a t 82 k)),(15,.bool (partK l a t 76 k)),(13,.ptr 4 0 0),(12,i64 i),(11,.loc 3 i 0 i 1 false),(10,.loc 2 i 0 i 1 false),(9,.loc 1 i 0 i 1 false),(5,.ptr 0 0 0),(2,i64 id),(3,.int .u8 s),(0,sigs l)]∧H=[.cells 0 a.cs,.cells i (lst l a 76 i),.cells i (lst l a 82 i),.cells i (lst l a 66 i),.cells 0 t.cs])
      t.args.length [(18,i64 0),(17,.bool (partK l a t 66 0)),(16,.bool (partK l a t 82 0)),(15,.bool (partK l a t 76 0)),(13,.ptr 4 0 0),(12,i64 i),(11,.loc 3 i 0 i 1 false),(10,.loc 2 i 0 i 1 false),(9,.loc 1 i 0 i 1 false),(5,.ptr 0 0 0),(2,i64 id),(3,.int .u8 s),(0,sigs l)] [.cells 0 a.cs,.cells i (lst l a 76 i),.cells i (lst l a 82 i),.cells i (lst l a 66 i),.cells 0 t.cs]
      (Wk.tell 5 (by omega) (by simp [Tm.get,m66,m76,m82,k4,k5,k6]) (by simp) (by simp [k4,k5,k6]) (by simp only [al_cons,al_nil,and_true];exact ⟨by simp [RLB],lst_RL _ _ _ _ _,lst_RL _ _ _ _ _,lst_RL _ _ _ _ _,by simp [RLB]⟩)) ⟨0,by simp,by simp,rfl,rfl⟩ ?_
   exact key0 ()
  case sub0 =>
   rintro m T H ⟨k,rfl,hk,rfl,rfl⟩ KI ix ir inn
   by_cases hk1:k<t.args.length
   ·have hp:=hfit.parts k hk1
    have q76:=partK_on l a t (.inl rfl:isSide 76) k
    have q82:=partK_on l a t (.inr (.inl rfl):isSide 82) k
    have q66:=partK_on l a t (.inr (.inr rfl):isSide 66) k
    have L76:=lst_load l a 76 hp.1 hp.2
    have L82:=lst_load l a 82 hp.1 hp.2
    have L66:=lst_load l a 66 hp.1 hp.2
    obtain ⟨p0,p1⟩:=hp
    have hkn:IntKind.i64.wrap ((k:Int)+1)=((k+1:Nat):Int):=nxt (n:=t.args.length) hk1 (by unfold maxA;omega)
    refine by_way (A:=?G1) (fun key1=>?main1) ?sub1
    case main1 =>
     by_cases k6:t.kind=6
     ·obtain ⟨e1,e2,s3⟩:=hfit.proj k6
      have hV:varyOf l t k=byte (gi l t.sym).args t.part:=by simp [varyOf,k6]
      simp (maxSteps:=3000000) [go_sem,-List.length_flatten,-List.map_drop,-List.map_take,hk1,k6,e1,e2]
      intro _
      refine run_markT [(20,.int .u8 (varyOf l t k)),(19,i64 (gi t.args k)),(18,i64 k),(17,.bool (partK l a t 66 k)),(16,.bool (partK l a t 82 k)),(15,.bool (partK l a t 76 k)),(13,.ptr 4 0 0),(12,i64 i),(11,.loc 3 i 0 i 1 false),(10,.loc 2 i 0 i 1 false),(9,.loc 1 i 0 i 1 false),(5,.ptr 0 0 0),(2,i64 id),(3,.int .u8 s),(0,sigs l)] [.cells 0 a.cs,.cells i (lst l a 76 i),.cells i (lst l a 82 i),.cells i (lst l a 66 i),.cells 0 t.cs] (Wk.tell 5 (by omega) (by simp [Tm.get,hV]) (by simp) (by simp [k6]) (by simp only [al_cons,al_nil,and_true];exact ⟨by simp [RLB],lst_RL _ _ _ _ _,lst_RL _ _ _ _ _,lst_RL _ _ _ _ _,by simp [RLB]⟩)) ?_
      exact key1 ()
     by_cases k3:t.kind=3
     ·obtain ⟨e1,s2⟩:=hfit.con k3
      have e2:k<(gi l t.sym).args.size:=by omega
      have hV:varyOf l t k=byte (gi l t.sym).args k:=by simp [varyOf,k3]
      simp (maxSteps:=3000000) [go_sem,-List.length_flatten,-List.map_drop,-List.map_take,hk1,k3,e1,e2]
      intro _
      refine run_markT [(20,.int .u8 (varyOf l t k)),(19,i64 (gi t.args k)),(18,i64 k),(17,.bool (partK l a t 66 k)),(16,.bool (partK l a t 82 k)),(15,.bool (partK l a t 76 k)),(13,.ptr 4 0 0),(12,i64 i),(11,.loc 3 i 0 i 1 false),(10,.loc 2 i 0 i 1 false),(9,.loc 1 i 0 i 1 false),(5,.ptr 0 0 0),(2,i64 id),(3,.int .u8 s),(0,sigs l)] [.cells 0 a.cs,.cells i (lst l a 76 i),.cells i (lst l a 82 i),.cells i (lst l a 66 i),.cells 0 t.cs] (Wk.tell 5 (by omega) (by simp [Tm.get,hV]) (by simp) (by simp [k3]) (by simp only [al_cons,al_nil,and_true];exact ⟨by simp [RLB],lst_RL _ _ _ _ _,lst_RL _ _ _ _ _,lst_RL _ _ _ _ _,by simp [RLB]⟩)) ?_
      exact key1 ()
     ·have hV:varyOf l t k=43:=by simp [varyOf,k3,k6]
      simp (maxSteps:=3000000) [go_sem,-List.length_flatten,-List.map_drop,-List.map_take,hk1,k3,k6]
      intro _
      refine run_markT [(20,.int .u8 (varyOf l t k)),(19,i64 (gi t.args k)),(18,i64 k),(17,.bool (partK l a t 66 k)),(16,.bool (partK l a t 82 k)),(15,.bool (partK l a t 76 k)),(13,.ptr 4 0 0),(12,i64 i),(11,.loc 3 i 0 i 1 false),(10,.loc 2 i 0 i 1 false),(9,.loc 1 i 0 i 1 false),(5,.ptr 0 0 0),(2,i64 id),(3,.int .u8 s),(0,sigs l)] [.cells 0 a.cs,.cells i (lst l a 76 i),.cells i (lst l a 82 i),.cells i (lst l a 66 i),.cells 0 t.cs] (Wk.tell 5 (by omega) (by simp [Tm.get,hV]) (by simp) (by simp) (by simp only [al_cons,al_nil,and_true];exact ⟨by simp [RLB],lst_RL _ _ _ _ _,lst_RL _ _ _ _ _,lst_RL _ _ _ _ _,by simp [RLB]⟩)) ?_
      exact key1 ()
    case sub1 =>
     generalize hVV:varyOf l t k=V at *
     refine by_way (A:=?G2) (fun key2=>?main2) ?sub2
     case main2 =>
      by_cases b76:partK l a t 76 k=true
      ·simp (maxSteps:=3000000) [go_sem,-List.length_flatten,-List.map_drop,-List.map_take,b76]
       refine ⟨_,turn_PF 76 _,?_⟩
       simp (maxSteps:=3000000) [go_sem,-List.length_flatten,-List.map_drop,-List.map_take,Kc,↓L76,↓L82,↓L66,p0,p1]
       refine ⟨_,on_PF _ _ _ _,?_⟩
       refine run_markT [(20,.int .u8 (V)),(19,i64 (gi t.args k)),(18,i64 k),(17,.bool (partK l a t 66 k)),(16,.bool (partK l a t 82 k)),(15,.bool (partK l a t 76 (k+1))),(13,.ptr 4 0 0),(12,i64 i),(11,.loc 3 i 0 i 1 false),(10,.loc 2 i 0 i 1 false),(9,.loc 1 i 0 i 1 false),(5,.ptr 0 0 0),(2,i64 id),(3,.int .u8 s),(0,sigs l)] [.cells 0 a.cs,.cells i (lst l a 76 i),.cells i (lst l a 82 i),.cells i (lst l a 66 i),.cells 0 t.cs] (Wk.tell 5 (by omega) (by simp [Tm.get,q76,b76]) (by simp) (by simp) (by simp only [al_cons,al_nil,and_true];exact ⟨by simp [RLB],lst_RL _ _ _ _ _,lst_RL _ _ _ _ _,lst_RL _ _ _ _ _,by simp [RLB]⟩)) ?_
       exact key2 ()
      ·simp (maxSteps:=3000000) [go_sem,-List.length_flatten,-List.map_drop,-List.map_take,b76]
       refine run_markT [(20,.int .u8 (V)),(19,i64 (gi t.args k)),(18,i64 k),(17,.bool (partK l a t 66 k)),(16,.bool (partK l a t 82 k)),(15,.bool (partK l a t 76 (k+1))),(13,.ptr 4 0 0),(12,i64 i),(11,.loc 3 i 0 i 1 false),(10,.loc 2 i 0 i 1 false),(9,.loc 1 i 0 i 1 false),(5,.ptr 0 0 0),(2,i64 id),(3,.int .u8 s),(0,sigs l)] [.cells 0 a.cs,.cells i (lst l a 76 i),.cells i (lst l a 82 i),.cells i (lst l a 66 i),.cells 0 t.cs] (Wk.tell 5 (by omega) (by simp [Tm.get,q76,b76]) (by simp) (by simp) (by simp only [al_cons,al_nil,and_true];exact ⟨by simp [RLB],lst_RL _ _ _ _ _,lst_RL _ _ _ _ _,lst_RL _ _ _ _ _,by simp [RLB]⟩)) ?_
       exact key2 ()
     case sub2 =>
      refine by_way (A:=?G3) (fun key3=>?main3) ?sub3
      case main3 =>
       by_cases b82:partK l a t 82 k=true
       ·simp (maxSteps:=3000000) [go_sem,-List.length_flatten,-List.map_drop,-List.map_take,b82]
        refine ⟨_,turn_PF 82 _,?_⟩
        simp (maxSteps:=3000000) [go_sem,-List.length_flatten,-List.map_drop,-List.map_take,Kc,↓L76,↓L82,↓L66,p0,p1]
        refine ⟨_,on_PF _ _ _ _,?_⟩
        refine run_markT [(20,.int .u8 (V)),(19,i64 (gi t.args k)),(18,i64 k),(17,.bool (partK l a t 66 k)),(16,.bool (partK l a t 82 (k+1))),(15,.bool (partK l a t 76 (k+1))),(13,.ptr 4 0 0),(12,i64 i),(11,.loc 3 i 0 i 1 false),(10,.loc 2 i 0 i 1 false),(9,.loc 1 i 0 i 1 false),(5,.ptr 0 0 0),(2,i64 id),(3,.int .u8 s),(0,sigs l)] [.cells 0 a.cs,.cells i (lst l a 76 i),.cells i (lst l a 82 i),.cells i (lst l a 66 i),.cells 0 t.cs] (Wk.tell 5 (by omega) (by simp [Tm.get,q82,b82]) (by simp) (by simp) (by simp only [al_cons,al_nil,and_true];exact ⟨by simp [RLB],lst_RL _ _ _ _ _,lst_RL _ _ _ _ _,lst_RL _ _ _ _ _,by simp [RLB]⟩)) ?_
        exact key3 ()
       ·simp (maxSteps:=3000000) [go_sem,-List.length_flatten,-List.map_drop,-List.map_take,b82]
        refine run_markT [(20,.int .u8 (V)),(19,i64 (gi t.args k)),(18,i64 k),(17,.bool (partK l a t 66 k)),(16,.bool (partK l a t 82 (k+1))),(15,.bool (partK l a t 76 (k+1))),(13,.ptr 4 0 0),(12,i64 i),(11,.loc 3 i 0 i 1 false),(10,.loc 2 i 0 i 1 false),(9,.loc 1 i 0 i 1 false),(5,.ptr 0 0 0),(2,i64 id),(3,.int .u8 s),(0,sigs l)] [.cells 0 a.cs,.cells i (lst l a 76 i),.cells i (lst l a 82 i),.cells i (lst l a 66 i),.cells 0 t.cs] (Wk.tell 5 (by omega) (by simp [Tm.get,q82,b82]) (by simp) (by simp) (by simp only [al_cons,al_nil,and_true];exact ⟨by simp [RLB],lst_RL _ _ _ _ _,lst_RL _ _ _ _ _,lst_RL _ _ _ _ _,by simp [RLB]⟩)) ?_
        exact key3 ()
      case sub3 =>
       by_cases b66:partK l a t 66 k=true
       ·simp (maxSteps:=3000000) [go_sem,-List.length_flatten,-List.map_drop,-List.map_take,b66]
        refine ⟨_,turn_PF 66 _,?_⟩
        simp (maxSteps:=3000000) [go_sem,-List.length_flatten,-List.map_drop,-List.map_take,Kc,↓L76,↓L82,↓L66,p0,p1]
        refine ⟨_,on_PF _ _ _ _,?_⟩
        exact inn _ _ (Kl_next (t.args.length - (k+1)) 5 (by omega) ⟨k+1,rfl,hk1,rfl,rfl⟩ (by simp [Tm.get,hkn,q66,b66]) (by simp) rfl (by simp only [al_cons,al_nil,and_true];exact ⟨by simp [RLB],lst_RL _ _ _ _ _,lst_RL _ _ _ _ _,lst_RL _ _ _ _ _,by simp [RLB]⟩) (by omega))
       ·simp (maxSteps:=3000000) [go_sem,-List.length_flatten,-List.map_drop,-List.map_take,b66]
        exact inn _ _ (Kl_next (t.args.length - (k+1)) 5 (by omega) ⟨k+1,rfl,hk1,rfl,rfl⟩ (by simp [Tm.get,hkn,q66,b66]) (by simp) rfl (by simp only [al_cons,al_nil,and_true];exact ⟨by simp [RLB],lst_RL _ _ _ _ _,lst_RL _ _ _ _ _,lst_RL _ _ _ _ _,by simp [RLB]⟩) (by omega))
   ·have e:k=t.args.length:=by omega
    subst e
    simp (maxSteps:=3000000) [go_sem,-List.length_flatten,-List.map_drop,-List.map_take,hk1,ix,l76,l82,l66,lst_take]
    refine fun _ _ _=>⟨by unfold maxA;omega,fun _ _=>⟨by unfold maxA;omega,fun _ _=>⟨by unfold maxA;omega,?_⟩⟩⟩
    exact kn _ _ (Kl_next (id.toNat+1 - (i+1)) 4 (by omega) ⟨i+1,rfl,by omega,rfl,rfl⟩ (by simp [Tm.get,hin]) (by simp) (by simp [lst_succ,a76,a82,a66]) (by simp only [al_cons,al_nil,and_true];exact ⟨by simp [RLB],lst_RL _ _ _ _ _,lst_RL _ _ _ _ _,lst_RL _ _ _ _ _⟩) (by omega))
 ·have hl2:(i:Int)=id+1:=by omega
  have x1:id<(i:Int):=by omega
  have L76:=lst_load l a 76 hr.1 x1
  have L82:=lst_load l a 82 hr.1 x1
  have L66:=lst_load l a 66 hr.1 x1
  have x0:=hr.1
  simp (maxSteps:=3000000) [go_sem,-List.length_flatten,-List.map_drop,-List.map_take,hlt,kx,x0,x1,↓L76,↓L82,↓L66]
  refine ⟨_,on_PF _ _ _ _,?_⟩
  simp (maxSteps:=3000000) [go_sem,-List.length_flatten,-List.map_drop,-List.map_take,Kc]
theorem c81_ok:cFn Tryz.prog an0 Tryz.f81=some c81:=by kernel_rfl
abbrev Pr:=Int×Int
def ltP (p q:Pr):Prop:=p.1<q.1∨(p.1=q.1∧p.2<q.2)
instance (p q:Pr):Decidable (ltP p q):=by unfold ltP;infer_instance
theorem ltP_irr (p:Pr):¬ ltP p p:=by unfold ltP;omega
theorem ltP_trans {p q r:Pr} (h:ltP p q) (k:ltP q r):ltP p r:=by unfold ltP at *;omega
theorem ltP_tot {p q:Pr} (h:¬ ltP p q) (hn:p≠q):ltP q p:=by
 unfold ltP at *
 have:¬ (p.1=q.1∧p.2=q.2):=fun e=>hn (Prod.ext e.1 e.2)
 omega
def layP:List Pr→Pr→List Pr
 | [],p=>[p]
 | q::l,p=>if ltP q p then q::layP l p else if q=p then q::l else p::q::l
theorem layP_split:∀ (l:List Pr) (p:Pr) (k:Nat),k≤l.length→(∀ i:Nat,i<k→ltP (gi l i) p)→(k<l.length→¬ ltP (gi l k) p) →
  layP l p=l.take k++((if k=l.length∨gi l k≠p then [p] else [])++l.drop k)
 | [],p,k,hk,_,_=>by
  have:k=0:=by simpa using hk
  subst this
  simp [layP]
 | q::l,p,0,hk,h1,h2=>by
  have hq:¬ ltP q p:=by simpa [gi] using h2 (by simp)
  rw [layP,if_neg hq]
  by_cases e:q=p
  ·simp [e,gi]
  ·simp [e,gi]
 | q::l,p,k+1,hk,h1,h2=>by
  have hq:ltP q p:=by simpa [gi] using h1 0 (by omega)
  have hgi:∀ i:Nat,gi (q::l) ((i+1:Nat):Int)=gi l i:=fun i=>by simp [gi,List.getD]
  rw [layP,if_pos hq,layP_split l p k (by simpa using hk) (fun i hi=>by rw [←hgi];exact h1 (i+1) (by omega)) (fun hl=>by rw [←hgi];exact h2 (by simpa using hl))]
  rw [hgi]
  simp
theorem mem_layP {l:List Pr} {p x:Pr}:x∈layP l p↔x∈l∨x=p:=by
 induction l with
 | nil=>simp [layP]
 | cons q l ih =>
  rw [layP]
  split
  ·simp [ih,or_assoc]
  ·split
   ·rename_i h
    subst h
    rw [List.mem_cons]
    constructor
    ·exact .inl
    ·rintro (h|h)
     ·exact h
     ·exact .inl h
   ·simp [or_comm,or_left_comm,or_assoc]
theorem layP_rise {l:List Pr} {p:Pr} (h:l.Pairwise ltP):(layP l p).Pairwise ltP:=by
 induction l with
 | nil=>simp [layP]
 | cons q l ih =>
  rw [List.pairwise_cons] at h
  rw [layP]
  split
  ·rename_i hq
   rw [List.pairwise_cons]
   refine ⟨fun x hx=>?_,ih h.2⟩
   rcases mem_layP.1 hx with hx|rfl
   ·exact h.1 x hx
   ·exact hq
  ·split
   ·exact List.pairwise_cons.2 h
   ·rename_i h1 h2
    have hpq:=ltP_tot h1 h2
    rw [List.pairwise_cons]
    refine ⟨fun x hx=>?_,List.pairwise_cons.2 h⟩
    rcases List.mem_cons.1 hx with rfl|hx
    ·exact hpq
    ·exact ltP_trans hpq (h.1 x hx)
theorem Rle_fl {H:AHeap} {i g n:Nat} {c:Bool} {X:List Pr} (h:H[i]?=some (.cells g (fl prc X))) (hn:n=X.length):Rle 9 (prs X) (.loc i g 0 n 2 c) H:=by
 subst hn
 have h1:=fl_len (f:=prc) (sz:=2) (by simp) X
 have h2:=chunk_fl (f:=prc) (sz:=2) (by simp) X
 simp [Rle,frz,h,h1,h2,leP]
theorem lay20_PF (l:List Pr) (p:Pr) (hl:l.length≤1000000):PF Tryz.prog 81 [prs l,.agg [i64 p.1,i64 p.2]] (prs (layP l p)):=by
 have hargs:∀ x∈[prs l,.agg [i64 p.1,i64 p.2]],RL 0 x:=fun x hx=>by
  simp only [List.mem_cons,List.not_mem_nil,or_false] at hx
  rcases hx with rfl|rfl
  ·exact prs_RL _ _
  ·simp
 refine PFk 9 hm Tryz.func81 c81_ok (Nat.le_of_ble_eq_true rfl) hargs (prs_RL _ _) ?_
 have hlA:l.length+2≤maxA:=by unfold maxA;omega
 simp (maxSteps:=3000000) [go_sem,-List.length_flatten,-List.map_drop,-List.map_take,c81]
 refine run_loopK (fun m T H=>∃ k g:Nat,m=l.length - k∧k≤l.length∧(∀ i:Nat,i<k→ltP (gi l i) p)∧T=[(6,i64 k),(5,.loc 1 g 0 k 2 false),(3,.ptr 0 0 0),(0,prs l)]∧H=[.cells 0 [i64 p.1,i64 p.2],.cells g (fl prc (l.take k))])
  l.length [(6,i64 0),(5,.loc 1 0 0 0 2 false),(3,.ptr 0 0 0),(0,prs l)] [.cells 0 [i64 p.1,i64 p.2],.cells 0 []]
  ((Wk.nil 5 2 (by simp [Tm.get])).trans (Wk.tell 2 (by omega) (by simp [Tm.get]) ⟨by simp,by simp,by simp,prs_RL _ _,trivial⟩ rfl (by simp [RLB]))) ⟨0,0,rfl,Nat.zero_le _,fun i hi=>by omega,rfl,by simp [fl]⟩ ?_
 rintro m T H ⟨k,g,rfl,hk,hlt,rfl,rfl⟩ KK kx kr kn
 have hfl:(fl prc (l.take k)).length=k*2:=by
  rw [fl_len (f:=prc) (sz:=2) (by simp),List.length_take,Nat.min_eq_left hk]
 have htk:(fl prc (l.take k)).take (k*2)=fl prc (l.take k):=List.take_of_length_le (by omega)
 by_cases hkl:k<l.length∧ltP (gi l k) p
 ·obtain ⟨h1,h2⟩:=hkl
  have hkn:IntKind.i64.wrap ((k:Int)+1)=((k+1:Nat):Int):=nxt h1 (by omega)
  have hkA:k+1≤maxA:=by omega
  have et:l.take (k+1)=l.take k++[gi l k]:=by
   have e:gi l k=l[k]:=by simp [gi,List.getD,h1]
   rw [List.take_add_one,List.getElem?_eq_getElem h1,e]
   rfl
  have hn:∀ i:Nat,i<k+1→ltP (gi l i) p:=fun i hi=>by
   rcases Nat.lt_or_ge i k with h3|h3
   ·exact hlt i h3
   ·have:i=k:=by omega
    subst this
    exact h2
  have fin:∀ T',al (fun q=>Tm.get T' q.1=q.2) [(6,i64 ((k+1:Nat):Int)),(5,.loc 1 (g+1) 0 (k+1) 2 false),(3,.ptr 0 0 0),(0,prs l)]→KK .normal T' [.cells 0 [i64 p.1,i64 p.2],.cells (g+1) (fl prc (l.take k)++[i64 (gi l k).1,i64 (gi l k).2])]:=fun T' hT =>
   kn _ _ (Kl_next (l.length - (k+1)) 2 (by omega) ⟨k+1,g+1,rfl,h1,hn,rfl,rfl⟩ hT ⟨by simp,by simp,by simp,prs_RL _ _,trivial⟩ (by rw [et,fl_app,fl_cons,fl_nil];rfl) ⟨by simp [RLB],fl_RL (by simp) _,trivial⟩ (by omega))
  by_cases h3:(gi l k).1<p.1
  ·simp (maxSteps:=3000000) [go_sem,-List.length_flatten,-List.map_drop,-List.map_take,h1,h3,hfl,htk,hkA,chunk,aIarr,aindex]
   refine fun _ _ _=>fin _ ?_
   simp [Tm.get,hkn]
  ·have h4:(gi l k).1=p.1:=by unfold ltP at h2;omega
   have h5:(gi l k).2<p.2:=by unfold ltP at h2;omega
   simp (maxSteps:=3000000) [go_sem,-List.length_flatten,-List.map_drop,-List.map_take,h1,h3,h4,h5,hfl,htk,hkA,chunk,aIarr,aindex]
   refine fun _ _ _=>?_
   have fin:=fin
   rw [h4] at fin
   refine fin _ ?_
   simp [Tm.get,hkn]
 ·have hsp:=layP_split l p k hk hlt (fun h=>fun h'=>hkl ⟨h,h'⟩)
  rw [hsp] at kx
  have hkA:k+1≤maxA:=by omega
  have hkA0:k≤maxA:=by omega
  have hdl:((l.drop k).map fun p=>[i64 p.1,i64 p.2]).flatten=fl prc (l.drop k):=rfl
  have hX:(l.take k++[p]).length=k+1:=by simp;omega
  have ha1:fl prc (l.take k)++[i64 p.1,i64 p.2]=fl prc (l.take k++[p]):=by rw [fl_app,fl_cons,fl_nil];rfl
  have hfl1:(fl prc (l.take k++[p])).length=(k+1)*2:=by rw [fl_len (f:=prc) (sz:=2) (by simp),hX]
  have htk1:(fl prc (l.take k++[p])).take ((k+1)*2)=fl prc (l.take k++[p]):=List.take_of_length_le (by omega)
  have hb0:fl prc (l.take k)++fl prc (l.drop k)=fl prc (l.take k++l.drop k):=(fl_app _ _).symm
  have hb1:fl prc (l.take k++[p])++fl prc (l.drop k)=fl prc (l.take k++[p]++l.drop k):=(fl_app _ _).symm
  by_cases h1:k<l.length
  ·have hne:¬ (k:Int)=l.length:=by omega
   have hne':¬ k=l.length:=by omega
   have hlk:¬ l.length≤k:=by omega
   have hlk2:k+(l.length - k)≤maxA:=by omega
   have hlk3:k+1+(l.length - k)≤maxA:=by omega
   have hnl:¬ ltP (gi l k) p:=fun h=>hkl ⟨h1,h⟩
   by_cases h2:gi l k=p
   ·have h3:¬ (gi l k).1<p.1:=by rw [h2];omega
    have h4:(gi l k).1=p.1:=by rw [h2]
    have h5:¬ (gi l k).2<p.2:=by rw [h2];omega
    have h6:(gi l k).2=p.2:=by rw [h2]
    have e:(if k=l.length∨gi l k≠p then [p] else [])=[]:=by rw [if_neg];rintro (h|h);exact hne' h;exact h h2
    rw [e,List.nil_append] at kx
    generalize hQ:Rle 9 (prs (l.take k++l.drop k))=Q at *
    simp (maxSteps:=3000000) [go_sem,-List.length_flatten,-List.map_drop,-List.map_take,h1,h3,h4,h5,hfl,htk,hkA,hkA0,chunk,aIarr,aindex,kx,hne,h6,hlk,hlk2,hlk3,↓hdl,↓hb0]
    refine fun _=>⟨by omega,fun _=>?_⟩
    rw [←hQ]
    refine Rle_fl (X:=l.take k++l.drop k) ?_ ?_
    ·simp
    ·simp
     omega
   ·have e:(if k=l.length∨gi l k≠p then [p] else [])=[p]:=by rw [if_pos (.inr h2)]
    rw [e] at kx
    generalize hQ:Rle 9 (prs (l.take k++([p]++l.drop k)))=Q at *
    by_cases h4:(gi l k).1=p.1
    ·have h3:¬ (gi l k).1<p.1:=by omega
     have h5:¬ (gi l k).2<p.2:=fun h=>hnl (by unfold ltP;omega)
     have h6:¬ (gi l k).2=p.2:=fun h=>h2 (Prod.ext h4 h)
     simp (maxSteps:=3000000) [go_sem,-List.length_flatten,-List.map_drop,-List.map_take,h1,h3,h4,h5,hfl,htk,hkA,hkA0,chunk,aIarr,aindex,kx,hne,h6,hlk,hlk2,hlk3,↓ha1,hfl1,htk1,↓hdl,↓hb1]
     refine fun _ _=>⟨by omega,fun _=>?_⟩
     rw [←hQ]
     refine Rle_fl (X:=l.take k++([p]++l.drop k)) ?_ ?_
     ·simp
     ·simp
      omega
    ·have h3:¬ (gi l k).1<p.1:=fun h=>hnl (by unfold ltP;omega)
     simp (maxSteps:=3000000) [go_sem,-List.length_flatten,-List.map_drop,-List.map_take,h1,h3,h4,hfl,htk,hkA,hkA0,chunk,aIarr,aindex,kx,hne,hlk,hlk2,hlk3,↓ha1,hfl1,htk1,↓hdl,↓hb1]
     refine fun _ _=>⟨by omega,fun _=>?_⟩
     rw [←hQ]
     refine Rle_fl (X:=l.take k++([p]++l.drop k)) ?_ ?_
     ·simp
     ·simp
      omega
  ·have e:k=l.length:=by omega
   have e2:(if k=l.length∨gi l k≠p then [p] else [])=[p]:=by rw [if_pos (.inl e)]
   have e3:l.drop k=[]:=List.drop_of_length_le (by omega)
   have h7:(k:Int)=l.length:=by omega
   have h8:l.length≤k:=by omega
   rw [e2,e3] at kx
   generalize hQ:Rle 9 (prs (l.take k++([p]++[])))=Q at *
   simp (maxSteps:=3000000) [go_sem,-List.length_flatten,-List.map_drop,-List.map_take,h1,h7,h8,hfl,htk,hkA,hkA0,chunk,aIarr,aindex,kx,↓ha1,hfl1,htk1,e3]
   refine fun _ _=>?_
   rw [←hQ]
   refine Rle_fl (X:=l.take k++([p]++[])) ?_ ?_
   ·simp
   ·simp
    omega
theorem parts_le {x:Nd} (h:ndMay x=true):partsN x≤8:=by
 have:=mayKind h
 unfold ndMay at h
 unfold partsN
 have hkk:x.kind=0∨x.kind=1∨x.kind=2∨x.kind=3∨x.kind=4∨x.kind=5∨x.kind=6:=by omega
 rcases hkk with k|k|k|k|k|k|k<;>simp [k] at h ⊢<;>omega
theorem c55_ok:cFn Tryz.prog an0 Tryz.f55=some c55:=by kernel_rfl
theorem right19_PF (l:List Nd) (hl:l.length≤1048576):PF Tryz.prog 55 [nds l] (.bool (rightN l)):=by
 refine PFk 9 hm Tryz.func55 c55_ok (Nat.le_of_ble_eq_true rfl) (by simp) (by simp) ?_
 generalize hQ:Rle 9 (.bool (rightN l))=Q
 simp (maxSteps:=3000000) [go_sem,-List.length_flatten,-List.map_drop,-List.map_take,c55]
 refine run_loopK (fun m T H=>∃ i:Nat,m=l.length - i∧i≤l.length∧(∀ j:Nat,j<i→(ndMay (gi l j)=true∧partsN (gi l j)≤(stk l j).length))∧T=[(4,i64 i),(3,i64 (stk l i).length),(0,nds l)]∧H=[]) l.length
  [(4,i64 (0:Nat)),(3,i64 (0:Nat)),(0,nds l)] [] (Wk.tell 0 (by omega) (by simp [Tm.get]) (by simp) rfl (by simp)) ⟨0,rfl,by omega,fun j hj=>by omega,by simp [stk],rfl⟩ ?_
 rintro m T H ⟨i,rfl,hi,hj,rfl,rfl⟩ KK kx kr kn
 have hle:=stk_le l i
 by_cases h:i<l.length
 ·simp (maxSteps:=3000000) [go_sem,-List.length_flatten,-List.map_drop,-List.map_take,h]
  intro hA
  refine PF.call (rndMay_PF (gi l i)) 9 (by simp [lePs]) ?_
  cases hm1:ndMay (gi l i) with
  | false =>
   have hb:=ndsBad h (by simp [hm1])
   simp (maxSteps:=3000000) [go_sem,-List.length_flatten,-List.map_drop,-List.map_take,Kc,kr]
   rw [←hQ,hb]
   simp (maxSteps:=3000000) [go_sem,-List.length_flatten,-List.map_drop,-List.map_take]
  | true =>
   have hp0:=(mayN hm1).1
   have hp9:=parts_le hm1
   simp (maxSteps:=3000000) [go_sem,-List.length_flatten,-List.map_drop,-List.map_take,Kc,h]
   refine PF.call (parts46_PF (gi l i)) 9 (by simp [lePs]) ?_
   have hw1:IntKind.i64.wrap (((stk l i).length:Int) - partsN (gi l i))=((stk l i).length:Int) - partsN (gi l i):=w64 (by omega) (by omega)
   by_cases h2:partsN (gi l i)≤(stk l i).length
   ·have h2':¬ ((stk l i).length:Int)<partsN (gi l i):=by omega
    have hsi:=stk_int hp0 h2
    have hw2:IntKind.i64.wrap (((stk l i).length:Int) - partsN (gi l i)+1)=((stk l (i+1)).length:Int):=by rw [←hsi];have:=stk_le l (i+1);exact w64 (by omega) (by omega)
    simp (maxSteps:=3000000) [go_sem,-List.length_flatten,-List.map_drop,-List.map_take,Kc,h2',h]
    refine PF.call (parts46_PF (gi l i)) 9 (by simp [lePs]) ?_
    simp (maxSteps:=3000000) [go_sem,-List.length_flatten,-List.map_drop,-List.map_take,Kc,hw1,hw2]
    refine kn _ _ (Kl_next (l.length - (i+1)) 0 (by omega) ⟨i+1,rfl,h,all_next hj ⟨hm1,h2⟩,rfl,rfl⟩ (by simp [Tm.get,nxt h hA]) (by simp) rfl (by simp) (by omega))
   ·have h2':((stk l i).length:Int)<partsN (gi l i):=by omega
    have hb:=ndsBad h (by simp [h2])
    simp (maxSteps:=3000000) [go_sem,-List.length_flatten,-List.map_drop,-List.map_take,Kc,h2',kr]
    rw [←hQ,hb]
    simp (maxSteps:=3000000) [go_sem,-List.length_flatten,-List.map_drop,-List.map_take]
 ·have e:i=l.length:=by omega
  subst e
  have hM:ndsMay l:=hj
  by_cases h1:(stk l l.length).length=1
  ·have h1':((stk l l.length).length:Int)=1:=by omega
   have h0:0<l.length:=by omega
   have hsh:=shp_of hl hM
   have hbal:=bal_open (bal_en hl hM (l.length - 1) (by omega)) 40
   have hts:=hsh.tx (i:=l.length - 1) (by omega)
   have hrn:rightN l=decide ((enN l (l.length - 1)).d≤40):=by simp [rightN,hM,h1]
   rw [hrn] at hQ
   simp (maxSteps:=3000000) [go_sem,-List.length_flatten,-List.map_drop,-List.map_take,h,kx,h1]
   intro _
   refine PF.call (rtext_PF hsh h0) 9 (by simp [lePs]) ?_
   simp (maxSteps:=3000000) [go_sem,-List.length_flatten,-List.map_drop,-List.map_take,Kc]
   generalize (enN l (l.length - 1)).t=s at *
   generalize (enN l (l.length - 1)).d=d at *
   have h00:∀ j:Nat,j≤0→opn s j≤40:=fun j hj=>by
    have:j=0:=by omega
    subst this
    simp [opn,ol]
   refine run_loopK (fun m T H=>∃ i:Nat,m=s.size - i∧i≤s.size∧(∀ j:Nat,j≤i→opn s j≤40)∧T=[(8,i64 i),(7,i64 (opn s i)),(6,.str s)]∧H=[]) s.size
    [(8,i64 (0:Nat)),(7,i64 0),(6,.str s)] [] (Wk.tell 0 (by omega) (by simp [Tm.get]) (by simp) rfl (by simp)) ⟨0,rfl,by omega,h00,by simp [opn,ol],rfl⟩ ?_
   rintro m T H ⟨i,rfl,hi2,hj2,rfl,rfl⟩ KK2 kx2 kr2 kn2
   by_cases h3:i<s.size
   ·have hos:=opn_succ h3
    have hor:=opn_range s i hi2
    have hor2:=opn_range s (i+1) h3
    have hwi:IntKind.i64.wrap ((i:Int)+1)=((i+1:Nat):Int):=by rw [w64 (by omega) (by omega)];omega
    have fin:opn s (i+1)≤40→∀ j:Nat,j≤i+1→opn s j≤40:=fun h4 j hjj=>by
     rcases Nat.lt_or_ge j (i+1) with h5|h5
     ·exact hj2 j (by omega)
     ·have:j=i+1:=by omega
      subst this
      exact h4
    have bad:¬ opn s (i+1)≤40→decide (d≤40)=false:=fun h4=>decide_eq_false fun hd=>h4 ((hbal.2 hd) (i+1) h3)
    have hb:=byte_range s i
    by_cases b1:byte s i=40
    ·have b2:¬ byte s i=41:=by omega
     rw [if_pos b1] at hos
     have hwo:IntKind.i64.wrap (opn s i+1)=opn s (i+1):=by rw [hos];exact w64 (by omega) (by omega)
     by_cases h4:opn s (i+1)≤40
     ·have h4':¬ 40<opn s (i+1):=by omega
      simp (maxSteps:=3000000) [go_sem,-List.length_flatten,-List.map_drop,-List.map_take,h3,b1,b2,hwo,h4']
      intros
      refine kn2 _ _ (Kl_next (s.size - (i+1)) 0 (by omega) ⟨i+1,rfl,h3,fin h4,rfl,rfl⟩ (by simp [Tm.get,hwi]) (by simp) rfl (by simp) (by omega))
     ·have h4':40<opn s (i+1):=by omega
      simp (maxSteps:=3000000) [go_sem,-List.length_flatten,-List.map_drop,-List.map_take,h3,b1,b2,hwo,h4',kr2]
      intros
      rw [←hQ,bad h4]
      simp (maxSteps:=3000000) [go_sem,-List.length_flatten,-List.map_drop,-List.map_take]
    ·by_cases b2:byte s i=41
     ·rw [if_neg b1,if_pos b2] at hos
      have hwo:IntKind.i64.wrap (opn s i - 1)=opn s (i+1):=by rw [hos];exact w64 (by omega) (by omega)
      by_cases h4:opn s (i+1)≤40
      ·have h4':¬ 40<opn s (i+1):=by omega
       simp (maxSteps:=3000000) [go_sem,-List.length_flatten,-List.map_drop,-List.map_take,h3,b1,b2,hwo,h4']
       intros
       refine kn2 _ _ (Kl_next (s.size - (i+1)) 0 (by omega) ⟨i+1,rfl,h3,fin h4,rfl,rfl⟩ (by simp [Tm.get,hwi]) (by simp) rfl (by simp) (by omega))
      ·exact absurd (hj2 i (Nat.le_refl _)) (by omega)
     ·rw [if_neg b1,if_neg b2] at hos
      have h4:opn s (i+1)≤40:=by have:=hj2 i (Nat.le_refl _);omega
      have h4':¬ 40<opn s i:=by omega
      simp (maxSteps:=3000000) [go_sem,-List.length_flatten,-List.map_drop,-List.map_take,h3,b1,b2,h4']
      intros
      refine kn2 _ _ (Kl_next (s.size - (i+1)) 0 (by omega) ⟨i+1,rfl,h3,fin h4,rfl,rfl⟩ (by simp [Tm.get,hwi,hos]) (by simp) rfl (by simp) (by omega))
   ·have hd:decide (d≤40)=true:=decide_eq_true (hbal.1 fun j hjj=>hj2 j (by omega))
    simp (maxSteps:=3000000) [go_sem,-List.length_flatten,-List.map_drop,-List.map_take,h3,kx2]
    intros
    rw [←hQ,hd]
    simp (maxSteps:=3000000) [go_sem,-List.length_flatten,-List.map_drop,-List.map_take]
  ·have h1':¬ ((stk l l.length).length:Int)=1:=by omega
   simp (maxSteps:=3000000) [go_sem,-List.length_flatten,-List.map_drop,-List.map_take,h,kx,h1,h1']
   intros
   rw [←hQ]
   simp (maxSteps:=3000000) [go_sem,-List.length_flatten,-List.map_drop,-List.map_take,rightN,hM,h1]
def ndT (l:List Sg) (names:List ByteArray) (t:Tm0):Nd×Bool :=
 if t.kind=2 then (if names.length≤t.sym then (⟨2,⟨#[]⟩,t.args.length⟩,false) else (⟨2,gi names t.sym,t.args.length⟩,true))
 else if t.kind=3 then (⟨3,(gi l t.sym).name,t.args.length⟩,true)
 else if t.kind=6 then (⟨6,(gi l t.sym).name,t.part+1⟩,true)
 else (⟨t.kind,⟨#[]⟩,t.args.length⟩,true)
def tmFit (l:List Sg) (t:Tm0):Prop:=(t.kind=2→0≤t.sym)∧(t.kind=3∨t.kind=6→0≤t.sym∧t.sym<l.length)∧(t.kind=6→0≤t.part∧t.part<1048576)∧(t.kind=0∨t.kind=1∨t.kind=2→t.args.length=0)∧(t.kind=4∨t.kind=5→t.args.length=2)∧0≤t.kind∧t.kind≤6
theorem flatMap_cong {α β:Type} {f g:α→List β}:∀ {l:List α},(∀ x∈l,f x=g x)→l.flatMap f=l.flatMap g
 | [],_=>rfl
 | x::l,h=>by
  rw [List.flatMap_cons,List.flatMap_cons,h x (by simp),flatMap_cong (fun y hy=>h y (by simp [hy]))]
def treeF (l:List Sg) (a:Kd) (names:List ByteArray):Nat→Int→List Nd
 | 0,_=>[]
 | f+1,n=>(termAt a n).1.args.flatMap (treeF l a names f)++[(ndT l names (termAt a n).1).1]
def treeN (l:List Sg) (a:Kd) (names:List ByteArray) (n:Int):List Nd:=treeF l a names (n.toNat+1) n
theorem treeF_more {l:List Sg} {a:Kd} {names:List ByteArray} (ha:argsIn a):∀ (f:Nat) (n:Nat),n<f→n<a.keys.length→treeF l a names f n=treeN l a names n:=by
 have key:∀ (n:Nat),n<a.keys.length→∀ f g,n<f→n<g→treeF l a names f n=treeF l a names g n:=by
  intro n
  induction n using Nat.strongRecOn with
  | _ n ih =>
   intro hn f g hf hg
   obtain ⟨f',rfl⟩:∃ f',f=f'+1:=⟨f - 1,by omega⟩
   obtain ⟨g',rfl⟩:∃ g',g=g'+1:=⟨g - 1,by omega⟩
   rw [treeF,treeF]
   congr 1
   refine flatMap_cong fun x hx=>?_
   have:=ha n hn x hx
   obtain ⟨m,rfl⟩:∃ m:Nat,x=m:=⟨x.toNat,by omega⟩
   exact ih m (by omega) (by omega) f' g' (by omega) (by omega)
 intro f n hf hn
 exact key n hn f _ hf (by simp)
theorem treeN_eq {l:List Sg} {a:Kd} {names:List ByteArray} (ha:argsIn a) {n:Nat} (hn:n<a.keys.length):treeN l a names n=(termAt a n).1.args.flatMap (treeN l a names)++[(ndT l names (termAt a n).1).1]:=by
 have e:treeN l a names n=treeF l a names (n+1) n:=rfl
 rw [e,treeF]
 congr 1
 refine flatMap_cong fun x hx=>?_
 have:=ha n hn x hx
 obtain ⟨m,rfl⟩:∃ m:Nat,x=m:=⟨x.toNat,by omega⟩
 exact treeF_more ha n m (by omega) (by omega)
structure SF (l:List Sg) (a:Kd):Prop where
 ain:argsIn a
 len:a.keys.length≤1048576
 fit:∀ i:Nat,i<a.keys.length→(termAt a i).2=true∧tmFit l (termAt a i).1∧(termAt a i).1.args.length≤8
def unnamed (l:List Sg) (a:Kd) (names:List ByteArray) (k:Int):Bool:=!(ndT l names (termAt a k).1).2
theorem rightN_spec {l:List Nd} (h:rightN l=true):ndsMay l∧(stk l l.length).length=1∧(enN l (l.length - 1)).d≤40∧0<l.length:=by
 simp only [rightN,Bool.and_eq_true,decide_eq_true_eq] at h
 refine ⟨h.1,h.2.1,h.2.2,?_⟩
 have:=stk_le l l.length
 have:=h.2.1
 omega
theorem mayBe_args {l:List Sg} {many:Int} {t:Tm0} (h:mayBe l many t=true):∀ x∈t.args,0≤x∧x<many:=by
 intro x hx
 unfold mayBe at h
 rw [Bool.and_eq_true,decide_eq_true_eq] at h
 obtain ⟨i,hi,rfl⟩:=List.getElem_of_mem hx
 have:=h.1 i hi
 simpa [gi,List.getD,hi] using this
theorem mayBe_kind {l:List Sg} {many:Int} {t:Tm0} (h:mayBe l many t=true) :
 (if t.kind=0∨t.kind=1 then decide (t.sym=0∧t.part=0∧t.args.length=0)
 else if t.kind=2 then decide (0≤t.sym∧t.part=0∧t.args.length=0)
 else if t.kind=3 then decide ((0≤t.sym∧t.sym<l.length)∧t.part=0∧t.args.length=(gi l t.sym).args.size)
 else if t.kind=4∨t.kind=5 then decide (t.sym=0∧t.part=0∧t.args.length=2)
 else if t.kind=6 then decide ((0≤t.sym∧t.sym<l.length)∧0≤t.part∧t.part<(gi l t.sym).args.size∧t.args.length=1)
 else false)=true:=by
 unfold mayBe at h
 rw [Bool.and_eq_true] at h
 exact h.2
theorem args8 {l:List Sg} (hr:sigRight l=true) {i:Int} (h0:0≤i) (h1:i<l.length):(gi l i).args.size≤8:=by
 unfold sigRight at hr
 rw [Bool.and_eq_true,decide_eq_true_eq] at hr
 obtain ⟨n,rfl⟩:∃ n:Nat,i=n:=⟨i.toNat,by omega⟩
 have h:=(hr.1 n (by omega)).2.1
 unfold argsOk at h
 rw [Bool.and_eq_true,decide_eq_true_eq,decide_eq_true_eq] at h
 exact h.2
theorem mayBe_fitT {l:List Sg} (hr:sigRight l=true) {many:Int} {t:Tm0} (h:mayBe l many t=true):tmFit l t∧t.args.length≤8:=by
 have hk:=mayBe_kind h
 have h8:=fun i h0 h1=>args8 hr (i:=i) h0 h1
 unfold tmFit
 by_cases k0:t.kind=0∨t.kind=1
 ·rw [if_pos k0,decide_eq_true_eq] at hk
  omega
 rw [if_neg k0] at hk
 by_cases k2:t.kind=2
 ·rw [if_pos k2,decide_eq_true_eq] at hk
  omega
 rw [if_neg k2] at hk
 by_cases k3:t.kind=3
 ·rw [if_pos k3,decide_eq_true_eq] at hk
  have:=h8 _ hk.1.1 hk.1.2
  omega
 rw [if_neg k3] at hk
 by_cases k4:t.kind=4∨t.kind=5
 ·rw [if_pos k4,decide_eq_true_eq] at hk
  omega
 rw [if_neg k4] at hk
 by_cases k6:t.kind=6
 ·rw [if_pos k6,decide_eq_true_eq] at hk
  have:=h8 _ hk.1.1 hk.1.2
  omega
 rw [if_neg k6] at hk
 cases hk
theorem right_term {l:List Sg} {a:Kd} (h:storeRight l a=true):hashRight a=true∧2≤a.keys.length∧∀ i:Nat,i<a.keys.length→termOk l a i:=by
 unfold storeRight at h
 rw [Bool.and_eq_true,Bool.and_eq_true,decide_eq_true_eq,decide_eq_true_eq] at h
 exact ⟨h.1.1,h.1.2,h.2⟩
theorem sf_of {l:List Sg} {a:Kd} (hr:sigRight l=true) (hs:storeRight l a=true) (hk:a.keys.length≤1048576):SF l a:=by
 obtain ⟨_,_,ht⟩:=right_term hs
 refine ⟨fun i hi x hx=>mayBe_args (ht i hi).2.1 x hx,hk,fun i hi=>⟨(ht i hi).1,mayBe_fitT hr (ht i hi).2.1⟩⟩
structure Ls where
 b:Kd
 own:List ByteArray
 st:List Int
def ixN (own:List ByteArray) (s:ByteArray):Int:=fstAt (fun x=>decide (x=s)) own
def termL (l:List Sg) (own:List ByteArray) (args:List Int) (n:Nd):Tm0 :=
 ⟨n.kind,if n.kind=2 then (if ixN own n.name<0 then (own.length:Int) else ixN own n.name) else if n.kind=6∨n.kind=3 then fstAt (fun s=>decide (s.name=n.name)) l else 0,if n.kind=6 then n.n - 1 else 0,args⟩
def ownL (own:List ByteArray) (n:Nd):List ByteArray:=if n.kind=2∧ixN own n.name<0 then own++[n.name] else own
def argL (st:List Int) (n:Nd):List Int:=st.drop (st.length - pN n)
def putL (l:List Sg) (limit:Int) (s:Ls) (n:Nd):Kd×Int×Int:=putT l s.b (termL l s.own (argL s.st n) n) limit
def stepL (l:List Sg) (limit:Int) (s:Ls) (n:Nd):Ls:=⟨(putL l limit s n).1,ownL s.own n,s.st.take (s.st.length - pN n)++[(putL l limit s n).2.1]⟩
theorem fst_app {α:Type} [Inhabited α] {p:α→Bool} {l m:List α} (h:0≤fstAt p l):fstAt p (l++m)=fstAt p l:=by
 unfold fstAt at h ⊢
 rw [List.findIdx?_append]
 cases hf:l.findIdx? p with
 | none=>rw [hf] at h;simp at h
 | some i=>simp
theorem fst_end {α:Type} [Inhabited α] {p:α→Bool} {l:List α} {x:α} (h:fstAt p l<0) (hx:p x=true):fstAt p (l++[x])=l.length:=by
 unfold fstAt at h ⊢
 rw [List.findIdx?_append]
 cases hf:l.findIdx? p with
 | none=>simp [hx,List.findIdx?_cons]
 | some i=>rw [hf] at h;simp at h;omega
theorem fst_lt {α:Type} {p:α→Bool} {l:List α}:fstAt p l<l.length:=by
 unfold fstAt
 cases hf:l.findIdx? p with
 | none=>simp only;omega
 | some i =>
  have:=(List.findIdx?_eq_some_iff_findIdx_eq.1 hf).1
  simp only
  omega
theorem fst_at {α:Type} [Inhabited α] {p:α→Bool} {l:List α} (h:0≤fstAt p l):p (gi l (fstAt p l))=true:=by
 unfold fstAt at h ⊢
 cases hf:l.findIdx? p with
 | none=>rw [hf] at h;simp at h
 | some i =>
  obtain ⟨h1,h2,_⟩:=List.findIdx?_eq_some_iff_getElem.1 hf
  simpa [gi,List.getD,h1] using h2
theorem right_put {a:Kd} (h:hashRight a=true) (key:List Int):hashRight (putK a key).1=true:=by
 unfold putK
 by_cases hf:0≤fstAt (fun x=>decide (x=key)) a.keys
 ·rw [if_pos hf];exact h
 rw [if_neg hf]
 unfold hashRight at h ⊢
 rw [Bool.and_eq_true,decide_eq_true_eq] at h
 simp only [decide_true,Bool.and_true,decide_eq_true_eq]
 intro i hi
 rw [List.length_append,List.length_singleton] at hi
 by_cases hl:i<a.keys.length
 ·rw [giApp hl,fst_app (by rw [h.1 i hl];omega),h.1 i hl]
 ·have e:i=a.keys.length:=by omega
  subst e
  rw [giEnd,fst_end (by omega) (by simp)]
theorem putK_len (a:Kd) (key:List Int):(putK a key).1.keys.length≤a.keys.length+1:=by
 unfold putK
 split
 ·simp
 ·simp
theorem putT_hash {l:List Sg} {a:Kd} (h:hashRight a=true) (t:Tm0) (limit:Int):hashRight (putT l a t limit).1=true:=by
 unfold putT
 split
 ·exact h
 split
 ·exact h
 ·exact right_put h _
theorem putT_len (l:List Sg) (a:Kd) (t:Tm0) (limit:Int):(putT l a t limit).1.keys.length≤a.keys.length+1:=by
 unfold putT
 split
 ·simp
 split
 ·simp
 ·exact putK_len a _
def Pre (a b:Kd):Prop:=∃ ks,b.keys=a.keys++ks
theorem Pre.refl (a:Kd):Pre a a:=⟨[],by simp⟩
theorem Pre.trans {a b c:Kd}:Pre a b→Pre b c→Pre a c:=fun ⟨x,h⟩ ⟨y,k⟩=>⟨x++y,by rw [k,h,List.append_assoc]⟩
theorem Pre.len {a b:Kd}:Pre a b→a.keys.length≤b.keys.length:=fun ⟨x,h⟩=>by rw [h];simp
theorem Pre.key {a b:Kd} (h:Pre a b) {i:Nat} (hi:i<a.keys.length):gi b.keys (i:Int)=gi a.keys (i:Int):=by
 obtain ⟨x,h⟩:=h
 rw [h,giApp hi]
theorem Pre.term {a b:Kd} (h:Pre a b) {i:Nat} (hi:i<a.keys.length):termAt b (i:Int)=termAt a (i:Int):=by
 have:=h.len
 rw [termAt_in (by omega) (by omega),termAt_in (by omega) (by omega),h.key hi]
theorem termOf_key (t:Tm0):termOf (keyT t)=(t,true):=by
 have:¬ (keyT t).length<3:=by simp [keyT]
 unfold termOf
 rw [if_neg this]
 cases t
 simp [keyT,gi,List.getD]
theorem putK_pre (a:Kd) (key:List Int):Pre a (putK a key).1:=by
 unfold putK
 split
 ·exact .refl _
 ·exact ⟨[key],rfl⟩
theorem putK_at (a:Kd) (key:List Int):∃ n:Nat,(putK a key).2.1=n∧n<(putK a key).1.keys.length∧gi (putK a key).1.keys (n:Int)=key:=by
 unfold putK
 by_cases h:0≤fstAt (fun x=>decide (x=key)) a.keys
 ·rw [if_pos h]
  have h1:=fst_at h
  have h2:=fst_lt (p:=fun x=>decide (x=key)) (l:=a.keys)
  refine ⟨(fstAt (fun x=>decide (x=key)) a.keys).toNat,by simp only;omega,by simp only;omega,?_⟩
  rw [show (((fstAt (fun x=>decide (x=key)) a.keys).toNat:Nat):Int)=fstAt (fun x=>decide (x=key)) a.keys by omega]
  simpa using h1
 ·rw [if_neg h]
  exact ⟨a.keys.length,rfl,by simp,giEnd⟩
theorem putT_pre (l:List Sg) (a:Kd) (t:Tm0) (limit:Int):Pre a (putT l a t limit).1:=by
 unfold putT
 split
 ·exact .refl _
 split
 ·exact .refl _
 ·exact putK_pre a _
theorem putT_ok {l:List Sg} {a:Kd} {t:Tm0} {limit:Int} (h:(putT l a t limit).2.2=0):mayBe l a.keys.length t=true∧putT l a t limit=((putK a (keyT t)).1,(putK a (keyT t)).2.1,0):=by
 unfold putT at h ⊢
 by_cases h1:mayBe l a.keys.length t=false
 ·rw [if_pos h1] at h;simp at h
 rw [if_neg h1] at h ⊢
 by_cases h2:(putK a (keyT t)).2.2=true∧limit≤a.keys.length
 ·rw [if_pos h2] at h;simp at h
 rw [if_neg h2]
 exact ⟨by simpa using h1,rfl⟩
theorem putT_at {l:List Sg} {a:Kd} {t:Tm0} {limit:Int} (h:(putT l a t limit).2.2=0):∃ n:Nat,(putT l a t limit).2.1=n∧n<(putT l a t limit).1.keys.length∧termAt (putT l a t limit).1 (n:Int)=(t,true):=by
 obtain ⟨_,h2⟩:=putT_ok h
 obtain ⟨n,k1,k2,k3⟩:=putK_at a (keyT t)
 rw [h2]
 refine ⟨n,k1,k2,?_⟩
 simp only
 rw [termAt_in (by omega) (by omega),k3,termOf_key]
theorem right_putK {l:List Sg} {a:Kd} {t:Tm0} (hs:storeRight l a=true) (hm:mayBe l a.keys.length t=true):storeRight l (putK a (keyT t)).1=true:=by
 obtain ⟨h1,h2,h3⟩:=right_term hs
 have hh:=right_put h1 (keyT t)
 have hp:=putK_pre a (keyT t)
 have hl:=hp.len
 unfold storeRight
 rw [Bool.and_eq_true,Bool.and_eq_true,decide_eq_true_eq,decide_eq_true_eq]
 refine ⟨⟨hh,by omega⟩,fun i hi=>?_⟩
 by_cases hia:i<a.keys.length
 ·have:=h3 i hia
  unfold termOk at this ⊢
  rw [hp.term hia]
  exact this
 ·have hk:=putK_len a (keyT t)
  have e:i=a.keys.length:=by omega
  subst e
  have ht:termAt (putK a (keyT t)).1 (a.keys.length:Int)=(t,true):=by
   rw [termAt_in (by omega) (by omega)]
   have:gi (putK a (keyT t)).1.keys (a.keys.length:Int)=keyT t:=by
    unfold putK at hi ⊢
    by_cases h:0≤fstAt (fun x=>decide (x=keyT t)) a.keys
    ·rw [if_pos h] at hi;exact absurd hi (Nat.lt_irrefl _)
    ·rw [if_neg h];exact giEnd
   rw [this,termOf_key]
  unfold termOk
  rw [ht]
  exact ⟨rfl,hm,fun h=>by omega⟩
theorem right_putT {l:List Sg} {a:Kd} (hs:storeRight l a=true) (t:Tm0) (limit:Int):storeRight l (putT l a t limit).1=true:=by
 unfold putT
 by_cases h1:mayBe l a.keys.length t=false
 ·rw [if_pos h1];exact hs
 rw [if_neg h1]
 by_cases h2:(putK a (keyT t)).2.2=true∧limit≤a.keys.length
 ·rw [if_pos h2];exact hs
 rw [if_neg h2]
 exact right_putK hs (by simpa using h1)
def Nmd (l:List Sg) (a:Kd) (names:List ByteArray) (n:Nat):Prop:=∀ x,Rch a n x→unnamed l a names x=false
theorem rch_step {a:Kd} {n m:Nat} (hm:(m:Int)∈(termAt a n).1.args) {y:Int} (h:Rch a m y):Rch a n y:=by
 induction h with
 | self=>exact .arg .self hm
 | arg _ hx ih=>exact .arg ih hx
theorem rch_cases {a:Kd} (ha:argsIn a) {n:Nat} (hn:n<a.keys.length) {y:Int} (h:Rch a n y):y=n∨∃ m:Nat,(m:Int)∈(termAt a n).1.args∧Rch a m y:=by
 induction h with
 | self=>exact .inl rfl
 | arg hz hx ih =>
  rename_i z x
  rcases ih with rfl|⟨m,h1,h2⟩
  ·have:=ha n hn x hx
   obtain ⟨m,rfl⟩:∃ m:Nat,x=m:=⟨x.toNat,by omega⟩
   exact .inr ⟨m,hx,.self⟩
  ·exact .inr ⟨m,h1,.arg h2 hx⟩
theorem Nmd.args {l:List Sg} {a:Kd} {names:List ByteArray} {n m:Nat} (h:Nmd l a names n) (hm:(m:Int)∈(termAt a n).1.args):Nmd l a names m:=fun x hx=>h x (rch_step hm hx)
theorem Nmd.mk {l:List Sg} {a:Kd} {names:List ByteArray} {n:Nat} (ha:argsIn a) (hn:n<a.keys.length) (h0:unnamed l a names n=false) (h:∀ m:Nat,(m:Int)∈(termAt a n).1.args→Nmd l a names m):Nmd l a names n:=fun x hx=>by
 rcases rch_cases ha hn hx with rfl|⟨m,h1,h2⟩
 ·exact h0
 ·exact h m h1 x h2
theorem ndT_more {l:List Sg} {names ns:List ByteArray} {t:Tm0} (hf:t.kind=2→0≤t.sym) (h:(ndT l names t).2=true):ndT l (names++ns) t=ndT l names t:=by
 unfold ndT at h ⊢
 by_cases k:t.kind=2
 ·simp only [if_pos k] at h ⊢
  by_cases hn:(names.length:Int)≤t.sym
  ·rw [if_pos hn] at h;simp at h
  ·have:=hf k
   obtain ⟨n,hn2⟩:∃ n:Nat,t.sym=n:=⟨t.sym.toNat,by omega⟩
   rw [if_neg hn,if_neg (by rw [List.length_append];omega),hn2,giApp (by omega)]
 ·simp only [if_neg k]
theorem tree_more {l:List Sg} {a b:Kd} {names ns:List ByteArray} (hp:Pre a b) (ha:SF l a) (hb:SF l b):∀ n:Nat,n<a.keys.length→Nmd l a names n→treeN l b (names++ns) n=treeN l a names n∧Nmd l b (names++ns) n:=by
 intro n
 induction n using Nat.strongRecOn with
 | _ n ih =>
  intro hn hN
  have hl:=hp.len
  have ht:=hp.term hn
  have h0:=hN n .self
  have hnd:ndT l (names++ns) (termAt a n).1=ndT l names (termAt a n).1:=ndT_more (ha.fit n hn).2.1.1 (by simpa [unnamed] using h0)
  have hin:=ha.ain n hn
  have key:∀ m:Nat,(m:Int)∈(termAt a n).1.args→treeN l b (names++ns) m=treeN l a names m∧Nmd l b (names++ns) m:=fun m hm=>by
   have:=hin m hm
   exact ih m (by omega) (by omega) (hN.args hm)
  constructor
  ·rw [treeN_eq hb.ain (by omega),treeN_eq ha.ain hn,ht,hnd]
   congr 1
   refine flatMap_cong fun x hx=>?_
   have:=hin x hx
   obtain ⟨m,rfl⟩:∃ m:Nat,x=m:=⟨x.toNat,by omega⟩
   exact (key m hx).1
  ·refine Nmd.mk hb.ain (by omega) ?_ (fun m hm=>?_)
   ·unfold unnamed at h0 ⊢
    rw [ht,hnd]
    exact h0
   ·rw [ht] at hm
    exact (key m hm).2
def Al {α β:Type} (R:α→β→Prop):List α→List β→Prop
 | [],[]=>True
 | x::l,y::m=>R x y∧Al R l m
 | _,_=>False
theorem Al.len {α β:Type} {R:α→β→Prop}:∀ {l:List α} {m:List β},Al R l m→l.length=m.length
 | [],[],_=>rfl
 | x::l,y::m,h=>by simp [Al.len h.2]
 | [],y::m,h=>h.elim
 | x::l,[],h=>h.elim
theorem Al.mono {α β:Type} {R S:α→β→Prop} (hR:∀ x y,R x y→S x y):∀ {l:List α} {m:List β},Al R l m→Al S l m
 | [],[],_=>trivial
 | x::l,y::m,h=>⟨hR _ _ h.1,Al.mono hR h.2⟩
 | [],y::m,h=>h.elim
 | x::l,[],h=>h.elim
theorem Al.take {α β:Type} {R:α→β→Prop}:∀ (p:Nat) {l:List α} {m:List β},Al R l m→Al R (l.take p) (m.take p)
 | 0,l,m,h=>by simp [Al]
 | p+1,[],[],_=>by simp [Al]
 | p+1,x::l,y::m,h=>⟨h.1,Al.take p h.2⟩
 | p+1,[],y::m,h=>h.elim
 | p+1,x::l,[],h=>h.elim
theorem Al.drop {α β:Type} {R:α→β→Prop}:∀ (p:Nat) {l:List α} {m:List β},Al R l m→Al R (l.drop p) (m.drop p)
 | 0,l,m,h=>by simpa using h
 | p+1,[],[],_=>by simp [Al]
 | p+1,x::l,y::m,h=>by simpa using Al.drop p h.2
 | p+1,[],y::m,h=>h.elim
 | p+1,x::l,[],h=>h.elim
theorem Al.left {α β:Type} {R:α→β→Prop}:∀ {l:List α} {m:List β},Al R l m→∀ x∈l,∃ y∈m,R x y
 | x::l,y::m,h,z,hz=>by
  rcases List.mem_cons.1 hz with rfl|hz
  ·exact ⟨y,by simp,h.1⟩
  ·obtain ⟨w,h1,h2⟩:=Al.left h.2 z hz
   exact ⟨w,by simp [h1],h2⟩
 | [],y::m,h,_,_=>h.elim
 | x::l,[],h,_,_=>h.elim
def spanN (e:List Nd) (x:En):List Nd:=(e.take (x.r+1)).drop x.s
theorem span_app {e:List Nd} {i j k:Nat} (h1:i≤j) (h2:j≤k) (hk:k≤e.length):(e.take j).drop i++(e.take k).drop j=(e.take k).drop i:=by
 have e1:(e.take k).drop i=((e.take k).take j++(e.take k).drop j).drop i:=by rw [List.take_append_drop]
 rw [e1,List.drop_append_of_le_length (by simp;omega),List.take_take,Nat.min_eq_left h2]
theorem span_kids {e:List Nd}:∀ {st:List En} {j:Nat} (p:Nat),chain j st→j≤e.length→p≤st.length→((st.take p).reverse.flatMap (spanN e))=(e.take j).drop (if p=0 then j else (gi st ((p - 1:Nat):Int)).s)
 | st,j,0,h,hj,_=>by simp
 | [],j,p+1,h,hj,hp=>by simp at hp
 | x::st,j,p+1,h,hj,hp=>by
  obtain ⟨h1,h2,h3⟩:=h
  have hp':p≤st.length:=by simpa using hp
  have ih:=span_kids (e:=e) p h3 (by omega) hp'
  have hc:=(chain_drop p h3 hp').2
  have e1:(if p+1=0 then j else (gi (x::st) ((p+1 - 1:Nat):Int)).s)=(if p=0 then x.s else (gi st ((p - 1:Nat):Int)).s):=by
   cases p with
   | zero=>simp [gi]
   | succ p=>simp [gi]
  rw [e1,List.take_succ_cons,List.reverse_cons,List.flatMap_append,ih]
  simp only [List.flatMap_cons,List.flatMap_nil,List.append_nil,spanN]
  rw [h1,span_app hc (by omega) hj]
def stN (l:List Sg) (limit:Int) (s0:Ls) (e:List Nd):Nat→Ls
 | 0=>s0
 | i+1=>stepL l limit (stN l limit s0 e i) (gi e i)
def okLd (l:List Sg) (limit:Int) (s0:Ls) (e:List Nd) (i:Nat):Prop:=∀ j:Nat,j<i→(putL l limit (stN l limit s0 e j) (gi e j)).2.2=0
theorem nd_ext {x y:Nd} (h1:x.kind=y.kind) (h2:x.name=y.name) (h3:x.n=y.n):x=y:=by
 cases x
 cases y
 simp only at h1 h2 h3
 subst h1 h2 h3
 rfl
theorem node_ok {l:List Sg} {own:List ByteArray} {n:Nd} {A:List Int} {many:Int} (hm:mayBe l many (termL l own A n)=true) (hx:ndMay n=true) (hA:A.length=pN n):ndT l (ownL own n) (termL l own A n)=(n,true):=by
 have hk:=mayKind hx
 have hN:=mayN hx
 have hmk:=mayBe_kind hm
 have hAn:(A.length:Int)=partsN n:=by unfold pN at hA;omega
 have hkk:n.kind=2∨n.kind=3∨n.kind=6∨(n.kind=0∨n.kind=1∨n.kind=4∨n.kind=5):=by omega
 unfold ndMay at hx
 unfold partsN at hAn
 rcases hkk with k|k|k|k
 ·have h0:=hN.2.2.2 (by omega)
  rw [if_neg (by omega),h0] at hAn
  by_cases hi:ixN own n.name<0
  ·have e1:termL l own A n=⟨2,own.length,0,A⟩:=by simp [termL,k,hi]
   have e2:ownL own n=own++[n.name]:=by simp [ownL,k,hi]
   rw [e1,e2]
   unfold ndT
   rw [if_pos rfl,if_neg (by simp only [List.length_append,List.length_singleton];omega)]
   simp only [giEnd]
   exact Prod.ext (nd_ext k.symm rfl (by simp only;omega)) rfl
  ·have e1:termL l own A n=⟨2,ixN own n.name,0,A⟩:=by simp [termL,k,hi]
   have e2:ownL own n=own:=by simp [ownL,hi]
   have h1:=fst_at (p:=fun x=>decide (x=n.name)) (l:=own) (by unfold ixN at hi;omega)
   have h2:=fst_lt (p:=fun x=>decide (x=n.name)) (l:=own)
   rw [e1,e2]
   unfold ndT
   unfold ixN
   rw [if_pos rfl,if_neg (by simp only;omega)]
   refine Prod.ext (nd_ext k.symm (by simpa using h1) (by simp only;omega)) rfl
 ·have e1:termL l own A n=⟨3,fstAt (fun s=>decide (s.name=n.name)) l,0,A⟩:=by simp [termL,k]
  rw [e1] at hmk ⊢
  simp at hmk
  have h1:=fst_at (p:=fun s:Sg=>decide (s.name=n.name)) (l:=l) hmk.1.1
  rw [if_neg (by omega)] at hAn
  unfold ndT
  simp only [if_neg (show ¬ (3:Int)=2 by omega),if_true]
  exact Prod.ext (nd_ext k.symm (by simpa using h1) (by simp only;omega)) rfl
 ·have e1:termL l own A n=⟨6,fstAt (fun s=>decide (s.name=n.name)) l,n.n - 1,A⟩:=by simp [termL,k]
  rw [e1] at hmk ⊢
  simp at hmk
  have h1:=fst_at (p:=fun s:Sg=>decide (s.name=n.name)) (l:=l) hmk.1.1
  unfold ndT
  simp only [if_neg (show ¬ (6:Int)=2 by omega),if_neg (show ¬ (6:Int)=3 by omega),if_true]
  exact Prod.ext (nd_ext k.symm (by simpa using h1) (by simp only;omega)) rfl
 ·have e1:termL l own A n=⟨n.kind,0,0,A⟩:=by
   simp only [termL]
   rw [if_neg (by omega),if_neg (by omega),if_neg (by omega)]
  have hnm:n.name=⟨#[]⟩:=by
   rcases k with k|k|k|k<;>simp [k] at hx<;>exact hx.1
  rw [if_neg (by omega)] at hAn
  rw [e1]
  unfold ndT
  simp only
  rw [if_neg (by omega),if_neg (by omega),if_neg (by omega)]
  exact Prod.ext (nd_ext rfl hnm.symm hAn) rfl
def Rep (l:List Sg) (s:Ls) (e:List Nd) (id:Int) (x:En):Prop:=∃ n:Nat,id=n∧n<s.b.keys.length∧treeN l s.b s.own n=spanN e x∧Nmd l s.b s.own n
structure LInv (l:List Sg) (s0:Ls) (e:List Nd) (i:Nat) (s:Ls):Prop where
 right:storeRight l s.b=true
 pre:Pre s0.b s.b
 own:∃ ns,s.own=s0.own++ns
 al:Al (Rep l s e) s.st.reverse (stk e i)
 few:s.b.keys.length≤s0.b.keys.length+i
theorem LInv.step {l:List Sg} (hr:sigRight l=true) {s0 s:Ls} {e:List Nd} (he:ndsMay e) {i:Nat} (hi:i<e.length) (hb:s0.b.keys.length+e.length≤1000000) {limit:Int} (h:LInv l s0 e i s) (hz:(putL l limit s (gi e i)).2.2=0):LInv l s0 e (i+1) (stepL l limit s (gi e i)):=by
 obtain ⟨h1,h2⟩:=he i hi
 have hN:=mayN h1
 have hpl:pN (gi e i)≤(stk e i).length:=by unfold pN;omega
 have hal:=h.al.len
 rw [List.length_reverse] at hal
 have hr2:storeRight l (stepL l limit s (gi e i)).b=true:=right_putT h.right _ _
 have hp2:Pre s.b (stepL l limit s (gi e i)).b:=putT_pre _ _ _ _
 have hl2:=putT_len l s.b (termL l s.own (argL s.st (gi e i)) (gi e i)) limit
 have hfew:=h.few
 have hl3:(stepL l limit s (gi e i)).b.keys.length≤s.b.keys.length+1:=hl2
 have hsf:=sf_of hr h.right (by omega)
 have hsf2:=sf_of hr hr2 (by omega)
 have hown:∃ ns,(stepL l limit s (gi e i)).own=s.own++ns:=by
  show ∃ ns,ownL s.own (gi e i)=s.own++ns
  unfold ownL
  split
  ·exact ⟨_,rfl⟩
  ·exact ⟨[],by simp⟩
 have hrep:∀ id x,Rep l s e id x→Rep l (stepL l limit s (gi e i)) e id x:=by
  rintro id x ⟨n,rfl,k1,k2,k3⟩
  obtain ⟨ns,hns⟩:=hown
  have:=tree_more (ns:=ns) hp2 hsf hsf2 n k1 k3
  rw [←hns] at this
  exact ⟨n,rfl,by have:=hp2.len;omega,by rw [this.1,k2],this.2⟩
 have hst:(stepL l limit s (gi e i)).st.reverse=(putL l limit s (gi e i)).2.1::s.st.reverse.drop (pN (gi e i)):=by
  show (s.st.take (s.st.length - pN (gi e i))++[(putL l limit s (gi e i)).2.1]).reverse=_
  rw [List.reverse_append,List.reverse_take]
  rw [show s.st.length - (s.st.length - pN (gi e i))=pN (gi e i) by omega]
  rfl
 refine ⟨hr2,h.pre.trans hp2,?_,?_,by omega⟩
 ·obtain ⟨ns,h3⟩:=hown
  obtain ⟨ms,h4⟩:=h.own
  exact ⟨ms++ns,by rw [h3,h4,List.append_assoc]⟩
 rw [hst,stk]
 refine ⟨?_,(h.al.drop _).mono hrep⟩
 obtain ⟨n,k1,k2,k3⟩:=putT_at hz
 have hmb:=(putT_ok hz).1
 have hA:argL s.st (gi e i)=(s.st.reverse.take (pN (gi e i))).reverse:=by
  unfold argL
  rw [List.take_reverse,List.reverse_reverse]
 have hAl:(argL s.st (gi e i)).length=pN (gi e i):=by
  rw [hA,List.length_reverse,List.length_take,List.length_reverse]
  omega
 have hnd:=node_ok hmb h1 hAl
 have hkid:=(h.al.take (pN (gi e i))).mono hrep
 have harg:∀ x∈argL s.st (gi e i),∃ y:En,Rep l (stepL l limit s (gi e i)) e x y:=fun x hx=>by
  rw [hA,List.mem_reverse] at hx
  obtain ⟨y,_,hy⟩:=hkid.left x hx
  exact ⟨y,hy⟩
 have hch:=stk_chain e i (fun j hj=>by
  obtain ⟨q1,q2⟩:=he j (by omega)
  have:=(mayN q1).1
  exact ⟨this,by unfold pN;omega⟩)
 have k2':n<(stepL l limit s (gi e i)).b.keys.length:=k2
 have k3':termAt (stepL l limit s (gi e i)).b n=(termL l s.own (argL s.st (gi e i)) (gi e i),true):=k3
 have hta:(termL l s.own (argL s.st (gi e i)) (gi e i)).args=argL s.st (gi e i):=rfl
 have hnd':ndT l (stepL l limit s (gi e i)).own (termL l s.own (argL s.st (gi e i)) (gi e i))=(gi e i,true):=hnd
 have hfm:∀ {A:List Int} {B:List En},Al (Rep l (stepL l limit s (gi e i)) e) A B→A.reverse.flatMap (treeN l (stepL l limit s (gi e i)).b (stepL l limit s (gi e i)).own)=B.reverse.flatMap (spanN e):=by
  intro A
  induction A with
  | nil =>
   intro B hB
   cases B with
   | nil=>rfl
   | cons _ _=>exact hB.elim
  | cons x A ih =>
   intro B hB
   cases B with
   | nil=>exact hB.elim
   | cons y B =>
    obtain ⟨⟨m,rfl,_,q,_⟩,hB⟩:=hB
    rw [List.reverse_cons,List.flatMap_append,ih hB,List.reverse_cons,List.flatMap_append]
    simp only [List.flatMap_cons,List.flatMap_nil,List.append_nil,q]
 refine ⟨n,k1,k2',?_,?_⟩
 ·have hsp:=span_kids (e:=e) (pN (gi e i)) hch (by omega) hpl
  have hcd:=(chain_drop (pN (gi e i)) hch hpl).2
  rw [treeN_eq hsf2.ain k2',k3',hta,hnd',hA,hfm (h.al.take (pN (gi e i))|>.mono hrep),hsp]
  show _=(e.take (i+1)).drop (if pN (gi e i)=0 then i else (gi (stk e i) ((pN (gi e i) - 1:Nat):Int)).s)
  rw [List.take_succ_eq_append_getElem hi,List.drop_append_of_le_length (by simp;omega)]
  simp [gi,List.getD,hi]
 ·refine Nmd.mk hsf2.ain k2' ?_ (fun m hm=>?_)
  ·unfold unnamed
   rw [k3',hnd']
   rfl
  ·rw [k3',hta] at hm
   obtain ⟨y,q,hq,_,_,q2⟩:=harg _ hm
   have:m=q:=by omega
   subst this
   exact q2
theorem LInv.all {l:List Sg} (hr:sigRight l=true) {s0:Ls} (h0:storeRight l s0.b=true) (hst:s0.st=[]) {e:List Nd} (he:ndsMay e) (hb:s0.b.keys.length+e.length≤1000000) {limit:Int}:∀ i,i≤e.length→okLd l limit s0 e i→LInv l s0 e i (stN l limit s0 e i)
 | 0,_,_=>⟨h0,.refl _,⟨[],by simp [stN]⟩,by simp [stN,hst,stk,Al],by simp [stN]⟩
 | i+1,hi,ho=>(LInv.all hr h0 hst he hb i (by omega) (fun j hj=>ho j (by omega))).step hr he (by omega) hb (ho i (by omega))
theorem right_good {e:List Nd} (he:ndsMay e):goodN e e.length:=fun j hj=>by
 obtain ⟨q1,q2⟩:=he j hj
 have:=(mayN q1).1
 exact ⟨this,by unfold pN;omega⟩
end Go.AM
