/- Contracts of the program's functions. -/
import Derived.Test.YtpdjffpdanmoeaaGreatL7
import Derived.KernelRfl
namespace Go.AM
open Go.Proofs
set_option maxRecDepth 100000
set_option linter.unusedVariables false
set_option linter.unusedSimpArgs false
attribute [local go_sem] Function.comp_def argsT Opd.ev Tm.get put ares mapMo ares1 snilP bldParts bslParts putAt AV.cells AV.one astore aload loadCs callArgs abin abinInt aapp elems appMore appNone preLen aFa aFld apart aExt aPick aNot aLens aEqa cellsK fitsA LK.fitsA leavesA leafA nilD aNilc aCint aCid alive alen alenOk Rle lePs len_flat lit
def c4:AFn:=lit fun m o w i y z p n s t k q r d c f b e a=>⟨48,q (r [i 1 (.box (t 0)),i 2 (.mov (.lit (.bool false)))]) (q (r [i 9 (f 11 []),m 3 9]) (q (r [w 11 4 1,i 12 (f 12 [t 11]),m 10 12,i 13 (.ext (t 10) 0),i 14 (.ext (t 10) 1),i 15 (.ext (t 10) 2),i 4 (.alloc [.nilS,.nilS,.nilS,.nilS,.nilS,.nilS,.nilS,.nilS,.nilS,.nilS,.nilS,.nilS,.nilS,.int .i64 0,.int .i64 0]),s (.store 15 (t 4) (t 13)),m 5 14,m 6 15]) (q (q (r [m 16 6,i 17 (.not (t 16))]) (c 17 (q (r [m 18 3,m 2 18]) .ret) .skip)) (q (r [a 19 0 1,o 20 19,a 21 1 4,w 22 2 21,m 23 5,i 24 (f 21 [t 20,t 22,t 23]),m 7 24]) (q (q (r [i 8 (.mov (k 0))]) (b 0 ((q (q (r [m 25 8,a 26 3 4,a 27 1 26,a 28 0 27,o 29 28,i 30 (.len (t 29)),i 31 (e .lss 25 30)]) (c 31 .skip (.exit 0))) (q (.block 1 (q (d [w 34 15 4,m 35 8,i 36 (f 22 [t 34,t 35]),a 37 1 4,w 38 2 37,m 39 7,a 40 1 4,w 41 2 40,m 42 8,i 43 (f 24 [t 41,t 42]),i 44 (f 23 [t 38,t 39,t 43]),i 45 (f 16 [t 36,t 44]),i 46 (.not (t 45))]) (c 46 (q (r [i 2 (.mov (.lit (.bool false)))]) .ret) .skip))) (r [m 32 8,i 33 (.bin .add (t 32) (k 1)),m 8 33])))))) (q (r [m 47 3,m 2 47]) .ret)))))),[.tmp 2]⟩
theorem c4_ok:cFn Tryz.prog an0 Tryz.f4=some c4:=by kernel_rfl
structure Sol (c:Cz) (s:Sy):Prop where
 inv:SInv (fun p=>p∈psC c) (nmC c).length [] s
 w0:s.w.l=[]
 sg:s.sigs=c.sigs
 sa:s.a=stC c
 seen:∀ p∈psC c,seenP s p
 ps:∀ p∈psC c,inP s.a p∧okP c.sigs s.a p
 nv:(nmC c).length≤400
 pl:(psC c).length≤12
theorem LoadedC.sol {c:Cz} (h:LoadedC c):Sol c (endC c):=by
 obtain ⟨h1,h2,h3,⟨h4,h5⟩,h6⟩:=h.fin
 refine ⟨h2,h3,h4,h5,h6,?_,h.lok.names,?_⟩
 ·rw [h5];exact h.ps
 ·have:=psC_len (l:=c.sigs) c.l (newK,[],[],true)
  have h12:=h.small.l12
  simp only [List.length_nil,Nat.zero_add] at this
  exact Nat.le_trans this h12
theorem solved12_PF {c:Cz} (hf:FitC c):(LoadedC c∧∃ s,Sol c s∧PF Tryz.prog 12 [.agg c.cs] (.tuple [.agg s.cs,prs (psC c),.bool true]))∨(¬ LoadedC c∧PF Tryz.prog 12 [.agg c.cs] (.tuple [.agg nil15,.nilS,.bool false])):=by
 classical
 by_cases h:LoadedC c
 ·exact .inl ⟨h,_,h.sol,solvedY_PF h hf⟩
 ·exact .inr ⟨h,solvedN_PF h hf⟩
theorem SInv.src {ps:List (Int×Int)} {nv:Nat} {s:Sy} {l:List Sg} (h:SInv (fun p=>p∈ps) nv [] s) (hw:s.w.l=[]) (h0:∀ p∈ps,seenP s p) (e:s.sigs=l) (hF:Fine l s.a) {v:Int} (hv:0≤v∧v<nv) :
  blwW s.a s.g (fnd s.g.u.v v)=srcK s.a (clM hF ps) (atV s.a v) s.a.keys.length:=by
 subst e
 have hk:=h.lk
 have hat:=h.vok.num v hv
 have har:=termAt_range (kind_is (a:=s.a) (x:=atV s.a v) (by omega))
 refine rise_int (blwW_rise _ _ _) ((rng_rise _).filter _) fun x=>?_
 have hkx:=key_kind h.fine (x:=x)
 have hval:∀ n m:Nat,gi (gi (clM hF ps) (n:Int)) (m:Int)=val (clM hF ps) n m:=fun _ _=>rfl
 obtain ⟨m,hm⟩:∃ m:Nat,atV s.a v=m:=⟨(atV s.a v).toNat,by omega⟩
 constructor
 ·intro hx
  rw [mem_blwW hk (hk.gok.fin hv)] at hx
  obtain ⟨h1,h2⟩:=hx.in hk (hk.gok.fin hv)
  rw [←mem_blwW hk (hk.gok.fin hv),←SInv.below h hw h0 h2 hv] at hx
  unfold srcK
  rw [List.mem_filter,mem_rng]
  refine ⟨h1,?_⟩
  obtain ⟨n,rfl⟩:∃ n:Nat,x=n:=⟨x.toNat,by omega⟩
  rw [hm] at hx har ⊢
  have hc:=(clM_val (hF:=hF) (fs:=ps) (x:=n) (y:=m) (by omega) (by omega)).2 hx
  have hkk:=hkx h1
  rw [hval,hc,hkk.2]
  simpa using h2
 ·intro hx
  unfold srcK at hx
  rw [List.mem_filter,mem_rng] at hx
  obtain ⟨h1,h2⟩:=hx
  obtain ⟨n,rfl⟩:∃ n:Nat,x=n:=⟨x.toNat,by omega⟩
  rw [hm] at h2 har
  rw [hval,(hkx h1).2,Bool.and_eq_true,decide_eq_true_eq] at h2
  have hc:=(clM_val (hF:=hF) (fs:=ps) (x:=n) (y:=m) (by omega) (by omega)).1 h2.1
  rw [←SInv.below h hw h0 h2.2 hv,hm]
  exact hc
set_option maxHeartbeats 1000000 in
theorem law4_PF (c:Cz) (hf:FitC c):PF Tryz.prog 4 [.agg c.cs] (.bool true):=by
 refine PFk 9 hm Tryz.func4 c4_ok (Nat.le_of_ble_eq_true rfl) (cz_RL c) (by simp) ?_
 generalize hQ:Rle 9 (AV.bool true)=Q
 have hsh:=shown11_PF
 rcases solved12_PF hf with ⟨hL,s,hS,h12⟩|⟨hL,h12⟩
 ·have hk:=hS.inv.lk
  have hlv:=hk.gok.lv
  have hFs:Fine c.sigs s.a:=by rw [←hS.sg];exact hS.inv.fine
  have hput:∀ p∈psC c,Put (fun p=>p∈psC c) hFs p:=fun p hp=>⟨.base hp,(hS.ps p hp).1,(hS.ps p hp).2⟩
  have hpl:=hS.pl
  have hcl:=close21_PF hFs hS.inv.few (psC c) hput (by omega)
  have hsrc:=fun (v:Int) (hv:0≤v∧v<((nmC c).length:Nat))=>hS.inv.src hS.w0 hS.seen hS.sg hFs hv
  have hsh2:=clM_sh hFs (psC c)
  have hnv:=hS.nv
  have hfew:=hS.inv.few
  have hne:∀ i:Nat,i<s.a.keys.length→0<(gi s.a.keys i).length:=fun i hi=>(key_kind hFs (x:=(i:Int)) (by omega)).1
  have hvok:=hS.inv.vok
  have hb:=fun (v:Int) (hv:0≤v∧v<((nmC c).length:Nat))=>below22_PF hk hnv hv
  have hs23:=fun (id:Int) (hid:0≤id∧id<(s.a.keys.length:Nat))=>src23_PF s.a (clM hFs (psC c)) id s.a.keys.length (by omega) rfl hsh2.len (fun i hi=>hsh2.wid i hi) hid hne
  have hsg:=hS.sg
  generalize psC c=ps at *
  generalize clM hFs ps=M at *
  generalize (nmC c).length=nv at *
  clear hput hS
  have hnA:nv≤maxA:=by unfold maxA;omega
  simp (maxSteps:=3000000) [go_sem,-List.length_flatten,-List.map_drop,-List.map_take,c4]
  refine PF.call hsh 9 (by simp [lePs,-List.length_flatten,-List.map_drop,-List.map_take,Function.comp_def,len_flat]) ?_
  simp (maxSteps:=3000000) [go_sem,-List.length_flatten,-List.map_drop,-List.map_take,Kc]
  refine PF.call h12 9 (by simp [lePs,-List.length_flatten,-List.map_drop,-List.map_take,Function.comp_def,len_flat]) ?_
  simp (maxSteps:=3000000) [go_sem,-List.length_flatten,-List.map_drop,-List.map_take,Kc]
  refine PF.call hcl 9 (by simp [lePs,-List.length_flatten,-List.map_drop,-List.map_take,Function.comp_def,len_flat]) ?_
  simp (maxSteps:=3000000) [go_sem,-List.length_flatten,-List.map_drop,-List.map_take,Kc]
  refine run_loopK (fun r T H=>∃ k:Nat,r=nv - k∧k≤nv∧T=[(8,i64 k),(7,boolss M),(4,.ptr 1 0 0),(3,.bool true)]∧H=[.cells 0 c.cs,.cells 0 s.cs])
   nv [(8,i64 (0:Nat)),(7,boolss M),(4,.ptr 1 0 0),(3,.bool true)] [.cells 0 c.cs,.cells 0 s.cs]
   (Wk.sub (by simp [Tm.get])) ⟨0,rfl,Nat.zero_le _,rfl,rfl⟩ ?_
  rintro r T H ⟨k,rfl,hkn,rfl,rfl⟩ KK kx kr kn
  by_cases hkl:k<nv
  ·have hknx:=nxt hkl hnA
   have hki:0≤(k:Int)∧(k:Int)<nv:=by omega
   have hb1:=hb k hki
   have ha1:=at24_PF s.a k
   have hat:=hvok.num k hki
   have hs1:=hs23 (atV s.a k) (termAt_range (kind_is (a:=s.a) (x:=atV s.a k) (by omega)))
   have hi1:=ints_PF (blwW s.a s.g (fnd s.g.u.v k)) (blwW s.a s.g (fnd s.g.u.v k))
   rw [←hsrc k hki] at hs1
   generalize blwW s.a s.g (fnd s.g.u.v k)=B at *
   generalize atV s.a k=A at *
   rw [decide_eq_true rfl] at hi1
   simp (maxSteps:=3000000) [go_sem,-List.length_flatten,-List.map_drop,-List.map_take,hkl,hlv]
   refine fun _=>⟨_,hb1,?_⟩
   simp (maxSteps:=3000000) [go_sem,-List.length_flatten,-List.map_drop,-List.map_take,Kc]
   refine ⟨_,ha1,_,hs1,_,hi1,?_⟩
   simp (maxSteps:=3000000) [go_sem,-List.length_flatten,-List.map_drop,-List.map_take,Kc]
   exact kn _ _ (Kl_sub (nv - (k+1)) ⟨k+1,rfl,by omega,rfl,rfl⟩ (by simp [Tm.get,hknx]) (by omega))
  ·simp (maxSteps:=3000000) [go_sem,-List.length_flatten,-List.map_drop,-List.map_take,hkl,hlv,kx]
   rw [←hQ]
   simp (maxSteps:=3000000) [go_sem,-List.length_flatten,-List.map_drop,-List.map_take,Rle,frz,leP]
 ·simp (maxSteps:=3000000) [go_sem,-List.length_flatten,-List.map_drop,-List.map_take,c4]
  refine PF.call hsh 9 (by simp [lePs,-List.length_flatten,-List.map_drop,-List.map_take,Function.comp_def,len_flat]) ?_
  simp (maxSteps:=3000000) [go_sem,-List.length_flatten,-List.map_drop,-List.map_take,Kc]
  refine PF.call h12 9 (by simp [lePs,-List.length_flatten,-List.map_drop,-List.map_take,Function.comp_def,len_flat]) ?_
  simp (maxSteps:=3000000) [go_sem,-List.length_flatten,-List.map_drop,-List.map_take,Kc]
  rw [←hQ]
  simp (maxSteps:=3000000) [go_sem,-List.length_flatten,-List.map_drop,-List.map_take,Rle,frz,leP]
def risesTo (l:List Int) (i:Nat):Prop:=∀ j:Nat,1≤j→j<i→j<l.length→gi l (j - 1:Nat)<gi l j
theorem risesTo.one (l:List Int):risesTo l 1:=fun j h1 h2=>by omega
section
variable {ps:List (Int×Int)} {nv:Nat} {s:Sy}
end
def moreC (c:Cz) (m:Cn):Cz:=⟨c.sigs,c.l++[m],c.ranks,c.depth⟩
def FitN (e:List Nd):Prop:=e.length≤1048576∧∀ j:Nat,j<e.length→(gi e j).name.size≤maxA
theorem FitC.more {c:Cz} (h:FitC c) {m:Cn} (hl:FitN m.l) (hr:FitN m.r):FitC (moreC c m):=by
 refine ⟨h.sg,fun i hi=>?_⟩
 have hi':i<c.l.length+1:=by simpa [moreC] using hi
 by_cases e:i=c.l.length
 ·subst e
  have hg:gi (moreC c m).l (c.l.length:Nat)=m:=by simp [moreC,gi,List.getD]
  rw [hg]
  exact ⟨⟨hl.1,hr.1⟩,hl.2,hr.2⟩
 ·have hg:gi (moreC c m).l i=gi c.l i:=giApp (by omega)
  rw [hg]
  exact h.nd i (by omega)
def tyNds:Ty:=.slice (.struct [.int .i64,.str,.int .i64])
def tyCons:Ty:=.struct [tyNds,tyNds]
def tyCase:Ty:=.struct [tySigs,.slice tyCons,tyInts,.int .i64]
def ndsFit (l:List Nd):Prop:=l.length≤lim∧∀ x∈l,(Lit.int .i64 x.kind).wf=true∧x.name.size≤lim∧(Lit.int .i64 x.n).wf=true
theorem is_nds {cs:List AV} (h:tyNds.is cs):∃ l:List Nd,cs=[nds l]∧ndsFit l:=by
 simp only [tyNds,Ty.is,Ty.isL] at h
 obtain ⟨e1,rfl,hl1,hs1⟩:=h
 obtain ⟨l,rfl,hl⟩:=is_rows (f:=fun x:Nd=>x.cs) (p:=fun x=>(Lit.int .i64 x.kind).wf=true∧x.name.size≤lim∧(Lit.int .i64 x.n).wf=true) (fun z hz=>by
  obtain ⟨_,_,rfl,⟨k,rfl,h1⟩,_,_,rfl,⟨s,rfl,h2⟩,_,_,rfl,⟨n,rfl,h3⟩,rfl⟩:=hz
  exact ⟨⟨k,s,n⟩,rfl,h1,h2,h3⟩) hs1
 exact ⟨l,rfl,by simpa using hl1,hl⟩
theorem ndsFit.fit {l:List Nd} (h:ndsFit l):FitN l:=⟨h.1,fun j hj=>by
 have:=(h.2 (gi l j) (gi_mem hj)).2.1
 unfold lim at this
 unfold maxA
 omega⟩
theorem is_cons {cs:List AV} (h:tyCons.is cs):∃ m:Cn,cs=[nds m.l,nds m.r]∧ndsFit m.l∧ndsFit m.r:=by
 simp only [tyCons,Ty.is,Ty.isL] at h
 obtain ⟨_,_,rfl,k1,_,_,rfl,k2,rfl⟩:=h
 obtain ⟨l,rfl,f1⟩:=is_nds k1
 obtain ⟨r,rfl,f2⟩:=is_nds k2
 exact ⟨⟨l,r⟩,rfl,f1,f2⟩
theorem is_case {cs:List AV} (h:tyCase.is cs):∃ c:Cz,cs=c.cs∧FitC c∧c.l.length≤1048576∧intsFit c.ranks:=by
 have h':∃ a b,cs=a++b∧tySigs.is a∧∃ a' b',b=a'++b'∧(∃ es,a'=[.rows false tyCons.size es]∧es.length≤lim∧∀ x∈es,tyCons.is x)∧∃ a2 b2,b'=a2++b2∧tyInts.is a2∧∃ a3 b3,b2=a3++b3∧(∃ n:Int,a3=[.int .i64 n]∧(Lit.int .i64 n).wf=true)∧b3=[]:=by
  simpa [tyCase,Ty.is,Ty.isL] using h
 obtain ⟨_,_,rfl,k1,_,_,rfl,⟨es,rfl,hl1,hs1⟩,_,_,rfl,k3,_,_,rfl,⟨d,rfl,k4⟩,rfl⟩:=h'
 obtain ⟨sg,rfl,f1⟩:=is_sigs k1
 obtain ⟨rk,rfl,f3⟩:=is_ints k3
 obtain ⟨l,rfl,hl⟩:=is_rows (f:=fun c:Cn=>[nds c.l,nds c.r]) (p:=fun c=>ndsFit c.l∧ndsFit c.r) (fun z hz=>is_cons hz) hs1
 have hll:l.length≤1048576:=by simpa [lim] using hl1
 refine ⟨⟨sg,l,rk,d⟩,rfl,⟨f1.args,fun i hi=>?_⟩,hll,f3⟩
 have:=hl (gi l i) (gi_mem hi)
 exact ⟨⟨this.1.fit.1,this.2.fit.1⟩,this.1.fit.2,this.2.fit.2⟩
end Go.AM
