/- Contracts of the program's functions. -/
import Derived.Test.YtpdjffpdanmoeaaGreatL7
import Derived.KernelRfl
namespace Go.AM
open Go.Proofs
set_option maxRecDepth 100000
set_option linter.unusedVariables false
set_option linter.unusedSimpArgs false
attribute [local go_sem] Function.comp_def argsT Opd.ev Tm.get put ares mapMo ares1 snilP bldParts bslParts putAt AV.cells AV.one astore aload loadCs callArgs abin abinInt aapp elems appMore appNone preLen aFa aFld apart aExt aPick aNot aLens aEqa cellsK fitsA LK.fitsA leavesA leafA nilD aNilc aCint aCid alive alen alenOk Rle lePs len_flat lit
def c5:AFn:=lit fun m o w i y z p n s t k q r d c f b e a=>⟨48,q (r [i 3 (.box (t 0)),i 6 (.mov (.lit (.bool false)))]) (q (r [i 14 (f 11 []),m 7 14]) (q (r [w 16 4 3,i 17 (f 12 [t 16]),m 15 17,i 18 (.ext (t 15) 0),i 19 (.ext (t 15) 1),i 20 (.ext (t 15) 2),i 8 (.alloc [.nilS,.nilS,.nilS,.nilS,.nilS,.nilS,.nilS,.nilS,.nilS,.nilS,.nilS,.nilS,.nilS,.int .i64 0,.int .i64 0]),s (.store 15 (t 8) (t 18)),m 9 19,m 10 20]) (q (r [m 21 1,a 22 2 3,s (.store 1 (t 22) (t 21))]) (q (r [m 23 2,i 24 (.bin .rem (t 23) (.lit (.int .u8 51))),i 25 (.cint .i64 (t 24)),a 26 3 3,s (.store 1 (t 26) (t 25))]) (q (r [w 28 4 3,i 29 (f 12 [t 28]),m 27 29,i 30 (.ext (t 27) 0),i 31 (.ext (t 27) 1),i 32 (.ext (t 27) 2),i 11 (.alloc [.nilS,.nilS,.nilS,.nilS,.nilS,.nilS,.nilS,.nilS,.nilS,.nilS,.nilS,.nilS,.nilS,.int .i64 0,.int .i64 0]),s (.store 15 (t 11) (t 30)),m 12 31,m 13 32]) (q (q (r [m 33 10,i 34 (.not (t 33)),m 35 34,z 36 13 35,n 37 (.not (t 36)) 35,i 38 (.pick (t 35) (.lit (.bool true)) (t 37))]) (c 38 (q (r [m 39 7,m 6 39]) .ret) .skip)) (q (d [m 40 7,m 41 40,p 42 (.load 15 true (t 8)) 41,p 43 (f 14 [t 42]) 41,p 44 (.load 15 true (t 11)) 41,p 45 (f 14 [t 44]) 41,p 46 (f 13 [t 43,t 45]) 41,i 47 (.pick (t 41) (t 46) (.lit (.bool false))),m 6 47]) .ret))))))),[.tmp 6]⟩
structure Sol (c:Cz) (s:Sy):Prop where
 inv:SInv (fun p=>p∈psC c) (nmC c).length [] s
 w0:s.w.l=[]
 sg:s.sigs=c.sigs
 sa:s.a=stC c
 seen:∀ p∈psC c,seenP s p
 ps:∀ p∈psC c,inP s.a p∧okP c.sigs s.a p
 nv:(nmC c).length≤400
 pl:(psC c).length≤12
theorem LoadedC.sol {c:Cz} (h:LoadedC c):Sol c (endC c):=by
 obtain ⟨h1,h2,h3,⟨h4,h5⟩,h6⟩:=h.fin
 refine ⟨h2,h3,h4,h5,h6,?_,h.lok.names,?_⟩
 ·rw [h5];exact h.ps
 ·have:=psC_len (l:=c.sigs) c.l (newK,[],[],true)
  have h12:=h.small.l12
  simp only [List.length_nil,Nat.zero_add] at this
  exact Nat.le_trans this h12
theorem solved12_PF {c:Cz} (hf:FitC c):(LoadedC c∧∃ s,Sol c s∧PF Tryz.prog 12 [.agg c.cs] (.tuple [.agg s.cs,prs (psC c),.bool true]))∨(¬ LoadedC c∧PF Tryz.prog 12 [.agg c.cs] (.tuple [.agg nil15,.nilS,.bool false])):=by
 classical
 by_cases h:LoadedC c
 ·exact .inl ⟨h,_,h.sol,solvedY_PF h hf⟩
 ·exact .inr ⟨h,solvedN_PF h hf⟩
theorem SInv.src {ps:List (Int×Int)} {nv:Nat} {s:Sy} {l:List Sg} (h:SInv (fun p=>p∈ps) nv [] s) (hw:s.w.l=[]) (h0:∀ p∈ps,seenP s p) (e:s.sigs=l) (hF:Fine l s.a) {v:Int} (hv:0≤v∧v<nv) :
  blwW s.a s.g (fnd s.g.u.v v)=srcK s.a (clM hF ps) (atV s.a v) s.a.keys.length:=by
 subst e
 have hk:=h.lk
 have hat:=h.vok.num v hv
 have har:=termAt_range (kind_is (a:=s.a) (x:=atV s.a v) (by omega))
 refine rise_int (blwW_rise _ _ _) ((rng_rise _).filter _) fun x=>?_
 have hkx:=key_kind h.fine (x:=x)
 have hval:∀ n m:Nat,gi (gi (clM hF ps) (n:Int)) (m:Int)=val (clM hF ps) n m:=fun _ _=>rfl
 obtain ⟨m,hm⟩:∃ m:Nat,atV s.a v=m:=⟨(atV s.a v).toNat,by omega⟩
 constructor
 ·intro hx
  rw [mem_blwW hk (hk.gok.fin hv)] at hx
  obtain ⟨h1,h2⟩:=hx.in hk (hk.gok.fin hv)
  rw [←mem_blwW hk (hk.gok.fin hv),←SInv.below h hw h0 h2 hv] at hx
  unfold srcK
  rw [List.mem_filter,mem_rng]
  refine ⟨h1,?_⟩
  obtain ⟨n,rfl⟩:∃ n:Nat,x=n:=⟨x.toNat,by omega⟩
  rw [hm] at hx har ⊢
  have hc:=(clM_val (hF:=hF) (fs:=ps) (x:=n) (y:=m) (by omega) (by omega)).2 hx
  have hkk:=hkx h1
  rw [hval,hc,hkk.2]
  simpa using h2
 ·intro hx
  unfold srcK at hx
  rw [List.mem_filter,mem_rng] at hx
  obtain ⟨h1,h2⟩:=hx
  obtain ⟨n,rfl⟩:∃ n:Nat,x=n:=⟨x.toNat,by omega⟩
  rw [hm] at h2 har
  rw [hval,(hkx h1).2,Bool.and_eq_true,decide_eq_true_eq] at h2
  have hc:=(clM_val (hF:=hF) (fs:=ps) (x:=n) (y:=m) (by omega) (by omega)).1 h2.1
  rw [←SInv.below h hw h0 h2.2 hv,hm]
  exact hc
theorem c5_ok:cFn Tryz.prog an0 Tryz.f5=some c5:=by kernel_rfl
theorem FitC.re {c:Cz} (h:FitC c) (rk:List Int) (d:Int):FitC ⟨c.sigs,c.l,rk,d⟩:=⟨h.sg,h.nd⟩
theorem tbl_same {c:Cz} {rk:List Int} {d:Int} {s t:Sy} (hs:Sol c s) (ht:Sol ⟨c.sigs,c.l,rk,d⟩ t):tblW s.a s.g (nmC c).length=tblW t.a t.g (nmC c).length:=by
 have ht1:SInv (fun p=>p∈psC c) (nmC c).length [] t:=ht.inv
 have ht2:∀ p∈psC c,seenP t p:=ht.seen
 have hFs:Fine c.sigs s.a:=by rw [←hs.sg];exact hs.inv.fine
 have e:t.a=s.a:=ht.sa.trans hs.sa.symm
 have hFt:Fine c.sigs t.a:=by rw [e];exact hFs
 refine List.map_congr_left fun k hk=>?_
 have hk':k<(nmC c).length:=by simpa using hk
 rw [hs.inv.src hs.w0 hs.seen hs.sg hFs (v:=(k:Int)) (by omega),ht1.src ht.w0 ht2 ht.sg hFt (v:=(k:Int)) (by omega)]
 generalize t.a=A at *
 subst e
 rfl
set_option maxHeartbeats 1000000 in
theorem law5_PF (c:Cz) (hf:FitC c) (rk:List Int) (d:Int) (hd:0≤d∧d<256):PF Tryz.prog 5 [.agg c.cs,ints rk,.int .u8 d] (.bool true):=by
 refine PFk 9 hm Tryz.func5 c5_ok (Nat.le_of_ble_eq_true rfl) (fun x hx=>by
  simp only [List.mem_cons,List.not_mem_nil,or_false] at hx
  rcases hx with rfl|rfl|rfl
  ·exact cz_RL c _ (by simp)
  ·simp
  ·simp) (by simp) ?_
 generalize hQ:Rle 9 (AV.bool true)=Q
 have hsh:=shown11_PF
 have hmod:d.tmod 51=d%51:=Int.tmod_eq_emod_of_nonneg hd.1
 have hmod2:IntKind.i64.wrap (d%51)=d%51:=by rw [w64 (by omega) (by omega)]
 rcases solved12_PF hf with ⟨hL,s,hS,h12⟩|⟨hL,h12⟩
 ·rcases solved12_PF (hf.re rk (d%51)) with ⟨hL2,t,hT,h12b⟩|⟨hL2,h12b⟩
  ·have h1:=table14_PF hS.inv.lk hS.nv
   have h2:=table14_PF hT.inv.lk hT.nv
   have h2':PF Tryz.prog 14 [.agg t.cs] (intss (tblW t.a t.g (nmC c).length)):=h2
   rw [←tbl_same hS hT] at h2'
   have h3:=rows_PF (tblW s.a s.g (nmC c).length) (tblW s.a s.g (nmC c).length)
   rw [decide_eq_true rfl] at h3
   clear h2
   generalize tblW s.a s.g (nmC c).length=W at *
   clear hS hT
   simp (maxSteps:=3000000) [go_sem,-List.length_flatten,-List.map_drop,-List.map_take,c5]
   refine PF.call hsh 9 (by simp [lePs,-List.length_flatten,-List.map_drop,-List.map_take,Function.comp_def,len_flat]) ?_
   simp (maxSteps:=3000000) [go_sem,-List.length_flatten,-List.map_drop,-List.map_take,Kc]
   refine PF.call h12 9 (by simp [lePs,-List.length_flatten,-List.map_drop,-List.map_take,Function.comp_def,len_flat]) ?_
   simp (maxSteps:=3000000) [go_sem,-List.length_flatten,-List.map_drop,-List.map_take,Kc,hmod,hmod2]
   refine PF.call h12b 9 (by simp [lePs,-List.length_flatten,-List.map_drop,-List.map_take,Function.comp_def,len_flat]) ?_
   simp (maxSteps:=3000000) [go_sem,-List.length_flatten,-List.map_drop,-List.map_take,Kc]
   refine ⟨_,h1,_,h2',_,h3,?_⟩
   rw [←hQ]
   simp (maxSteps:=3000000) [go_sem,-List.length_flatten,-List.map_drop,-List.map_take,Rle,frz,leP]
  ·simp (maxSteps:=3000000) [go_sem,-List.length_flatten,-List.map_drop,-List.map_take,c5]
   refine PF.call hsh 9 (by simp [lePs,-List.length_flatten,-List.map_drop,-List.map_take,Function.comp_def,len_flat]) ?_
   simp (maxSteps:=3000000) [go_sem,-List.length_flatten,-List.map_drop,-List.map_take,Kc]
   refine PF.call h12 9 (by simp [lePs,-List.length_flatten,-List.map_drop,-List.map_take,Function.comp_def,len_flat]) ?_
   simp (maxSteps:=3000000) [go_sem,-List.length_flatten,-List.map_drop,-List.map_take,Kc,hmod,hmod2]
   refine PF.call h12b 9 (by simp [lePs,-List.length_flatten,-List.map_drop,-List.map_take,Function.comp_def,len_flat]) ?_
   simp (maxSteps:=3000000) [go_sem,-List.length_flatten,-List.map_drop,-List.map_take,Kc]
   rw [←hQ]
   simp (maxSteps:=3000000) [go_sem,-List.length_flatten,-List.map_drop,-List.map_take,Rle,frz,leP]
 ·have hfin:∀ H,Q (AV.bool true) H:=fun H=>by rw [←hQ];simp [Rle,frz,leP]
  rcases solved12_PF (hf.re rk (d%51)) with ⟨hL2,t,hT,h12b⟩|⟨hL2,h12b⟩
  all_goals
   simp (maxSteps:=3000000) [go_sem,-List.length_flatten,-List.map_drop,-List.map_take,c5]
   refine PF.call hsh 9 (by simp [lePs,-List.length_flatten,-List.map_drop,-List.map_take,Function.comp_def,len_flat]) ?_
   simp (maxSteps:=3000000) [go_sem,-List.length_flatten,-List.map_drop,-List.map_take,Kc]
   refine PF.call h12 9 (by simp [lePs,-List.length_flatten,-List.map_drop,-List.map_take,Function.comp_def,len_flat]) ?_
   simp (maxSteps:=3000000) [go_sem,-List.length_flatten,-List.map_drop,-List.map_take,Kc,hmod,hmod2]
   refine PF.call h12b 9 (by simp [lePs,-List.length_flatten,-List.map_drop,-List.map_take,Function.comp_def,len_flat]) ?_
   simp (maxSteps:=3000000) [go_sem,-List.length_flatten,-List.map_drop,-List.map_take,Kc]
   exact hfin _
def risesTo (l:List Int) (i:Nat):Prop:=∀ j:Nat,1≤j→j<i→j<l.length→gi l (j - 1:Nat)<gi l j
theorem risesTo.one (l:List Int):risesTo l 1:=fun j h1 h2=>by omega
section
variable {ps:List (Int×Int)} {nv:Nat} {s:Sy}
end
def moreC (c:Cz) (m:Cn):Cz:=⟨c.sigs,c.l++[m],c.ranks,c.depth⟩
def FitN (e:List Nd):Prop:=e.length≤1048576∧∀ j:Nat,j<e.length→(gi e j).name.size≤maxA
theorem FitC.more {c:Cz} (h:FitC c) {m:Cn} (hl:FitN m.l) (hr:FitN m.r):FitC (moreC c m):=by
 refine ⟨h.sg,fun i hi=>?_⟩
 have hi':i<c.l.length+1:=by simpa [moreC] using hi
 by_cases e:i=c.l.length
 ·subst e
  have hg:gi (moreC c m).l (c.l.length:Nat)=m:=by simp [moreC,gi,List.getD]
  rw [hg]
  exact ⟨⟨hl.1,hr.1⟩,hl.2,hr.2⟩
 ·have hg:gi (moreC c m).l i=gi c.l i:=giApp (by omega)
  rw [hg]
  exact h.nd i (by omega)
def tyNds:Ty:=.slice (.struct [.int .i64,.str,.int .i64])
def tyCons:Ty:=.struct [tyNds,tyNds]
def tyCase:Ty:=.struct [tySigs,.slice tyCons,tyInts,.int .i64]
def ndsFit (l:List Nd):Prop:=l.length≤lim∧∀ x∈l,(Lit.int .i64 x.kind).wf=true∧x.name.size≤lim∧(Lit.int .i64 x.n).wf=true
theorem is_nds {cs:List AV} (h:tyNds.is cs):∃ l:List Nd,cs=[nds l]∧ndsFit l:=by
 simp only [tyNds,Ty.is,Ty.isL] at h
 obtain ⟨e1,rfl,hl1,hs1⟩:=h
 obtain ⟨l,rfl,hl⟩:=is_rows (f:=fun x:Nd=>x.cs) (p:=fun x=>(Lit.int .i64 x.kind).wf=true∧x.name.size≤lim∧(Lit.int .i64 x.n).wf=true) (fun z hz=>by
  obtain ⟨_,_,rfl,⟨k,rfl,h1⟩,_,_,rfl,⟨s,rfl,h2⟩,_,_,rfl,⟨n,rfl,h3⟩,rfl⟩:=hz
  exact ⟨⟨k,s,n⟩,rfl,h1,h2,h3⟩) hs1
 exact ⟨l,rfl,by simpa using hl1,hl⟩
theorem ndsFit.fit {l:List Nd} (h:ndsFit l):FitN l:=⟨h.1,fun j hj=>by
 have:=(h.2 (gi l j) (gi_mem hj)).2.1
 unfold lim at this
 unfold maxA
 omega⟩
theorem is_cons {cs:List AV} (h:tyCons.is cs):∃ m:Cn,cs=[nds m.l,nds m.r]∧ndsFit m.l∧ndsFit m.r:=by
 simp only [tyCons,Ty.is,Ty.isL] at h
 obtain ⟨_,_,rfl,k1,_,_,rfl,k2,rfl⟩:=h
 obtain ⟨l,rfl,f1⟩:=is_nds k1
 obtain ⟨r,rfl,f2⟩:=is_nds k2
 exact ⟨⟨l,r⟩,rfl,f1,f2⟩
theorem is_case {cs:List AV} (h:tyCase.is cs):∃ c:Cz,cs=c.cs∧FitC c∧c.l.length≤1048576∧intsFit c.ranks:=by
 have h':∃ a b,cs=a++b∧tySigs.is a∧∃ a' b',b=a'++b'∧(∃ es,a'=[.rows false tyCons.size es]∧es.length≤lim∧∀ x∈es,tyCons.is x)∧∃ a2 b2,b'=a2++b2∧tyInts.is a2∧∃ a3 b3,b2=a3++b3∧(∃ n:Int,a3=[.int .i64 n]∧(Lit.int .i64 n).wf=true)∧b3=[]:=by
  simpa [tyCase,Ty.is,Ty.isL] using h
 obtain ⟨_,_,rfl,k1,_,_,rfl,⟨es,rfl,hl1,hs1⟩,_,_,rfl,k3,_,_,rfl,⟨d,rfl,k4⟩,rfl⟩:=h'
 obtain ⟨sg,rfl,f1⟩:=is_sigs k1
 obtain ⟨rk,rfl,f3⟩:=is_ints k3
 obtain ⟨l,rfl,hl⟩:=is_rows (f:=fun c:Cn=>[nds c.l,nds c.r]) (p:=fun c=>ndsFit c.l∧ndsFit c.r) (fun z hz=>is_cons hz) hs1
 have hll:l.length≤1048576:=by simpa [lim] using hl1
 refine ⟨⟨sg,l,rk,d⟩,rfl,⟨f1.args,fun i hi=>?_⟩,hll,f3⟩
 have:=hl (gi l i) (gi_mem hi)
 exact ⟨⟨this.1.fit.1,this.2.fit.1⟩,this.1.fit.2,this.2.fit.2⟩
theorem wf8 {n:Int} (h:(Lit.int .u8 n).wf=true):0≤n∧n<256:=by
 simp [Lit.wf,IntKind.has,IntKind.min,IntKind.max,IntKind.bits,IntKind.signed] at h
 omega
end Go.AM
