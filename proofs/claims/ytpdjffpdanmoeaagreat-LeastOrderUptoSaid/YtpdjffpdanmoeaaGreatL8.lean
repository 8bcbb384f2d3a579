/- Contracts of the program's functions. -/
import Derived.Test.YtpdjffpdanmoeaaGreatL7
import Derived.KernelRfl
namespace Go.AM
open Go.Proofs
set_option maxRecDepth 100000
set_option linter.unusedVariables false
set_option linter.unusedSimpArgs false
attribute [local go_sem] Function.comp_def argsT Opd.ev Tm.get put ares mapMo ares1 snilP bldParts bslParts putAt AV.cells AV.one astore aload loadCs callArgs abin abinInt aapp elems appMore appNone preLen aFa aFld apart aExt aPick aNot aLens aEqa cellsK fitsA LK.fitsA leavesA leafA nilD aNilc aCint aCid alive alen alenOk Rle lePs len_flat lit
def c6:AFn:=lit fun m o w i y z p n s t k q r d c f b e a=>⟨93,q (r [i 1 (.box (t 0)),i 2 (.mov (.lit (.bool false)))]) (q (r [i 9 (f 11 []),m 3 9]) (q (r [w 11 4 1,i 12 (f 12 [t 11]),m 10 12,i 13 (.ext (t 10) 0),i 14 (.ext (t 10) 1),i 15 (.ext (t 10) 2),i 4 (.alloc [.nilS,.nilS,.nilS,.nilS,.nilS,.nilS,.nilS,.nilS,.nilS,.nilS,.nilS,.nilS,.nilS,.int .i64 0,.int .i64 0]),s (.store 15 (t 4) (t 13)),m 5 14,m 6 15]) (q (q (r [m 16 6,i 17 (.not (t 16))]) (c 17 (q (r [m 18 3,m 2 18]) .ret) .skip)) (q (r [a 19 3 4,w 20 6 19,i 21 (f 17 [t 20]),m 7 21]) (q (q (r [i 8 (.mov (k 0))]) (b 0 ((q (q (r [m 22 8,m 23 7,i 24 (.len (t 23)),i 25 (e .lss 22 24)]) (c 25 .skip (.exit 0))) (q (.block 1 (q (d [m 28 7,m 29 8,i 30 (.ia 1 (t 28) (t 29)),o 31 30,i 32 (.bin .lss (t 31) (k 0)),m 33 32,z 34 7 33,z 35 8 33,n 36 (.ia 1 (t 34) (t 35)) 33,n 37 (.load 1 false (t 36)) 33,n 38 (.fa 3 (t 4)) 33,n 39 (.fa 1 (t 38)) 33,n 40 (.fa 0 (t 39)) 33,n 41 (.load 1 false (t 40)) 33,n 42 (.len (t 41)) 33,n 43 (e .geq 37 42) 33,i 44 (.pick (t 33) (.lit (.bool true)) (t 43)),m 45 44,n 46 (.fa 3 (t 4)) 45,n 47 (.fa 1 (t 46)) 45,n 48 (.fa 0 (t 47)) 45,n 49 (.load 1 false (t 48)) 45,z 50 7 45,z 51 8 45,n 52 (.ia 1 (t 50) (t 51)) 45,n 53 (.load 1 false (t 52)) 45,n 54 (.ia 1 (t 49) (t 53)) 45,n 55 (.load 1 false (t 54)) 45,z 56 7 45,z 57 8 45,n 58 (.ia 1 (t 56) (t 57)) 45,n 59 (.load 1 false (t 58)) 45,n 60 (e .neq 55 59) 45,i 61 (.pick (t 45) (.lit (.bool true)) (t 60)),m 62 61,z 63 8 62,n 64 (.bin .gtr (t 63) (k 0)) 62,z 65 64 62,p 66 (.fa 3 (t 4)) 65,p 67 (.fa 0 (t 66)) 65,p 68 (.load 1 false (t 67)) 65,y 69 7 65,y 70 8 65,p 71 (.bin .sub (t 70) (k 1)) 65,p 72 (.ia 1 (t 69) (t 71)) 65,p 73 (.load 1 false (t 72)) 65,y 74 7 65,y 75 8 65,p 76 (.ia 1 (t 74) (t 75)) 65,p 77 (.load 1 false (t 76)) 65,p 78 (f 25 [t 68,t 73,t 77]) 65,p 79 (.not (t 78)) 65,n 80 (.pick (t 65) (t 79) (.lit (.bool false))) 62,i 81 (.pick (t 62) (.lit (.bool true)) (t 80))]) (c 81 (q (r [i 2 (.mov (.lit (.bool false)))]) .ret) .skip))) (r [m 26 8,i 27 (.bin .add (t 26) (k 1)),m 8 27])))))) (q (r [m 82 3,m 83 82,y 84 7 83,p 85 (.len (t 84)) 83,p 86 (.fa 3 (t 4)) 83,p 87 (.fa 1 (t 86)) 83,p 88 (.load 3 true (t 87)) 83,p 89 (f 26 [t 88]) 83,p 90 (.len (t 89)) 83,p 91 (e .eql 85 90) 83,i 92 (.pick (t 83) (t 91) (.lit (.bool false))),m 2 92]) .ret)))))),[.tmp 2]⟩
structure Sol (c:Cz) (s:Sy):Prop where
 inv:SInv (fun p=>p∈psC c) (nmC c).length [] s
 w0:s.w.l=[]
 sg:s.sigs=c.sigs
 sa:s.a=stC c
 seen:∀ p∈psC c,seenP s p
 ps:∀ p∈psC c,inP s.a p∧okP c.sigs s.a p
 nv:(nmC c).length≤400
 pl:(psC c).length≤12
theorem LoadedC.sol {c:Cz} (h:LoadedC c):Sol c (endC c):=by
 obtain ⟨h1,h2,h3,⟨h4,h5⟩,h6⟩:=h.fin
 refine ⟨h2,h3,h4,h5,h6,?_,h.lok.names,?_⟩
 ·rw [h5];exact h.ps
 ·have:=psC_len (l:=c.sigs) c.l (newK,[],[],true)
  have h12:=h.small.l12
  simp only [List.length_nil,Nat.zero_add] at this
  exact Nat.le_trans this h12
theorem solved12_PF {c:Cz} (hf:FitC c):(LoadedC c∧∃ s,Sol c s∧PF Tryz.prog 12 [.agg c.cs] (.tuple [.agg s.cs,prs (psC c),.bool true]))∨(¬ LoadedC c∧PF Tryz.prog 12 [.agg c.cs] (.tuple [.agg nil15,.nilS,.bool false])):=by
 classical
 by_cases h:LoadedC c
 ·exact .inl ⟨h,_,h.sol,solvedY_PF h hf⟩
 ·exact .inr ⟨h,solvedN_PF h hf⟩
theorem c6_ok:cFn Tryz.prog an0 Tryz.f6=some c6:=by kernel_rfl
set_option maxHeartbeats 1000000 in
theorem law6_PF (c:Cz) (hf:FitC c):PF Tryz.prog 6 [.agg c.cs] (.bool true):=by
 refine PFk 9 hm Tryz.func6 c6_ok (Nat.le_of_ble_eq_true rfl) (cz_RL c) (by simp) ?_
 generalize hQ:Rle 9 (AV.bool true)=Q
 have hsh:=shown11_PF
 rcases solved12_PF hf with ⟨hL,s,hS,h12⟩|⟨hL,h12⟩
 ·have hk:=hS.inv.lk
  have hlv:=hk.gok.lv
  have hnv:=hS.nv
  have ho:PF Tryz.prog 17 [.agg s.g.cs] _:=order17_PF s.g (by rw [hlv];omega)
  have hfi:PF Tryz.prog 26 [.agg s.g.u.cs] _:=firsts26_PF s.g.u (by rw [hlv];omega)
  obtain ⟨hp,hs⟩:=orderR_spec s.g.ranks (firsts_nodup s.g.u.v)
  have hlen:=hp.length_eq
  have hfl:(firstsU s.g.u.v).length≤s.g.u.v.length:=firstsK_len s.g.u.v s.g.u.v.length
  have hLm:∀ x,x∈orderR s.g.ranks (firstsU s.g.u.v)↔(0≤x∧x<(nmC c).length)∧gi s.g.u.v x=x:=fun x=>by rw [hp.mem_iff,mem_firsts,hlv]
  generalize psC c=ps at *
  generalize orderR s.g.ranks (firstsU s.g.u.v)=L at *
  generalize firstsU s.g.u.v=F at *
  generalize (nmC c).length=nv at *
  clear hS
  have hLA:L.length≤maxA:=by unfold maxA;omega
  simp (maxSteps:=3000000) [go_sem,-List.length_flatten,-List.map_drop,-List.map_take,c6]
  refine PF.call hsh 9 (by simp [lePs,-List.length_flatten,-List.map_drop,-List.map_take,Function.comp_def,len_flat]) ?_
  simp (maxSteps:=3000000) [go_sem,-List.length_flatten,-List.map_drop,-List.map_take,Kc]
  refine PF.call h12 9 (by simp [lePs,-List.length_flatten,-List.map_drop,-List.map_take,Function.comp_def,len_flat]) ?_
  simp (maxSteps:=3000000) [go_sem,-List.length_flatten,-List.map_drop,-List.map_take,Kc]
  refine PF.call ho 9 (by simp [lePs,-List.length_flatten,-List.map_drop,-List.map_take,Function.comp_def,len_flat]) ?_
  simp (maxSteps:=3000000) [go_sem,-List.length_flatten,-List.map_drop,-List.map_take,Kc]
  refine run_loopK (fun r T H=>∃ k:Nat,r=L.length - k∧k≤L.length∧T=[(8,i64 k),(7,ints L),(4,.ptr 1 0 0),(3,.bool true)]∧H=[.cells 0 c.cs,.cells 0 s.cs])
   L.length [(8,i64 (0:Nat)),(7,ints L),(4,.ptr 1 0 0),(3,.bool true)] [.cells 0 c.cs,.cells 0 s.cs]
   (Wk.sub (by simp [Tm.get])) ⟨0,rfl,Nat.zero_le _,rfl,rfl⟩ ?_
  rintro r T H ⟨k,rfl,hkn,rfl,rfl⟩ KK kx kr kn
  by_cases hkl:k<L.length
  ·have hknx:=nxt hkl hLA
   have hm:=(hLm (gi L k)).1 (gi_mem hkl)
   obtain ⟨v,hv⟩:∃ v,gi L k=v:=⟨_,rfl⟩
   rw [hv] at hm
   have hv0:¬ v<0:=by omega
   have hvn:¬ v≥nv:=by omega
   have next:∀ T':Tm,T'.get 8=i64 ((k+1:Nat):Int)→T'.get 7=ints L→T'.get 4=.ptr 1 0 0→T'.get 3=.bool true→KK .normal T' [.cells 0 c.cs,.cells 0 s.cs]:=fun T' t1 t2 t3 t4 =>
    kn _ _ (Kl_sub (L.length - (k+1)) ⟨k+1,rfl,by omega,rfl,rfl⟩ ⟨t1,t2,t3,t4,trivial⟩ (by omega))
   clear kn
   by_cases hk0:0<k
   ·have hless:=less25_PF s.g.ranks (gi L (k - 1:Nat)) v
    have hle:lessR s.g.ranks (gi L (k - 1:Nat)) v=true:=by
     have:=List.pairwise_iff_getElem.1 hs (k - 1) k (by omega) hkl (by omega)
     rw [←hv]
     simpa [gi,List.getD,hkl,show k - 1<L.length by omega] using this
    rw [hle] at hless
    have hpv:IntKind.i64.wrap ((k:Int) - 1)=((k - 1:Nat):Int):=by rw [w64 (by omega) (by unfold maxA at hLA;omega)];omega
    have hk1:k - 1<L.length:=by omega
    simp (maxSteps:=3000000) [go_sem,-List.length_flatten,-List.map_drop,-List.map_take,hkl,hv,hv0,hvn,hlv,hm,hk0,hpv,hk1]
    refine fun _ _=>⟨_,hless,?_⟩
    simp (maxSteps:=3000000) [go_sem,-List.length_flatten,-List.map_drop,-List.map_take,Kc]
    exact next _ (by simp [Tm.get,hknx]) (by simp [Tm.get]) (by simp [Tm.get]) (by simp [Tm.get])
   ·have ek:k=0:=by omega
    simp (maxSteps:=3000000) [go_sem,-List.length_flatten,-List.map_drop,-List.map_take,hkl,hv,hv0,hvn,hlv,hm,hk0]
    intros
    exact next _ (by simp [Tm.get,hknx]) (by simp [Tm.get]) (by simp [Tm.get]) (by simp [Tm.get])
  ·simp (maxSteps:=3000000) [go_sem,-List.length_flatten,-List.map_drop,-List.map_take,hkl,hlv,kx]
   refine fun _=>PF.call hfi 9 (by simp [lePs,-List.length_flatten,-List.map_drop,-List.map_take,Function.comp_def,len_flat]) ?_
   simp (maxSteps:=3000000) [go_sem,-List.length_flatten,-List.map_drop,-List.map_take,Kc,hlen]
   intros
   rw [←hQ]
   simp (maxSteps:=3000000) [go_sem,-List.length_flatten,-List.map_drop,-List.map_take,Rle,frz,leP]
 ·simp (maxSteps:=3000000) [go_sem,-List.length_flatten,-List.map_drop,-List.map_take,c6]
  refine PF.call hsh 9 (by simp [lePs,-List.length_flatten,-List.map_drop,-List.map_take,Function.comp_def,len_flat]) ?_
  simp (maxSteps:=3000000) [go_sem,-List.length_flatten,-List.map_drop,-List.map_take,Kc]
  refine PF.call h12 9 (by simp [lePs,-List.length_flatten,-List.map_drop,-List.map_take,Function.comp_def,len_flat]) ?_
  simp (maxSteps:=3000000) [go_sem,-List.length_flatten,-List.map_drop,-List.map_take,Kc]
  rw [←hQ]
  simp (maxSteps:=3000000) [go_sem,-List.length_flatten,-List.map_drop,-List.map_take,Rle,frz,leP]
def risesTo (l:List Int) (i:Nat):Prop:=∀ j:Nat,1≤j→j<i→j<l.length→gi l (j - 1:Nat)<gi l j
theorem risesTo.one (l:List Int):risesTo l 1:=fun j h1 h2=>by omega
theorem risesTo.next {l:List Int} {i:Nat} (h:risesTo l i) (hi:i<l.length→gi l (i - 1:Nat)<gi l i):risesTo l (i+1):=fun j h1 h2 h3=>by
 by_cases e:j=i
 ·subst e;exact hi h3
 ·exact h j h1 (by omega) h3
section
variable {ps:List (Int×Int)} {nv:Nat} {s:Sy}
end
def moreC (c:Cz) (m:Cn):Cz:=⟨c.sigs,c.l++[m],c.ranks,c.depth⟩
def FitN (e:List Nd):Prop:=e.length≤1048576∧∀ j:Nat,j<e.length→(gi e j).name.size≤maxA
theorem FitC.more {c:Cz} (h:FitC c) {m:Cn} (hl:FitN m.l) (hr:FitN m.r):FitC (moreC c m):=by
 refine ⟨h.sg,fun i hi=>?_⟩
 have hi':i<c.l.length+1:=by simpa [moreC] using hi
 by_cases e:i=c.l.length
 ·subst e
  have hg:gi (moreC c m).l (c.l.length:Nat)=m:=by simp [moreC,gi,List.getD]
  rw [hg]
  exact ⟨⟨hl.1,hr.1⟩,hl.2,hr.2⟩
 ·have hg:gi (moreC c m).l i=gi c.l i:=giApp (by omega)
  rw [hg]
  exact h.nd i (by omega)
def tyNds:Ty:=.slice (.struct [.int .i64,.str,.int .i64])
def tyCons:Ty:=.struct [tyNds,tyNds]
def tyCase:Ty:=.struct [tySigs,.slice tyCons,tyInts,.int .i64]
def ndsFit (l:List Nd):Prop:=l.length≤lim∧∀ x∈l,(Lit.int .i64 x.kind).wf=true∧x.name.size≤lim∧(Lit.int .i64 x.n).wf=true
theorem is_nds {cs:List AV} (h:tyNds.is cs):∃ l:List Nd,cs=[nds l]∧ndsFit l:=by
 simp only [tyNds,Ty.is,Ty.isL] at h
 obtain ⟨e1,rfl,hl1,hs1⟩:=h
 obtain ⟨l,rfl,hl⟩:=is_rows (f:=fun x:Nd=>x.cs) (p:=fun x=>(Lit.int .i64 x.kind).wf=true∧x.name.size≤lim∧(Lit.int .i64 x.n).wf=true) (fun z hz=>by
  obtain ⟨_,_,rfl,⟨k,rfl,h1⟩,_,_,rfl,⟨s,rfl,h2⟩,_,_,rfl,⟨n,rfl,h3⟩,rfl⟩:=hz
  exact ⟨⟨k,s,n⟩,rfl,h1,h2,h3⟩) hs1
 exact ⟨l,rfl,by simpa using hl1,hl⟩
theorem ndsFit.fit {l:List Nd} (h:ndsFit l):FitN l:=⟨h.1,fun j hj=>by
 have:=(h.2 (gi l j) (gi_mem hj)).2.1
 unfold lim at this
 unfold maxA
 omega⟩
theorem is_cons {cs:List AV} (h:tyCons.is cs):∃ m:Cn,cs=[nds m.l,nds m.r]∧ndsFit m.l∧ndsFit m.r:=by
 simp only [tyCons,Ty.is,Ty.isL] at h
 obtain ⟨_,_,rfl,k1,_,_,rfl,k2,rfl⟩:=h
 obtain ⟨l,rfl,f1⟩:=is_nds k1
 obtain ⟨r,rfl,f2⟩:=is_nds k2
 exact ⟨⟨l,r⟩,rfl,f1,f2⟩
theorem is_case {cs:List AV} (h:tyCase.is cs):∃ c:Cz,cs=c.cs∧FitC c∧c.l.length≤1048576∧intsFit c.ranks:=by
 have h':∃ a b,cs=a++b∧tySigs.is a∧∃ a' b',b=a'++b'∧(∃ es,a'=[.rows false tyCons.size es]∧es.length≤lim∧∀ x∈es,tyCons.is x)∧∃ a2 b2,b'=a2++b2∧tyInts.is a2∧∃ a3 b3,b2=a3++b3∧(∃ n:Int,a3=[.int .i64 n]∧(Lit.int .i64 n).wf=true)∧b3=[]:=by
  simpa [tyCase,Ty.is,Ty.isL] using h
 obtain ⟨_,_,rfl,k1,_,_,rfl,⟨es,rfl,hl1,hs1⟩,_,_,rfl,k3,_,_,rfl,⟨d,rfl,k4⟩,rfl⟩:=h'
 obtain ⟨sg,rfl,f1⟩:=is_sigs k1
 obtain ⟨rk,rfl,f3⟩:=is_ints k3
 obtain ⟨l,rfl,hl⟩:=is_rows (f:=fun c:Cn=>[nds c.l,nds c.r]) (p:=fun c=>ndsFit c.l∧ndsFit c.r) (fun z hz=>is_cons hz) hs1
 have hll:l.length≤1048576:=by simpa [lim] using hl1
 refine ⟨⟨sg,l,rk,d⟩,rfl,⟨f1.args,fun i hi=>?_⟩,hll,f3⟩
 have:=hl (gi l i) (gi_mem hi)
 exact ⟨⟨this.1.fit.1,this.2.fit.1⟩,this.1.fit.2,this.2.fit.2⟩
end Go.AM
