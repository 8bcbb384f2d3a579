/- Contracts of the program's functions. -/
import Derived.Test.YtpdjffpdanmoeaaGreatL7
import Derived.KernelRfl
namespace Go.AM
open Go.Proofs
set_option maxRecDepth 100000
set_option linter.unusedVariables false
set_option linter.unusedSimpArgs false
attribute [local go_sem] Function.comp_def argsT Opd.ev Tm.get put ares mapMo ares1 snilP bldParts bslParts putAt AV.cells AV.one astore aload loadCs callArgs abin abinInt aapp elems appMore appNone preLen aFa aFld apart aExt aPick aNot aLens aEqa cellsK fitsA LK.fitsA leavesA leafA nilD aNilc aCint aCid alive alen alenOk Rle lePs len_flat lit
def c8:AFn:=lit fun m o w i y z p n s t k q r d c f b e a=>⟨96,q (r [i 1 (.box (t 0)),i 2 (.mov (.lit (.bool false)))]) (q (r [i 12 (f 11 []),m 3 12]) (q (r [w 14 4 1,i 15 (f 12 [t 14]),m 13 15,i 16 (.ext (t 13) 0),i 17 (.ext (t 13) 1),i 18 (.ext (t 13) 2),i 4 (.alloc [.nilS,.nilS,.nilS,.nilS,.nilS,.nilS,.nilS,.nilS,.nilS,.nilS,.nilS,.nilS,.nilS,.int .i64 0,.int .i64 0]),s (.store 15 (t 4) (t 16)),m 5 17,m 6 18]) (q (q (r [m 19 6,i 20 (.not (t 19))]) (c 20 (q (r [m 21 3,m 2 21]) .ret) .skip)) (q (q (r [i 7 (.mov (k 0))]) (b 0 ((q (q (r [m 22 7,m 23 5,i 24 (.len (t 23)),i 25 (e .lss 22 24)]) (c 25 .skip (.exit 0))) (q (.block 1 (q (d [a 28 1 4,a 29 0 28,o 30 29,m 31 5,m 32 7,i 33 (.ia 2 (t 31) (t 32)),i 34 (.iarr 2 1 (t 33) (k 0)),o 35 34,i 36 (.ia 1 (t 30) (t 35)),o 37 36,m 8 37]) (q (d [a 38 1 4,a 39 0 38,o 40 39,m 41 5,m 42 7,i 43 (.ia 2 (t 41) (t 42)),i 44 (.iarr 2 1 (t 43) (k 1)),o 45 44,i 46 (.ia 1 (t 40) (t 45)),o 47 46,m 9 47]) (q (q (r [m 48 9,i 49 (.ia 1 (t 48) (k 0)),o 50 49,i 51 (.bin .neq (t 50) (k 2))]) (c 51 (.exit 1) .skip)) (q (d [w 52 15 4,m 53 9,i 54 (.ia 1 (t 53) (k 1)),o 55 54,i 56 (f 22 [t 52,t 55]),m 10 56]) (q (q (r [m 57 8,i 58 (.ia 1 (t 57) (k 0)),o 59 58,i 60 (.bin .eql (t 59) (k 3)),m 61 60,z 62 8 61,n 63 (.ia 1 (t 62) (k 0)) 61,n 64 (.load 1 false (t 63)) 61,n 65 (.bin .eql (t 64) (k 1)) 61,i 66 (.pick (t 61) (.lit (.bool true)) (t 65)),m 67 66,y 68 10 67,y 69 5 67,y 70 7 67,p 71 (.ia 2 (t 69) (t 70)) 67,p 72 (.iarr 2 1 (t 71) (k 0)) 67,p 73 (.load 1 false (t 72)) 67,p 74 (.bslice 1 1 [.int .i64 0] [(0,t 73)]) 67,p 75 (f 20 [t 68,t 74]) 67,p 76 (.len (t 75)) 67,p 77 (.bin .neq (t 76) (k 1)) 67,i 78 (.pick (t 67) (t 77) (.lit (.bool false)))]) (c 78 (q (r [i 2 (.mov (.lit (.bool false)))]) .ret) .skip)) (q (r [m 79 8,i 80 (.ia 1 (t 79) (k 0)),o 81 80,i 82 (.bin .eql (t 81) (k 2))]) (c 82 (q (d [w 83 15 4,m 84 8,i 85 (.ia 1 (t 84) (k 1)),o 86 85,i 87 (f 22 [t 83,t 86]),m 11 87]) (q (r [m 88 11,m 89 10,i 90 (f 20 [t 88,t 89]),i 91 (.len (t 90)),m 92 11,i 93 (.len (t 92)),i 94 (e .neq 91 93)]) (c 94 (q (r [i 2 (.mov (.lit (.bool false)))]) .ret) .skip))) .skip)))))))) (r [m 26 7,i 27 (.bin .add (t 26) (k 1)),m 7 27])))))) (q (r [m 95 3,m 2 95]) .ret))))),[.tmp 2]⟩
structure Sol (c:Cz) (s:Sy):Prop where
 inv:SInv (fun p=>p∈psC c) (nmC c).length [] s
 w0:s.w.l=[]
 sg:s.sigs=c.sigs
 sa:s.a=stC c
 seen:∀ p∈psC c,seenP s p
 ps:∀ p∈psC c,inP s.a p∧okP c.sigs s.a p
 nv:(nmC c).length≤400
 pl:(psC c).length≤12
theorem LoadedC.sol {c:Cz} (h:LoadedC c):Sol c (endC c):=by
 obtain ⟨h1,h2,h3,⟨h4,h5⟩,h6⟩:=h.fin
 refine ⟨h2,h3,h4,h5,h6,?_,h.lok.names,?_⟩
 ·rw [h5];exact h.ps
 ·have:=psC_len (l:=c.sigs) c.l (newK,[],[],true)
  have h12:=h.small.l12
  simp only [List.length_nil,Nat.zero_add] at this
  exact Nat.le_trans this h12
theorem solved12_PF {c:Cz} (hf:FitC c):(LoadedC c∧∃ s,Sol c s∧PF Tryz.prog 12 [.agg c.cs] (.tuple [.agg s.cs,prs (psC c),.bool true]))∨(¬ LoadedC c∧PF Tryz.prog 12 [.agg c.cs] (.tuple [.agg nil15,.nilS,.bool false])):=by
 classical
 by_cases h:LoadedC c
 ·exact .inl ⟨h,_,h.sol,solvedY_PF h hf⟩
 ·exact .inr ⟨h,solvedN_PF h hf⟩
theorem bothR_is {a b:List Int} (hb:b.Nodup):bothR a b=bothL a b:=by
 unfold bothR bothK
 rw [List.take_length]
 have h1:∀ x,cntR b x b.length=if b.contains x=true then [x] else []:=fun x=>by
  unfold cntR
  rw [List.take_length]
  by_cases h:x∈b
  ·rw [hb.count,if_pos h,if_pos (by simpa using h)];rfl
  ·rw [List.count_eq_zero.2 h,if_neg (by simpa using h)];rfl
 induction a with
 | nil=>rfl
 | cons x a ih =>
  rw [List.flatMap_cons,ih,h1]
  simp only [bothL,List.filter_cons]
  split<;>rfl
theorem rise_nodup {l:List Int} (h:l.Pairwise (·<·)):l.Nodup:=h.imp fun {a b} h=>by omega
theorem bothL_sub {a b:List Int} (h:∀ x∈a,x∈b):bothL a b=a:=by
 unfold bothL
 exact List.filter_eq_self.2 fun x hx=>by simpa using h x hx
def risesTo (l:List Int) (i:Nat):Prop:=∀ j:Nat,1≤j→j<i→j<l.length→gi l (j - 1:Nat)<gi l j
theorem risesTo.one (l:List Int):risesTo l 1:=fun j h1 h2=>by omega
theorem risesTo.next {l:List Int} {i:Nat} (h:risesTo l i) (hi:i<l.length→gi l (i - 1:Nat)<gi l i):risesTo l (i+1):=fun j h1 h2 h3=>by
 by_cases e:j=i
 ·subst e;exact hi h3
 ·exact h j h1 (by omega) h3
theorem c8_ok:cFn Tryz.prog an0 Tryz.f8=some c8:=by kernel_rfl
theorem key_sym {l:List Sg} {a:Kd} (hF:Fine l a) {x:Int} (h:0≤x∧x<a.keys.length):1<(gi a.keys x).length∧gi (gi a.keys x) 1=(termAt a x).1.sym:=by
 have h1:=(hF.fit h).1
 have e:termAt a x=termOf (gi a.keys x):=by
  unfold termAt
  rw [if_neg (by omega)]
 rw [e] at h1 ⊢
 unfold termOf at h1 ⊢
 split at h1
 ·cases h1
 ·rename_i h3
  rw [if_neg h3]
  exact ⟨by omega,rfl⟩
section
variable {ps:List (Int×Int)} {nv:Nat} {s:Sy}
theorem SInv.pin (h:SInv (fun p=>p∈ps) nv [] s) (hw:s.w.l=[]) (h0:∀ p∈ps,seenP s p) {x y:Int} (hp:(x,y)∈ps) (hy:(termAt s.a y).1.kind=2) (hx:(termAt s.a x).1.kind=1∨(termAt s.a x).1.kind=3):x∈blwW s.a s.g (fnd s.g.u.v (termAt s.a y).1.sym):=by
 have hs:=h.vok.sym y hy
 rw [←SInv.below h hw h0 hx hs.1,hs.2]
 exact .base hp
theorem SInv.pvar (h:SInv (fun p=>p∈ps) nv [] s) (hw:s.w.l=[]) (h0:∀ p∈ps,seenP s p) {x y:Int} (hp:(x,y)∈ps) (hy:(termAt s.a y).1.kind=2) (hx:(termAt s.a x).1.kind=2) :
  ∀ z∈blwW s.a s.g (fnd s.g.u.v (termAt s.a x).1.sym),z∈blwW s.a s.g (fnd s.g.u.v (termAt s.a y).1.sym):=by
 intro z hz
 have hs:=h.vok.sym y hy
 have hsx:=h.vok.sym x hx
 have hk:=h.lk
 have hzk:=((mem_blwW hk (hk.gok.fin hsx.1)).1 hz).in hk (hk.gok.fin hsx.1)
 rw [←SInv.below h hw h0 hzk.2 hsx.1,hsx.2] at hz
 rw [←SInv.below h hw h0 hzk.2 hs.1,hs.2]
 exact .trans hz hx (.base hp)
end
theorem bothR_one {B:List Int} {x:Int} (hB:B.Nodup) (h:x∈B):(bothR B [x]).length=1:=by
 rw [bothR_is (by simp)]
 have:bothL B [x]=B.filter (fun y=>decide (y=x)):=by simp [bothL]
 rw [this]
 have hc:=hB.count (a:=x)
 rw [if_pos h,List.count,List.countP_eq_length_filter] at hc
 rw [←hc]
 rfl
set_option maxHeartbeats 2000000 in
theorem law8_PF (c:Cz) (hf:FitC c):PF Tryz.prog 8 [.agg c.cs] (.bool true):=by
 refine PFk 9 hm Tryz.func8 c8_ok (Nat.le_of_ble_eq_true rfl) (cz_RL c) (by simp) ?_
 generalize hQ:Rle 9 (AV.bool true)=Q
 have hsh:=shown11_PF
 have hfin:∀ H,Q (AV.bool true) H:=fun H=>by rw [←hQ];simp [Rle,frz,leP]
 rcases solved12_PF hf with ⟨hL,s,hS,h12⟩|⟨hL,h12⟩
 case inr =>
  simp (maxSteps:=3000000) [go_sem,-List.length_flatten,-List.map_drop,-List.map_take,c8]
  refine PF.call hsh 9 (by simp [lePs,-List.length_flatten,-List.map_drop,-List.map_take,Function.comp_def,len_flat]) ?_
  simp (maxSteps:=3000000) [go_sem,-List.length_flatten,-List.map_drop,-List.map_take,Kc]
  refine PF.call h12 9 (by simp [lePs,-List.length_flatten,-List.map_drop,-List.map_take,Function.comp_def,len_flat]) ?_
  simp (maxSteps:=3000000) [go_sem,-List.length_flatten,-List.map_drop,-List.map_take,Kc]
  exact hfin _
 have hk:=hS.inv.lk
 have hnv:=hS.nv
 have hF:=hS.inv.fine
 have hfew:=hS.inv.few
 have hps:=hS.ps
 have hpl:=hS.pl
 have hin:=fun x y hp hy hx=>hS.inv.pin (x:=x) (y:=y) hS.w0 hS.seen hp hy hx
 have hvar:=fun x y hp hy hx=>hS.inv.pvar (x:=x) (y:=y) hS.w0 hS.seen hp hy hx
 have hvok:=hS.inv.vok
 have hb:=fun (v:Int) (hv:0≤v∧v<((nmC c).length:Nat))=>below22_PF hk hnv hv
 generalize psC c=ps at *
 generalize (nmC c).length=nv at *
 clear hS
 have hkA:s.a.keys.length≤maxA:=by unfold maxA;omega
 have hpA:ps.length≤maxA:=by unfold maxA;omega
 simp (maxSteps:=3000000) [go_sem,-List.length_flatten,-List.map_drop,-List.map_take,c8]
 refine PF.call hsh 9 (by simp [lePs,-List.length_flatten,-List.map_drop,-List.map_take,Function.comp_def,len_flat]) ?_
 simp (maxSteps:=3000000) [go_sem,-List.length_flatten,-List.map_drop,-List.map_take,Kc]
 refine PF.call h12 9 (by simp [lePs,-List.length_flatten,-List.map_drop,-List.map_take,Function.comp_def,len_flat]) ?_
 simp (maxSteps:=3000000) [go_sem,-List.length_flatten,-List.map_drop,-List.map_take,Kc]
 refine run_loopK (fun r T H=>∃ k:Nat,r=ps.length - k∧k≤ps.length∧T=[(7,i64 k),(5,prs ps),(4,.ptr 1 0 0),(3,.bool true)]∧H=[.cells 0 c.cs,.cells 0 s.cs])
  ps.length [(7,i64 (0:Nat)),(5,prs ps),(4,.ptr 1 0 0),(3,.bool true)] [.cells 0 c.cs,.cells 0 s.cs]
  (Wk.sub (by simp [Tm.get])) ⟨0,rfl,Nat.zero_le _,rfl,rfl⟩ ?_
 rintro r T H ⟨k,rfl,hkn,rfl,rfl⟩ KK kx kr kn
 by_cases hkl:k<ps.length
 ·have hknx:=nxt hkl hpA
  obtain ⟨x,y,hxy⟩:∃ x y,gi ps k=(x,y):=⟨_,_,rfl⟩
  have hm:(x,y)∈ps:=by rw [←hxy];exact gi_mem hkl
  obtain ⟨⟨hx,hy⟩,_⟩:=hps _ hm
  simp only at hx hy
  have kx1:=key_kind hF hx
  have ky1:=key_kind hF hy
  have kx2:=key_sym hF hx
  have ky2:=key_sym hF hy
  have hin1:=hin x y hm
  have hvar1:=hvar x y hm
  have hvx:=hvok.sym x
  have hvy:=hvok.sym y
  obtain ⟨kx,hkx⟩:∃ q,gi s.a.keys x=q:=⟨_,rfl⟩
  obtain ⟨ky,hky⟩:∃ q,gi s.a.keys y=q:=⟨_,rfl⟩
  rw [hkx] at kx1 kx2
  rw [hky] at ky1 ky2
  generalize (termAt s.a x).1.kind=Kx at *
  generalize (termAt s.a y).1.kind=Ky at *
  generalize (termAt s.a x).1.sym=Sx at *
  generalize (termAt s.a y).1.sym=Sy at *
  obtain ⟨x1,x2⟩:=kx1
  obtain ⟨x3,x4⟩:=kx2
  obtain ⟨y1,y2⟩:=ky1
  obtain ⟨y3,y4⟩:=ky2
  have next:∀ T':Tm,T'.get 7=i64 ((k+1:Nat):Int)→T'.get 5=prs ps→T'.get 4=.ptr 1 0 0→T'.get 3=.bool true→KK .normal T' [.cells 0 c.cs,.cells 0 s.cs]:=fun T' t1 t2 t3 t4 =>
   kn _ _ (Kl_sub (ps.length - (k+1)) ⟨k+1,rfl,by omega,rfl,rfl⟩ ⟨t1,t2,t3,t4,trivial⟩ (by omega))
  clear kn
  by_cases e2:Ky=2
  ·have hby:=hb Sy (hvy e2).1
   have hBl:=blwW_len s.a s.g (fnd s.g.u.v Sy)
   have hBr:=blwW_rise s.a s.g (fnd s.g.u.v Sy)
   generalize hBy:blwW s.a s.g (fnd s.g.u.v Sy)=By at *
   have hBA:By.length≤maxA:=by unfold maxA;omega
   by_cases ex:Kx=2
   ·have hbx:=hb Sx (hvx ex).1
    have hsub:=hvar1 e2 ex
    have hBl2:=blwW_len s.a s.g (fnd s.g.u.v Sx)
    generalize hBx:blwW s.a s.g (fnd s.g.u.v Sx)=Bx at *
    have hmul:Bx.length*By.length≤400*400:=Nat.mul_le_mul (by omega) (by omega)
    have hbb:=both20_PF Bx By (by omega) (by omega) (by omega)
    rw [bothR_is (rise_nodup hBr),bothL_sub hsub] at hbb
    simp (maxSteps:=3000000) [go_sem,-List.length_flatten,-List.map_drop,-List.map_take,hkl,hxy,hx,hy,hkx,hky,x1,x2,x3,x4,y1,y2,y3,y4,e2,ex,aIarr,aint,hkA,hpA]
    refine ⟨by omega,_,hby,?_⟩
    simp (maxSteps:=3000000) [go_sem,-List.length_flatten,-List.map_drop,-List.map_take,Kc,x1,x2,x3,x4,ex]
    refine ⟨by omega,_,hbx,PF.call hbb 9 (by simp [lePs,-List.length_flatten,-List.map_drop,-List.map_take,Function.comp_def,len_flat]) ?_⟩
    simp (maxSteps:=3000000) [go_sem,-List.length_flatten,-List.map_drop,-List.map_take,Kc]
    intros
    exact next _ (by simp [Tm.get,hknx]) (by simp [Tm.get]) (by simp [Tm.get]) (by simp [Tm.get])
   ·by_cases e13:Kx=1∨Kx=3
    ·have hmem:=hin1 e2 e13
     have hbb:=both20_PF By [x] (by omega) (by simp) (by simp;omega)
     have h1:=bothR_one (rise_nodup hBr) hmem
     generalize bothR By [x]=O at *
     simp (maxSteps:=3000000) [go_sem,-List.length_flatten,-List.map_drop,-List.map_take,hkl,hxy,hx,hy,hkx,hky,x1,x2,x3,x4,y1,y2,y3,y4,e2,ex,aIarr,aint,hkA,hpA]
     refine ⟨by omega,_,hby,?_⟩
     rcases e13 with e1|e1
     ·simp (maxSteps:=3000000) [go_sem,-List.length_flatten,-List.map_drop,-List.map_take,Kc,x1,x2,x3,x4,e1,hkl,hxy,hpA,aIarr,aint]
      refine PF.call hbb 9 (by simp [lePs,-List.length_flatten,-List.map_drop,-List.map_take,Function.comp_def,len_flat]) ?_
      simp (maxSteps:=3000000) [go_sem,-List.length_flatten,-List.map_drop,-List.map_take,Kc,h1,x1,x2,e1]
      intros
      exact next _ (by simp [Tm.get,hknx]) (by simp [Tm.get]) (by simp [Tm.get]) (by simp [Tm.get])
     ·simp (maxSteps:=3000000) [go_sem,-List.length_flatten,-List.map_drop,-List.map_take,Kc,x1,x2,x3,x4,e1,hkl,hxy,hpA,aIarr,aint]
      refine PF.call hbb 9 (by simp [lePs,-List.length_flatten,-List.map_drop,-List.map_take,Function.comp_def,len_flat]) ?_
      simp (maxSteps:=3000000) [go_sem,-List.length_flatten,-List.map_drop,-List.map_take,Kc,h1,x1,x2,e1]
      intros
      exact next _ (by simp [Tm.get,hknx]) (by simp [Tm.get]) (by simp [Tm.get]) (by simp [Tm.get])
    ·simp (maxSteps:=3000000) [go_sem,-List.length_flatten,-List.map_drop,-List.map_take,hkl,hxy,hx,hy,hkx,hky,x1,x2,x3,x4,y1,y2,y3,y4,e2,ex,aIarr,aint,hkA,hpA]
     have e1:¬ Kx=1:=by omega
     have e3:¬ Kx=3:=by omega
     refine ⟨by omega,_,hby,?_⟩
     simp (maxSteps:=3000000) [go_sem,-List.length_flatten,-List.map_drop,-List.map_take,Kc,x1,x2,x3,x4,e1,e3,ex]
     exact next _ (by simp [Tm.get,hknx]) (by simp [Tm.get]) (by simp [Tm.get]) (by simp [Tm.get])
  ·simp (maxSteps:=3000000) [go_sem,-List.length_flatten,-List.map_drop,-List.map_take,hkl,hxy,hx,hy,hkx,hky,x1,x2,x3,x4,y1,y2,y3,y4,e2,aIarr,aint,hkA,hpA]
   exact next _ (by simp [Tm.get,hknx]) (by simp [Tm.get]) (by simp [Tm.get]) (by simp [Tm.get])
 ·simp (maxSteps:=3000000) [go_sem,-List.length_flatten,-List.map_drop,-List.map_take,hkl,kx]
  intros
  exact hfin _
def moreC (c:Cz) (m:Cn):Cz:=⟨c.sigs,c.l++[m],c.ranks,c.depth⟩
def FitN (e:List Nd):Prop:=e.length≤1048576∧∀ j:Nat,j<e.length→(gi e j).name.size≤maxA
theorem FitC.more {c:Cz} (h:FitC c) {m:Cn} (hl:FitN m.l) (hr:FitN m.r):FitC (moreC c m):=by
 refine ⟨h.sg,fun i hi=>?_⟩
 have hi':i<c.l.length+1:=by simpa [moreC] using hi
 by_cases e:i=c.l.length
 ·subst e
  have hg:gi (moreC c m).l (c.l.length:Nat)=m:=by simp [moreC,gi,List.getD]
  rw [hg]
  exact ⟨⟨hl.1,hr.1⟩,hl.2,hr.2⟩
 ·have hg:gi (moreC c m).l i=gi c.l i:=giApp (by omega)
  rw [hg]
  exact h.nd i (by omega)
def tyNds:Ty:=.slice (.struct [.int .i64,.str,.int .i64])
def tyCons:Ty:=.struct [tyNds,tyNds]
def tyCase:Ty:=.struct [tySigs,.slice tyCons,tyInts,.int .i64]
def ndsFit (l:List Nd):Prop:=l.length≤lim∧∀ x∈l,(Lit.int .i64 x.kind).wf=true∧x.name.size≤lim∧(Lit.int .i64 x.n).wf=true
theorem is_nds {cs:List AV} (h:tyNds.is cs):∃ l:List Nd,cs=[nds l]∧ndsFit l:=by
 simp only [tyNds,Ty.is,Ty.isL] at h
 obtain ⟨e1,rfl,hl1,hs1⟩:=h
 obtain ⟨l,rfl,hl⟩:=is_rows (f:=fun x:Nd=>x.cs) (p:=fun x=>(Lit.int .i64 x.kind).wf=true∧x.name.size≤lim∧(Lit.int .i64 x.n).wf=true) (fun z hz=>by
  obtain ⟨_,_,rfl,⟨k,rfl,h1⟩,_,_,rfl,⟨s,rfl,h2⟩,_,_,rfl,⟨n,rfl,h3⟩,rfl⟩:=hz
  exact ⟨⟨k,s,n⟩,rfl,h1,h2,h3⟩) hs1
 exact ⟨l,rfl,by simpa using hl1,hl⟩
theorem ndsFit.fit {l:List Nd} (h:ndsFit l):FitN l:=⟨h.1,fun j hj=>by
 have:=(h.2 (gi l j) (gi_mem hj)).2.1
 unfold lim at this
 unfold maxA
 omega⟩
theorem is_cons {cs:List AV} (h:tyCons.is cs):∃ m:Cn,cs=[nds m.l,nds m.r]∧ndsFit m.l∧ndsFit m.r:=by
 simp only [tyCons,Ty.is,Ty.isL] at h
 obtain ⟨_,_,rfl,k1,_,_,rfl,k2,rfl⟩:=h
 obtain ⟨l,rfl,f1⟩:=is_nds k1
 obtain ⟨r,rfl,f2⟩:=is_nds k2
 exact ⟨⟨l,r⟩,rfl,f1,f2⟩
theorem is_case {cs:List AV} (h:tyCase.is cs):∃ c:Cz,cs=c.cs∧FitC c∧c.l.length≤1048576∧intsFit c.ranks:=by
 have h':∃ a b,cs=a++b∧tySigs.is a∧∃ a' b',b=a'++b'∧(∃ es,a'=[.rows false tyCons.size es]∧es.length≤lim∧∀ x∈es,tyCons.is x)∧∃ a2 b2,b'=a2++b2∧tyInts.is a2∧∃ a3 b3,b2=a3++b3∧(∃ n:Int,a3=[.int .i64 n]∧(Lit.int .i64 n).wf=true)∧b3=[]:=by
  simpa [tyCase,Ty.is,Ty.isL] using h
 obtain ⟨_,_,rfl,k1,_,_,rfl,⟨es,rfl,hl1,hs1⟩,_,_,rfl,k3,_,_,rfl,⟨d,rfl,k4⟩,rfl⟩:=h'
 obtain ⟨sg,rfl,f1⟩:=is_sigs k1
 obtain ⟨rk,rfl,f3⟩:=is_ints k3
 obtain ⟨l,rfl,hl⟩:=is_rows (f:=fun c:Cn=>[nds c.l,nds c.r]) (p:=fun c=>ndsFit c.l∧ndsFit c.r) (fun z hz=>is_cons hz) hs1
 have hll:l.length≤1048576:=by simpa [lim] using hl1
 refine ⟨⟨sg,l,rk,d⟩,rfl,⟨f1.args,fun i hi=>?_⟩,hll,f3⟩
 have:=hl (gi l i) (gi_mem hi)
 exact ⟨⟨this.1.fit.1,this.2.fit.1⟩,this.1.fit.2,this.2.fit.2⟩
end Go.AM
