/- Contracts of the program's functions. -/
import Derived.Test.YtpdjffpdanmoeaaGreatL7
import Derived.KernelRfl
namespace Go.AM
open Go.Proofs
set_option maxRecDepth 100000
set_option linter.unusedVariables false
set_option linter.unusedSimpArgs false
attribute [local go_sem] Function.comp_def argsT Opd.ev Tm.get put ares mapMo ares1 snilP bldParts bslParts putAt AV.cells AV.one astore aload loadCs callArgs abin abinInt aapp elems appMore appNone preLen aFa aFld apart aExt aPick aNot aLens aEqa cellsK fitsA LK.fitsA leavesA leafA nilD aNilc aCint aCid alive alen alenOk Rle lePs len_flat lit
def c7:AFn:=lit fun m o w i y z p n s t k q r d c f b e a=>⟨150,q (r [i 3 (.box (t 0)),i 6 (.mov (.lit (.bool false)))]) (q (r [i 14 (f 11 []),m 7 14]) (q (r [w 16 4 3,i 17 (f 12 [t 16]),m 15 17,i 18 (.ext (t 15) 0),i 19 (.ext (t 15) 1),i 20 (.ext (t 15) 2),i 8 (.alloc [.nilS,.nilS,.nilS,.nilS,.nilS,.nilS,.nilS,.nilS,.nilS,.nilS,.nilS,.nilS,.nilS,.int .i64 0,.int .i64 0]),s (.store 15 (t 8) (t 18)),m 9 19,m 10 20]) (q (q (r [m 21 10,i 22 (.not (t 21)),m 23 22,z 24 1 23,n 25 (.bin .lss (t 24) (k 0)) 23,i 26 (.pick (t 23) (.lit (.bool true)) (t 25)),m 27 26,z 28 1 27,n 29 (.fa 3 (t 8)) 27,n 30 (.fa 1 (t 29)) 27,n 31 (.fa 0 (t 30)) 27,n 32 (.load 1 false (t 31)) 27,n 33 (.len (t 32)) 27,n 34 (e .geq 28 33) 27,i 35 (.pick (t 27) (.lit (.bool true)) (t 34)),m 36 35,z 37 2 36,n 38 (.bin .lss (t 37) (k 0)) 36,i 39 (.pick (t 36) (.lit (.bool true)) (t 38)),m 40 39,z 41 2 40,n 42 (.fa 3 (t 8)) 40,n 43 (.fa 1 (t 42)) 40,n 44 (.fa 0 (t 43)) 40,n 45 (.load 1 false (t 44)) 40,n 46 (.len (t 45)) 40,n 47 (e .geq 41 46) 40,i 48 (.pick (t 40) (.lit (.bool true)) (t 47))]) (c 48 (q (r [m 49 7,m 6 49]) .ret) .skip)) (q (r [w 50 15 8,m 51 1,i 52 (f 22 [t 50,t 51]),m 11 52]) (q (q (r [i 12 (.mov (k 0))]) (b 0 ((q (q (r [m 53 12,m 54 11,i 55 (.len (t 54)),i 56 (e .lss 53 55)]) (c 56 .skip (.exit 0))) (q (.block 1 (q (d [m 59 11,m 60 12,i 61 (.ia 1 (t 59) (t 60)),o 62 61,i 63 (.bin .lss (t 62) (k 0)),m 64 63,z 65 11 64,z 66 12 64,n 67 (.ia 1 (t 65) (t 66)) 64,n 68 (.load 1 false (t 67)) 64,n 69 (.fa 1 (t 8)) 64,n 70 (.fa 0 (t 69)) 64,n 71 (.load 1 false (t 70)) 64,n 72 (.len (t 71)) 64,n 73 (e .geq 68 72) 64,i 74 (.pick (t 64) (.lit (.bool true)) (t 73)),m 75 74,n 76 (.fa 1 (t 8)) 75,n 77 (.fa 0 (t 76)) 75,n 78 (.load 1 false (t 77)) 75,z 79 11 75,z 80 12 75,n 81 (.ia 1 (t 79) (t 80)) 75,n 82 (.load 1 false (t 81)) 75,n 83 (.ia 1 (t 78) (t 82)) 75,n 84 (.load 1 false (t 83)) 75,n 85 (.ia 1 (t 84) (k 0)) 75,n 86 (.load 1 false (t 85)) 75,n 87 (.bin .neq (t 86) (k 3)) 75,z 88 87 75,p 89 (.fa 1 (t 8)) 88,p 90 (.fa 0 (t 89)) 88,p 91 (.load 1 false (t 90)) 88,y 92 11 88,y 93 12 88,p 94 (.ia 1 (t 92) (t 93)) 88,p 95 (.load 1 false (t 94)) 88,p 96 (.ia 1 (t 91) (t 95)) 88,p 97 (.load 1 false (t 96)) 88,p 98 (.ia 1 (t 97) (k 0)) 88,p 99 (.load 1 false (t 98)) 88,p 100 (.bin .neq (t 99) (k 1)) 88,n 101 (.pick (t 88) (t 100) (.lit (.bool false))) 75,i 102 (.pick (t 75) (.lit (.bool true)) (t 101)),m 103 102,z 104 12 103,n 105 (.bin .gtr (t 104) (k 0)) 103,z 106 105 103,y 107 11 106,y 108 12 106,p 109 (.bin .sub (t 108) (k 1)) 106,p 110 (.ia 1 (t 107) (t 109)) 106,p 111 (.load 1 false (t 110)) 106,y 112 11 106,y 113 12 106,p 114 (.ia 1 (t 112) (t 113)) 106,p 115 (.load 1 false (t 114)) 106,p 116 (e .geq 111 115) 106,n 117 (.pick (t 106) (t 116) (.lit (.bool false))) 103,i 118 (.pick (t 103) (.lit (.bool true)) (t 117))]) (c 118 (q (r [i 6 (.mov (.lit (.bool false)))]) .ret) .skip))) (r [m 57 12,i 58 (.bin .add (t 57) (k 1)),m 12 58])))))) (q (d [a 119 1 8,w 120 2 119,a 121 3 8,w 122 6 121,a 123 1 8,w 124 2 123,m 125 1,i 126 (f 24 [t 124,t 125]),i 127 (f 27 [t 120,t 122,t 126]),a 128 1 8,w 129 2 128,a 130 3 8,w 131 6 130,a 132 1 8,w 133 2 132,m 134 2,i 135 (f 24 [t 133,t 134]),i 136 (f 27 [t 129,t 131,t 135]),i 137 (e .eql 127 136),m 13 137]) (q (r [m 138 7,m 139 138,y 140 13 139,p 141 (.not (t 140)) 139,y 142 141 139,z 143 11 142,n 144 (.load 15 true (t 8)) 142,z 145 2 142,n 146 (f 22 [t 144,t 145]) 142,n 147 (f 16 [t 143,t 146]) 142,p 148 (.pick (t 142) (.lit (.bool true)) (t 147)) 139,i 149 (.pick (t 139) (t 148) (.lit (.bool false))),m 6 149]) .ret))))))),[.tmp 6]⟩
structure Sol (c:Cz) (s:Sy):Prop where
 inv:SInv (fun p=>p∈psC c) (nmC c).length [] s
 w0:s.w.l=[]
 sg:s.sigs=c.sigs
 sa:s.a=stC c
 seen:∀ p∈psC c,seenP s p
 ps:∀ p∈psC c,inP s.a p∧okP c.sigs s.a p
 nv:(nmC c).length≤400
 pl:(psC c).length≤12
theorem LoadedC.sol {c:Cz} (h:LoadedC c):Sol c (endC c):=by
 obtain ⟨h1,h2,h3,⟨h4,h5⟩,h6⟩:=h.fin
 refine ⟨h2,h3,h4,h5,h6,?_,h.lok.names,?_⟩
 ·rw [h5];exact h.ps
 ·have:=psC_len (l:=c.sigs) c.l (newK,[],[],true)
  have h12:=h.small.l12
  simp only [List.length_nil,Nat.zero_add] at this
  exact Nat.le_trans this h12
theorem solved12_PF {c:Cz} (hf:FitC c):(LoadedC c∧∃ s,Sol c s∧PF Tryz.prog 12 [.agg c.cs] (.tuple [.agg s.cs,prs (psC c),.bool true]))∨(¬ LoadedC c∧PF Tryz.prog 12 [.agg c.cs] (.tuple [.agg nil15,.nilS,.bool false])):=by
 classical
 by_cases h:LoadedC c
 ·exact .inl ⟨h,_,h.sol,solvedY_PF h hf⟩
 ·exact .inr ⟨h,solvedN_PF h hf⟩
def risesTo (l:List Int) (i:Nat):Prop:=∀ j:Nat,1≤j→j<i→j<l.length→gi l (j - 1:Nat)<gi l j
theorem risesTo.one (l:List Int):risesTo l 1:=fun j h1 h2=>by omega
theorem risesTo.next {l:List Int} {i:Nat} (h:risesTo l i) (hi:i<l.length→gi l (i - 1:Nat)<gi l i):risesTo l (i+1):=fun j h1 h2 h3=>by
 by_cases e:j=i
 ·subst e;exact hi h3
 ·exact h j h1 (by omega) h3
theorem rise_risesTo {l:List Int} (h:l.Pairwise (·<·)) {i:Nat} (h0:0<i) (hi:i<l.length):gi l (i - 1:Nat)<gi l i:=by
 have:=List.pairwise_iff_getElem.1 h (i - 1) i (by omega) hi (by omega)
 simpa [gi,List.getD,hi,show i - 1<l.length by omega] using this
theorem c7_ok:cFn Tryz.prog an0 Tryz.f7=some c7:=by kernel_rfl
set_option maxHeartbeats 2000000 in
theorem law7_PF (c:Cz) (hf:FitC c) (v w:Int):PF Tryz.prog 7 [.agg c.cs,i64 v,i64 w] (.bool true):=by
 refine PFk 9 hm Tryz.func7 c7_ok (Nat.le_of_ble_eq_true rfl) (fun x hx=>by
  simp only [List.mem_cons,List.not_mem_nil,or_false] at hx
  rcases hx with rfl|rfl|rfl
  ·exact cz_RL c _ (by simp)
  ·simp
  ·simp) (by simp) ?_
 generalize hQ:Rle 9 (AV.bool true)=Q
 have hsh:=shown11_PF
 have hfin:∀ H,Q (AV.bool true) H:=fun H=>by rw [←hQ];simp [Rle,frz,leP]
 rcases solved12_PF hf with ⟨hL,s,hS,h12⟩|⟨hL,h12⟩
 case inr =>
  simp (maxSteps:=3000000) [go_sem,-List.length_flatten,-List.map_drop,-List.map_take,c7]
  refine PF.call hsh 9 (by simp [lePs,-List.length_flatten,-List.map_drop,-List.map_take,Function.comp_def,len_flat]) ?_
  simp (maxSteps:=3000000) [go_sem,-List.length_flatten,-List.map_drop,-List.map_take,Kc]
  refine PF.call h12 9 (by simp [lePs,-List.length_flatten,-List.map_drop,-List.map_take,Function.comp_def,len_flat]) ?_
  simp (maxSteps:=3000000) [go_sem,-List.length_flatten,-List.map_drop,-List.map_take,Kc]
  exact hfin _
 have hk:=hS.inv.lk
 have hlv:=hk.gok.lv
 have hnv:=hS.nv
 have hF:=hS.inv.fine
 have hfew:=hS.inv.few
 generalize psC c=ps at *
 obtain ⟨nv,hnve⟩:∃ nv,(nmC c).length=nv:=⟨_,rfl⟩
 rw [hnve] at hk hlv hnv
 clear hS
 have hnA:nv≤maxA:=by unfold maxA;omega
 by_cases v0:v<0
 ·simp (maxSteps:=3000000) [go_sem,-List.length_flatten,-List.map_drop,-List.map_take,c7]
  refine PF.call hsh 9 (by simp [lePs,-List.length_flatten,-List.map_drop,-List.map_take,Function.comp_def,len_flat]) ?_
  simp (maxSteps:=3000000) [go_sem,-List.length_flatten,-List.map_drop,-List.map_take,Kc]
  refine PF.call h12 9 (by simp [lePs,-List.length_flatten,-List.map_drop,-List.map_take,Function.comp_def,len_flat]) ?_
  simp (maxSteps:=3000000) [go_sem,-List.length_flatten,-List.map_drop,-List.map_take,Kc,v0]
  exact hfin _
 by_cases v1:v≥nv
 ·simp (maxSteps:=3000000) [go_sem,-List.length_flatten,-List.map_drop,-List.map_take,c7]
  refine PF.call hsh 9 (by simp [lePs,-List.length_flatten,-List.map_drop,-List.map_take,Function.comp_def,len_flat]) ?_
  simp (maxSteps:=3000000) [go_sem,-List.length_flatten,-List.map_drop,-List.map_take,Kc]
  refine PF.call h12 9 (by simp [lePs,-List.length_flatten,-List.map_drop,-List.map_take,Function.comp_def,len_flat]) ?_
  simp (maxSteps:=3000000) [go_sem,-List.length_flatten,-List.map_drop,-List.map_take,Kc,v0,v1,hlv]
  intros
  exact hfin _
 by_cases w0:w<0
 ·simp (maxSteps:=3000000) [go_sem,-List.length_flatten,-List.map_drop,-List.map_take,c7]
  refine PF.call hsh 9 (by simp [lePs,-List.length_flatten,-List.map_drop,-List.map_take,Function.comp_def,len_flat]) ?_
  simp (maxSteps:=3000000) [go_sem,-List.length_flatten,-List.map_drop,-List.map_take,Kc]
  refine PF.call h12 9 (by simp [lePs,-List.length_flatten,-List.map_drop,-List.map_take,Function.comp_def,len_flat]) ?_
  simp (maxSteps:=3000000) [go_sem,-List.length_flatten,-List.map_drop,-List.map_take,Kc,v0,v1,hlv,w0]
  intros
  exact hfin _
 by_cases w1:w≥nv
 ·simp (maxSteps:=3000000) [go_sem,-List.length_flatten,-List.map_drop,-List.map_take,c7]
  refine PF.call hsh 9 (by simp [lePs,-List.length_flatten,-List.map_drop,-List.map_take,Function.comp_def,len_flat]) ?_
  simp (maxSteps:=3000000) [go_sem,-List.length_flatten,-List.map_drop,-List.map_take,Kc]
  refine PF.call h12 9 (by simp [lePs,-List.length_flatten,-List.map_drop,-List.map_take,Function.comp_def,len_flat]) ?_
  simp (maxSteps:=3000000) [go_sem,-List.length_flatten,-List.map_drop,-List.map_take,Kc,v0,v1,hlv,w0,w1]
  intros
  exact hfin _
 have hv:0≤v∧v<nv:=by omega
 have hw:0≤w∧w<nv:=by omega
 have bv:=below22_PF hk hnv hv
 have bw:=below22_PF hk hnv hw
 have a1:=at24_PF s.a v
 have a2:=at24_PF s.a w
 have r1:=rep27_PF hk.vok hk.gok (atV s.a v)
 have r2:=rep27_PF hk.vok hk.gok (atV s.a w)
 have ev:repG s.a s.g (atV s.a v)=atV s.a (fnd s.g.u.v v):=by rw [repG_var hk.vok hk.gok.lv (hk.vok.num v hv).1,(hk.vok.num v hv).2]
 have ew:repG s.a s.g (atV s.a w)=atV s.a (fnd s.g.u.v w):=by rw [repG_var hk.vok hk.gok.lv (hk.vok.num w hw).1,(hk.vok.num w hw).2]
 have hsame:repG s.a s.g (atV s.a v)=repG s.a s.g (atV s.a w)→blwW s.a s.g (fnd s.g.u.v w)=blwW s.a s.g (fnd s.g.u.v v):=fun h=>by
  rw [ev,ew] at h
  rw [atV_inj hk.vok (hk.gok.fin hv) (hk.gok.fin hw) h]
 have hBi:∀ x∈blwW s.a s.g (fnd s.g.u.v v),(0≤x∧x<s.a.keys.length)∧0<(gi s.a.keys x).length∧(gi (gi s.a.keys x) 0=1∨gi (gi s.a.keys x) 0=3):=fun x hx=>by
  rw [mem_blwW hk (hk.gok.fin hv)] at hx
  obtain ⟨h1,h2⟩:=hx.in hk (hk.gok.fin hv)
  have:=key_kind hF h1
  exact ⟨h1,this.1,by rw [this.2];exact h2⟩
 have hBr:=blwW_rise s.a s.g (fnd s.g.u.v v)
 have hBl:=blwW_len s.a s.g (fnd s.g.u.v v)
 have i1:=ints_PF (blwW s.a s.g (fnd s.g.u.v v)) (blwW s.a s.g (fnd s.g.u.v w))
 have hi1:repG s.a s.g (atV s.a v)=repG s.a s.g (atV s.a w)→decide (blwW s.a s.g (fnd s.g.u.v v)=blwW s.a s.g (fnd s.g.u.v w))=true:=fun h=>by rw [hsame h];simp
 clear hsame ev ew
 generalize repG s.a s.g (atV s.a v)=R1 at *
 generalize repG s.a s.g (atV s.a w)=R2 at *
 generalize atV s.a v=A1 at *
 generalize atV s.a w=A2 at *
 generalize blwW s.a s.g (fnd s.g.u.v v)=B at *
 generalize blwW s.a s.g (fnd s.g.u.v w)=B2 at *
 generalize decide (B=B2)=D at *
 have hBA:B.length≤maxA:=by unfold maxA;omega
 have hkA:s.a.keys.length≤maxA:=by unfold maxA;omega
 simp (maxSteps:=3000000) [go_sem,-List.length_flatten,-List.map_drop,-List.map_take,c7]
 refine PF.call hsh 9 (by simp [lePs,-List.length_flatten,-List.map_drop,-List.map_take,Function.comp_def,len_flat]) ?_
 simp (maxSteps:=3000000) [go_sem,-List.length_flatten,-List.map_drop,-List.map_take,Kc]
 refine PF.call h12 9 (by simp [lePs,-List.length_flatten,-List.map_drop,-List.map_take,Function.comp_def,len_flat]) ?_
 simp (maxSteps:=3000000) [go_sem,-List.length_flatten,-List.map_drop,-List.map_take,Kc,v0,v1,hlv,w0,w1,hnA]
 refine PF.call bv 9 (by simp [lePs,-List.length_flatten,-List.map_drop,-List.map_take,Function.comp_def,len_flat]) ?_
 simp (maxSteps:=3000000) [go_sem,-List.length_flatten,-List.map_drop,-List.map_take,Kc]
 refine run_loopK (fun r T H=>∃ k:Nat,r=B.length - k∧k≤B.length∧T=[(12,i64 k),(11,ints B),(8,.ptr 1 0 0),(7,.bool true),(1,i64 v),(2,i64 w)]∧H=[.cells 0 c.cs,.cells 0 s.cs])
  B.length [(12,i64 (0:Nat)),(11,ints B),(8,.ptr 1 0 0),(7,.bool true),(1,i64 v),(2,i64 w)] [.cells 0 c.cs,.cells 0 s.cs]
  (Wk.sub (by simp [Tm.get])) ⟨0,rfl,Nat.zero_le _,rfl,rfl⟩ ?_
 rintro r T H ⟨k,rfl,hkn,rfl,rfl⟩ KK kx kr kn
 by_cases hkl:k<B.length
 ·have hknx:=nxt hkl hBA
  have hm:=hBi (gi B k) (gi_mem hkl)
  obtain ⟨x,hx⟩:∃ x,gi B k=x:=⟨_,rfl⟩
  rw [hx] at hm
  obtain ⟨⟨hx0',hx1'⟩,hkl0,hkd⟩:=hm
  have hx0:¬ x<0:=by omega
  have hx1:¬ x≥s.a.keys.length:=by omega
  have next:∀ T':Tm,T'.get 12=i64 ((k+1:Nat):Int)→T'.get 11=ints B→T'.get 8=.ptr 1 0 0→T'.get 7=.bool true→T'.get 1=i64 v→T'.get 2=i64 w→KK .normal T' [.cells 0 c.cs,.cells 0 s.cs]:=fun T' t1 t2 t3 t4 t5 t6 =>
   kn _ _ (Kl_sub (B.length - (k+1)) ⟨k+1,rfl,by omega,rfl,rfl⟩ ⟨t1,t2,t3,t4,t5,t6,trivial⟩ (by omega))
  clear kn
  generalize hkx:gi s.a.keys x=kx' at *
  generalize hg0:gi kx' 0=g0 at *
  by_cases hk0:0<k
  ·have hpv:IntKind.i64.wrap ((k:Int) - 1)=((k - 1:Nat):Int):=by rw [w64 (by omega) (by unfold maxA at hBA;omega)];omega
   have hk1:k - 1<B.length:=by omega
   have hlt:=rise_risesTo hBr hk0 hkl
   rw [hx] at hlt
   have hge:¬ gi B (k - 1:Nat)≥x:=by omega
   rcases hkd with e|e
   ·simp (maxSteps:=3000000) [go_sem,-List.length_flatten,-List.map_drop,-List.map_take,hkl,hx,hx0,hx1,hx0',hx1',hkA,hkx,hkl0,hg0,e,hk0,hpv,hk1,hge]
    intros
    exact next _ (by simp [Tm.get,hknx]) (by simp [Tm.get]) (by simp [Tm.get]) (by simp [Tm.get]) (by simp [Tm.get]) (by simp [Tm.get])
   ·simp (maxSteps:=3000000) [go_sem,-List.length_flatten,-List.map_drop,-List.map_take,hkl,hx,hx0,hx1,hx0',hx1',hkA,hkx,hkl0,hg0,e,hk0,hpv,hk1,hge]
    intros
    exact next _ (by simp [Tm.get,hknx]) (by simp [Tm.get]) (by simp [Tm.get]) (by simp [Tm.get]) (by simp [Tm.get]) (by simp [Tm.get])
  ·have ek:k=0:=by omega
   rcases hkd with e|e
   ·simp (maxSteps:=3000000) [go_sem,-List.length_flatten,-List.map_drop,-List.map_take,hkl,hx,hx0,hx1,hx0',hx1',hkA,hkx,hkl0,hg0,e,hk0]
    intros
    exact next _ (by simp [Tm.get,hknx]) (by simp [Tm.get]) (by simp [Tm.get]) (by simp [Tm.get]) (by simp [Tm.get]) (by simp [Tm.get])
   ·simp (maxSteps:=3000000) [go_sem,-List.length_flatten,-List.map_drop,-List.map_take,hkl,hx,hx0,hx1,hx0',hx1',hkA,hkx,hkl0,hg0,e,hk0]
    intros
    exact next _ (by simp [Tm.get,hknx]) (by simp [Tm.get]) (by simp [Tm.get]) (by simp [Tm.get]) (by simp [Tm.get]) (by simp [Tm.get])
 ·by_cases hR:R1=R2
  ·have hD:=hi1 hR
   subst hR
   subst hD
   simp (maxSteps:=3000000) [go_sem,-List.length_flatten,-List.map_drop,-List.map_take,hkl,kx]
   refine fun _=>⟨_,a1,?_⟩
   simp (maxSteps:=3000000) [go_sem,-List.length_flatten,-List.map_drop,-List.map_take,Kc]
   refine ⟨_,r1,_,a2,_,r2,?_⟩
   simp (maxSteps:=3000000) [go_sem,-List.length_flatten,-List.map_drop,-List.map_take,Kc]
   refine PF.call bw 9 (by simp [lePs,-List.length_flatten,-List.map_drop,-List.map_take,Function.comp_def,len_flat]) ?_
   simp (maxSteps:=3000000) [go_sem,-List.length_flatten,-List.map_drop,-List.map_take,Kc]
   refine PF.call i1 9 (by simp [lePs,-List.length_flatten,-List.map_drop,-List.map_take,Function.comp_def,len_flat]) ?_
   simp (maxSteps:=3000000) [go_sem,-List.length_flatten,-List.map_drop,-List.map_take,Kc]
   exact hfin _
  ·simp (maxSteps:=3000000) [go_sem,-List.length_flatten,-List.map_drop,-List.map_take,hkl,kx]
   refine fun _=>⟨_,a1,?_⟩
   simp (maxSteps:=3000000) [go_sem,-List.length_flatten,-List.map_drop,-List.map_take,Kc]
   refine ⟨_,r1,_,a2,_,r2,?_⟩
   simp (maxSteps:=3000000) [go_sem,-List.length_flatten,-List.map_drop,-List.map_take,Kc,hR]
   exact hfin _
section
variable {ps:List (Int×Int)} {nv:Nat} {s:Sy}
end
def moreC (c:Cz) (m:Cn):Cz:=⟨c.sigs,c.l++[m],c.ranks,c.depth⟩
def FitN (e:List Nd):Prop:=e.length≤1048576∧∀ j:Nat,j<e.length→(gi e j).name.size≤maxA
theorem FitC.more {c:Cz} (h:FitC c) {m:Cn} (hl:FitN m.l) (hr:FitN m.r):FitC (moreC c m):=by
 refine ⟨h.sg,fun i hi=>?_⟩
 have hi':i<c.l.length+1:=by simpa [moreC] using hi
 by_cases e:i=c.l.length
 ·subst e
  have hg:gi (moreC c m).l (c.l.length:Nat)=m:=by simp [moreC,gi,List.getD]
  rw [hg]
  exact ⟨⟨hl.1,hr.1⟩,hl.2,hr.2⟩
 ·have hg:gi (moreC c m).l i=gi c.l i:=giApp (by omega)
  rw [hg]
  exact h.nd i (by omega)
def tyNds:Ty:=.slice (.struct [.int .i64,.str,.int .i64])
def tyCons:Ty:=.struct [tyNds,tyNds]
def tyCase:Ty:=.struct [tySigs,.slice tyCons,tyInts,.int .i64]
def ndsFit (l:List Nd):Prop:=l.length≤lim∧∀ x∈l,(Lit.int .i64 x.kind).wf=true∧x.name.size≤lim∧(Lit.int .i64 x.n).wf=true
theorem is_nds {cs:List AV} (h:tyNds.is cs):∃ l:List Nd,cs=[nds l]∧ndsFit l:=by
 simp only [tyNds,Ty.is,Ty.isL] at h
 obtain ⟨e1,rfl,hl1,hs1⟩:=h
 obtain ⟨l,rfl,hl⟩:=is_rows (f:=fun x:Nd=>x.cs) (p:=fun x=>(Lit.int .i64 x.kind).wf=true∧x.name.size≤lim∧(Lit.int .i64 x.n).wf=true) (fun z hz=>by
  obtain ⟨_,_,rfl,⟨k,rfl,h1⟩,_,_,rfl,⟨s,rfl,h2⟩,_,_,rfl,⟨n,rfl,h3⟩,rfl⟩:=hz
  exact ⟨⟨k,s,n⟩,rfl,h1,h2,h3⟩) hs1
 exact ⟨l,rfl,by simpa using hl1,hl⟩
theorem ndsFit.fit {l:List Nd} (h:ndsFit l):FitN l:=⟨h.1,fun j hj=>by
 have:=(h.2 (gi l j) (gi_mem hj)).2.1
 unfold lim at this
 unfold maxA
 omega⟩
theorem is_cons {cs:List AV} (h:tyCons.is cs):∃ m:Cn,cs=[nds m.l,nds m.r]∧ndsFit m.l∧ndsFit m.r:=by
 simp only [tyCons,Ty.is,Ty.isL] at h
 obtain ⟨_,_,rfl,k1,_,_,rfl,k2,rfl⟩:=h
 obtain ⟨l,rfl,f1⟩:=is_nds k1
 obtain ⟨r,rfl,f2⟩:=is_nds k2
 exact ⟨⟨l,r⟩,rfl,f1,f2⟩
theorem is_case {cs:List AV} (h:tyCase.is cs):∃ c:Cz,cs=c.cs∧FitC c∧c.l.length≤1048576∧intsFit c.ranks:=by
 have h':∃ a b,cs=a++b∧tySigs.is a∧∃ a' b',b=a'++b'∧(∃ es,a'=[.rows false tyCons.size es]∧es.length≤lim∧∀ x∈es,tyCons.is x)∧∃ a2 b2,b'=a2++b2∧tyInts.is a2∧∃ a3 b3,b2=a3++b3∧(∃ n:Int,a3=[.int .i64 n]∧(Lit.int .i64 n).wf=true)∧b3=[]:=by
  simpa [tyCase,Ty.is,Ty.isL] using h
 obtain ⟨_,_,rfl,k1,_,_,rfl,⟨es,rfl,hl1,hs1⟩,_,_,rfl,k3,_,_,rfl,⟨d,rfl,k4⟩,rfl⟩:=h'
 obtain ⟨sg,rfl,f1⟩:=is_sigs k1
 obtain ⟨rk,rfl,f3⟩:=is_ints k3
 obtain ⟨l,rfl,hl⟩:=is_rows (f:=fun c:Cn=>[nds c.l,nds c.r]) (p:=fun c=>ndsFit c.l∧ndsFit c.r) (fun z hz=>is_cons hz) hs1
 have hll:l.length≤1048576:=by simpa [lim] using hl1
 refine ⟨⟨sg,l,rk,d⟩,rfl,⟨f1.args,fun i hi=>?_⟩,hll,f3⟩
 have:=hl (gi l i) (gi_mem hi)
 exact ⟨⟨this.1.fit.1,this.2.fit.1⟩,this.1.fit.2,this.2.fit.2⟩
end Go.AM
