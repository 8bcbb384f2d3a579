/- Contracts of the program's functions. -/
import Derived.Test.YtpdjffpdanmoeaaGreatL7
import Derived.KernelRfl
namespace Go.AM
open Go.Proofs
set_option maxRecDepth 100000
set_option linter.unusedVariables false
set_option linter.unusedSimpArgs false
attribute [local go_sem] Function.comp_def argsT Opd.ev Tm.get put ares mapMo ares1 snilP bldParts bslParts putAt AV.cells AV.one astore aload loadCs callArgs abin abinInt aapp elems appMore appNone preLen aFa aFld apart aExt aPick aNot aLens aEqa cellsK fitsA LK.fitsA leavesA leafA nilD aNilc aCint aCid alive alen alenOk Rle lePs len_flat lit
def c3:AFn:=lit fun m o w i y z p n s t k q r d c f b e a=>⟨103,q (r [i 3 (.box (t 0)),i 6 (.mov (.lit (.bool false)))]) (q (r [i 12 (f 11 []),m 7 12]) (q (r [w 14 4 3,i 15 (f 12 [t 14]),m 13 15,i 16 (.ext (t 13) 0),i 17 (.ext (t 13) 1),i 18 (.ext (t 13) 2),i 8 (.alloc [.nilS,.nilS,.nilS,.nilS,.nilS,.nilS,.nilS,.nilS,.nilS,.nilS,.nilS,.nilS,.nilS,.int .i64 0,.int .i64 0]),s (.store 15 (t 8) (t 16)),m 9 17,m 10 18]) (q (q (r [m 19 10,i 20 (.not (t 19)),m 21 20,z 22 1 21,n 23 (.len (t 22)) 21,z 24 2 21,n 25 (.len (t 24)) 21,n 26 (e .add 23 25) 21,n 27 (.bin .gtr (t 26) (k 200)) 21,i 28 (.pick (t 21) (.lit (.bool true)) (t 27))]) (c 28 (q (r [m 29 7,m 6 29]) .ret) .skip)) (q (q (d [w 30 15 8,i 31 (f 14 [t 30]),w 32 15 8,i 33 (f 15 [t 32]),i 34 (f 13 [t 31,t 33]),i 35 (.not (t 34)),m 36 35,n 37 (.fa 3 (t 8)) 36,n 38 (.load 6 true (t 37)) 36,n 39 (f 17 [t 38]) 36,n 40 (.fa 3 (t 8)) 36,n 41 (.load 6 true (t 40)) 36,n 42 (f 18 [t 41]) 36,n 43 (f 16 [t 39,t 42]) 36,n 44 (.not (t 43)) 36,i 45 (.pick (t 36) (.lit (.bool true)) (t 44))]) (c 45 (q (r [i 6 (.mov (.lit (.bool false)))]) .ret) .skip)) (q (q (r [i 11 (.mov (k 1))]) (b 0 ((q (q (r [m 46 11,m 47 1,i 48 (.len (t 47)),i 49 (e .lss 46 48),m 50 49,z 51 11 50,z 52 2 50,n 53 (.len (t 52)) 50,n 54 (e .lss 51 53) 50,i 55 (.pick (t 50) (.lit (.bool true)) (t 54))]) (c 55 .skip (.exit 0))) (q (.block 1 (q (d [m 58 11,m 59 1,i 60 (.len (t 59)),i 61 (e .lss 58 60),m 62 61,y 63 1 62,y 64 11 62,p 65 (.bin .sub (t 64) (k 1)) 62,p 66 (.ia 1 (t 63) (t 65)) 62,p 67 (.load 1 false (t 66)) 62,y 68 1 62,y 69 11 62,p 70 (.ia 1 (t 68) (t 69)) 62,p 71 (.load 1 false (t 70)) 62,p 72 (e .geq 67 71) 62,i 73 (.pick (t 62) (t 72) (.lit (.bool false))),m 74 73,z 75 11 74,z 76 2 74,n 77 (.len (t 76)) 74,n 78 (e .lss 75 77) 74,z 79 78 74,y 80 2 79,y 81 11 79,p 82 (.bin .sub (t 81) (k 1)) 79,p 83 (.ia 1 (t 80) (t 82)) 79,p 84 (.load 1 false (t 83)) 79,y 85 2 79,y 86 11 79,p 87 (.ia 1 (t 85) (t 86)) 79,p 88 (.load 1 false (t 87)) 79,p 89 (e .geq 84 88) 79,n 90 (.pick (t 79) (t 89) (.lit (.bool false))) 74,i 91 (.pick (t 74) (.lit (.bool true)) (t 90))]) (c 91 (q (r [m 92 7,m 6 92]) .ret) .skip))) (r [m 56 11,i 57 (.bin .add (t 56) (k 1)),m 11 57])))))) (q (r [m 93 7,m 94 93,y 95 1 94,y 96 2 94,p 97 (f 19 [t 95,t 96]) 94,y 98 1 94,y 99 2 94,p 100 (f 20 [t 98,t 99]) 94,p 101 (f 16 [t 97,t 100]) 94,i 102 (.pick (t 94) (t 101) (.lit (.bool false))),m 6 102]) .ret)))))),[.tmp 6]⟩
structure Sol (c:Cz) (s:Sy):Prop where
 inv:SInv (fun p=>p∈psC c) (nmC c).length [] s
 w0:s.w.l=[]
 sg:s.sigs=c.sigs
 sa:s.a=stC c
 seen:∀ p∈psC c,seenP s p
 ps:∀ p∈psC c,inP s.a p∧okP c.sigs s.a p
 nv:(nmC c).length≤400
 pl:(psC c).length≤12
theorem LoadedC.sol {c:Cz} (h:LoadedC c):Sol c (endC c):=by
 obtain ⟨h1,h2,h3,⟨h4,h5⟩,h6⟩:=h.fin
 refine ⟨h2,h3,h4,h5,h6,?_,h.lok.names,?_⟩
 ·rw [h5];exact h.ps
 ·have:=psC_len (l:=c.sigs) c.l (newK,[],[],true)
  have h12:=h.small.l12
  simp only [List.length_nil,Nat.zero_add] at this
  exact Nat.le_trans this h12
theorem solved12_PF {c:Cz} (hf:FitC c):(LoadedC c∧∃ s,Sol c s∧PF Tryz.prog 12 [.agg c.cs] (.tuple [.agg s.cs,prs (psC c),.bool true]))∨(¬ LoadedC c∧PF Tryz.prog 12 [.agg c.cs] (.tuple [.agg nil15,.nilS,.bool false])):=by
 classical
 by_cases h:LoadedC c
 ·exact .inl ⟨h,_,h.sol,solvedY_PF h hf⟩
 ·exact .inr ⟨h,solvedN_PF h hf⟩
theorem c3_ok:cFn Tryz.prog an0 Tryz.f3=some c3:=by kernel_rfl
theorem bothR_is {a b:List Int} (hb:b.Nodup):bothR a b=bothL a b:=by
 unfold bothR bothK
 rw [List.take_length]
 have h1:∀ x,cntR b x b.length=if b.contains x=true then [x] else []:=fun x=>by
  unfold cntR
  rw [List.take_length]
  by_cases h:x∈b
  ·rw [hb.count,if_pos h,if_pos (by simpa using h)];rfl
  ·rw [List.count_eq_zero.2 h,if_neg (by simpa using h)];rfl
 induction a with
 | nil=>rfl
 | cons x a ih =>
  rw [List.flatMap_cons,ih,h1]
  simp only [bothL,List.filter_cons]
  split<;>rfl
theorem rise_nodup {l:List Int} (h:l.Pairwise (·<·)):l.Nodup:=h.imp fun {a b} h=>by omega
theorem rise_le {l:List Int} (h:l.Pairwise (·<·)):l.Pairwise (·≤·):=h.imp fun {a b} h=>by omega
def risesTo (l:List Int) (i:Nat):Prop:=∀ j:Nat,1≤j→j<i→j<l.length→gi l (j - 1:Nat)<gi l j
theorem risesTo.one (l:List Int):risesTo l 1:=fun j h1 h2=>by omega
theorem risesTo.next {l:List Int} {i:Nat} (h:risesTo l i) (hi:i<l.length→gi l (i - 1:Nat)<gi l i):risesTo l (i+1):=fun j h1 h2 h3=>by
 by_cases e:j=i
 ·subst e;exact hi h3
 ·exact h j h1 (by omega) h3
theorem risesTo.rise {l:List Int} {i:Nat} (h:risesTo l i) (hi:l.length≤i):l.Pairwise (·<·):=by
 have key:∀ d j:Nat,j+d+1<l.length→gi l j<gi l (j+d+1:Nat):=by
  intro d
  induction d with
  | zero =>
   intro j hj
   have:=h (j+1) (by omega) (by omega) hj
   simpa using this
  | succ d ih =>
   intro j hj
   have h1:=ih j (by omega)
   have h2:=h (j+d+2) (by omega) (by omega) (by omega)
   rw [show j+d+2 - 1=j+d+1 by omega] at h2
   rw [show j+(d+1)+1=j+d+2 by omega]
   exact Int.lt_trans h1 h2
 rw [List.pairwise_iff_getElem]
 intro a b ha hb hab
 have:=key (b - a - 1) a (by omega)
 rw [show a+(b - a - 1)+1=b by omega] at this
 simpa [gi,List.getD,ha,hb] using this
set_option maxHeartbeats 2000000 in
theorem law3_PF (c:Cz) (hf:FitC c) (p q:List Int) (hp:p.length≤1048576) (hq:q.length≤1048576):PF Tryz.prog 3 [.agg c.cs,ints p,ints q] (.bool true):=by
 refine PFk 9 hm Tryz.func3 c3_ok (Nat.le_of_ble_eq_true rfl) (fun x hx=>by
  simp only [List.mem_cons,List.not_mem_nil,or_false] at hx
  rcases hx with rfl|rfl|rfl
  ·exact cz_RL c _ (by simp)
  ·simp
  ·simp) (by simp) ?_
 generalize hQ:Rle 9 (AV.bool true)=Q
 have hsh:=shown11_PF
 have hfin:∀ H,Q (AV.bool true) H:=fun H=>by rw [←hQ];simp [Rle,frz,leP]
 have hws:IntKind.i64.wrap ((p.length:Int)+q.length)=((p.length+q.length:Nat):Int):=by rw [w64 (by omega) (by omega)];omega
 rcases solved12_PF hf with ⟨hL,s,hS,h12⟩|⟨hL,h12⟩
 case inr =>
  simp (maxSteps:=3000000) [go_sem,-List.length_flatten,-List.map_drop,-List.map_take,c3]
  refine PF.call hsh 9 (by simp [lePs,-List.length_flatten,-List.map_drop,-List.map_take,Function.comp_def,len_flat]) ?_
  simp (maxSteps:=3000000) [go_sem,-List.length_flatten,-List.map_drop,-List.map_take,Kc]
  refine PF.call h12 9 (by simp [lePs,-List.length_flatten,-List.map_drop,-List.map_take,Function.comp_def,len_flat]) ?_
  simp (maxSteps:=3000000) [go_sem,-List.length_flatten,-List.map_drop,-List.map_take,Kc,hws]
  exact hfin _
 have hk:=hS.inv.lk
 have hlv:=hk.gok.lv
 have hnv:=hS.nv
 have t1:=table14_PF hk hnv
 have t2:PF Tryz.prog 15 [.agg s.cs] (intss (tblW s.a s.g (nmC c).length)):=table15_PF hk hnv
 have t3:=rows_PF (tblW s.a s.g (nmC c).length) (tblW s.a s.g (nmC c).length)
 have o1:PF Tryz.prog 17 [.agg s.g.cs] _:=order17_PF s.g (by rw [hlv];omega)
 have o2:PF Tryz.prog 18 [.agg s.g.cs] _:=order18_PF s.g (by rw [hlv];omega)
 have o3:=ints_PF (orderR s.g.ranks (firstsU s.g.u.v)) (orderR s.g.ranks (firstsU s.g.u.v))
 rw [decide_eq_true rfl] at t3 o3
 generalize tblW s.a s.g (nmC c).length=W at *
 generalize orderR s.g.ranks (firstsU s.g.u.v)=O at *
 generalize psC c=ps at *
 clear hk hlv hS hnv
 simp (maxSteps:=3000000) [go_sem,-List.length_flatten,-List.map_drop,-List.map_take,c3]
 refine PF.call hsh 9 (by simp [lePs,-List.length_flatten,-List.map_drop,-List.map_take,Function.comp_def,len_flat]) ?_
 simp (maxSteps:=3000000) [go_sem,-List.length_flatten,-List.map_drop,-List.map_take,Kc]
 refine PF.call h12 9 (by simp [lePs,-List.length_flatten,-List.map_drop,-List.map_take,Function.comp_def,len_flat]) ?_
 simp (maxSteps:=3000000) [go_sem,-List.length_flatten,-List.map_drop,-List.map_take,Kc,hws]
 refine fun hpA hqA=>⟨fun _=>hfin _,fun h200=>?_⟩
 refine ⟨_,t1,_,t2,_,t3,?_⟩
 simp (maxSteps:=3000000) [go_sem,-List.length_flatten,-List.map_drop,-List.map_take,Kc]
 refine ⟨_,o1,_,o2,_,o3,?_⟩
 simp (maxSteps:=3000000) [go_sem,-List.length_flatten,-List.map_drop,-List.map_take,Kc]
 refine run_loopK (fun r T H=>∃ i:Nat,r=202 - i∧(1≤i∧i≤201)∧(risesTo p i∧risesTo q i)∧T=[(11,i64 i),(7,.bool true),(1,ints p),(2,ints q)]∧H=[.cells 0 c.cs,.cells 0 s.cs])
  201 [(11,i64 (1:Nat)),(7,.bool true),(1,ints p),(2,ints q)] [.cells 0 c.cs,.cells 0 s.cs]
  (Wk.sub (by simp [Tm.get])) ⟨1,rfl,by omega,⟨.one _,.one _⟩,rfl,rfl⟩ ?_
 rintro r T H ⟨i,rfl,hi,⟨hrp,hrq⟩,rfl,rfl⟩ KK kx kr kn
 have hpv:IntKind.i64.wrap ((i:Int) - 1)=((i - 1:Nat):Int):=by rw [w64 (by omega) (by omega)];omega
 have next:∀ (T':Tm),i<p.length∨i<q.length→(i<p.length→gi p (i - 1:Nat)<gi p i)→(i<q.length→gi q (i - 1:Nat)<gi q i)→T'.get 11=i64 ((i+1:Nat):Int)→T'.get 7=.bool true→T'.get 1=ints p→T'.get 2=ints q→KK .normal T' [.cells 0 c.cs,.cells 0 s.cs]:=fun T' hor g1 g2 t1 t2 t3 t4 =>
  kn _ _ (Kl_sub (202 - (i+1)) ⟨i+1,rfl,by omega,⟨hrp.next g1,hrq.next g2⟩,rfl,rfl⟩ ⟨t1,t2,t3,t4,trivial⟩ (by omega))
 have hnx:IntKind.i64.wrap ((i:Int)+1)=((i+1:Nat):Int):=by rw [w64 (by omega) (by omega)];omega
 by_cases hip:i<p.length
 ·have hip1:i - 1<p.length:=by omega
  by_cases hbp:gi p (i - 1:Nat)≥gi p i
  ·simp (maxSteps:=3000000) [go_sem,-List.length_flatten,-List.map_drop,-List.map_take,hip,hip1,hpv,hbp,hpA,hqA,kr]
   exact hfin _
  ·have hgp:gi p (i - 1:Nat)<gi p i:=by omega
   by_cases hiq:i<q.length
   ·have hiq1:i - 1<q.length:=by omega
    by_cases hbq:gi q (i - 1:Nat)≥gi q i
    ·simp (maxSteps:=3000000) [go_sem,-List.length_flatten,-List.map_drop,-List.map_take,hip,hip1,hpv,hbp,hpA,hqA,hiq,hiq1,hbq,kr]
     exact hfin _
    ·simp (maxSteps:=3000000) [go_sem,-List.length_flatten,-List.map_drop,-List.map_take,hip,hip1,hpv,hbp,hpA,hqA,hiq,hiq1,hbq]
     exact next _ (.inl hip) (fun _=>hgp) (fun _=>by omega) (by simp [Tm.get,hnx]) (by simp [Tm.get]) (by simp [Tm.get]) (by simp [Tm.get])
   ·simp (maxSteps:=3000000) [go_sem,-List.length_flatten,-List.map_drop,-List.map_take,hip,hip1,hpv,hbp,hpA,hqA,hiq]
    exact next _ (.inl hip) (fun _=>hgp) (fun h=>(hiq h).elim) (by simp [Tm.get,hnx]) (by simp [Tm.get]) (by simp [Tm.get]) (by simp [Tm.get])
 ·by_cases hiq:i<q.length
  ·have hiq1:i - 1<q.length:=by omega
   by_cases hbq:gi q (i - 1:Nat)≥gi q i
   ·simp (maxSteps:=3000000) [go_sem,-List.length_flatten,-List.map_drop,-List.map_take,hip,hpv,hpA,hqA,hiq,hiq1,hbq,kr]
    exact hfin _
   ·simp (maxSteps:=3000000) [go_sem,-List.length_flatten,-List.map_drop,-List.map_take,hip,hpv,hpA,hqA,hiq,hiq1,hbq]
    exact next _ (.inr hiq) (fun h=>(hip h).elim) (fun _=>by omega) (by simp [Tm.get,hnx]) (by simp [Tm.get]) (by simp [Tm.get]) (by simp [Tm.get])
  ·have hrp':=hrp.rise (by omega)
   have hrq':=hrq.rise (by omega)
   have b1:=both19_PF p q (by omega) (by omega) (rise_le hrq')
   have hpq:p.length*q.length≤200*200:=Nat.mul_le_mul (by omega) (by omega)
   have b2:=both20_PF p q (by omega) (by omega) (by omega)
   rw [bothR_is (rise_nodup hrq')] at b2
   have i1:=ints_PF (bothL p q) (bothL p q)
   rw [decide_eq_true rfl] at i1
   generalize bothL p q=B at *
   clear next kn
   simp (maxSteps:=3000000) [go_sem,-List.length_flatten,-List.map_drop,-List.map_take,hip,hiq,kx,hpA,hqA]
   refine PF.call b1 9 (by simp [lePs,-List.length_flatten,-List.map_drop,-List.map_take,Function.comp_def,len_flat]) ?_
   simp (maxSteps:=3000000) [go_sem,-List.length_flatten,-List.map_drop,-List.map_take,Kc]
   refine PF.call b2 9 (by simp [lePs,-List.length_flatten,-List.map_drop,-List.map_take,Function.comp_def,len_flat]) ?_
   simp (maxSteps:=3000000) [go_sem,-List.length_flatten,-List.map_drop,-List.map_take,Kc]
   refine PF.call i1 9 (by simp [lePs,-List.length_flatten,-List.map_drop,-List.map_take,Function.comp_def,len_flat]) ?_
   simp (maxSteps:=3000000) [go_sem,-List.length_flatten,-List.map_drop,-List.map_take,Kc]
   exact hfin _
section
variable {ps:List (Int×Int)} {nv:Nat} {s:Sy}
end
def moreC (c:Cz) (m:Cn):Cz:=⟨c.sigs,c.l++[m],c.ranks,c.depth⟩
def FitN (e:List Nd):Prop:=e.length≤1048576∧∀ j:Nat,j<e.length→(gi e j).name.size≤maxA
theorem FitC.more {c:Cz} (h:FitC c) {m:Cn} (hl:FitN m.l) (hr:FitN m.r):FitC (moreC c m):=by
 refine ⟨h.sg,fun i hi=>?_⟩
 have hi':i<c.l.length+1:=by simpa [moreC] using hi
 by_cases e:i=c.l.length
 ·subst e
  have hg:gi (moreC c m).l (c.l.length:Nat)=m:=by simp [moreC,gi,List.getD]
  rw [hg]
  exact ⟨⟨hl.1,hr.1⟩,hl.2,hr.2⟩
 ·have hg:gi (moreC c m).l i=gi c.l i:=giApp (by omega)
  rw [hg]
  exact h.nd i (by omega)
def tyNds:Ty:=.slice (.struct [.int .i64,.str,.int .i64])
def tyCons:Ty:=.struct [tyNds,tyNds]
def tyCase:Ty:=.struct [tySigs,.slice tyCons,tyInts,.int .i64]
def ndsFit (l:List Nd):Prop:=l.length≤lim∧∀ x∈l,(Lit.int .i64 x.kind).wf=true∧x.name.size≤lim∧(Lit.int .i64 x.n).wf=true
theorem is_nds {cs:List AV} (h:tyNds.is cs):∃ l:List Nd,cs=[nds l]∧ndsFit l:=by
 simp only [tyNds,Ty.is,Ty.isL] at h
 obtain ⟨e1,rfl,hl1,hs1⟩:=h
 obtain ⟨l,rfl,hl⟩:=is_rows (f:=fun x:Nd=>x.cs) (p:=fun x=>(Lit.int .i64 x.kind).wf=true∧x.name.size≤lim∧(Lit.int .i64 x.n).wf=true) (fun z hz=>by
  obtain ⟨_,_,rfl,⟨k,rfl,h1⟩,_,_,rfl,⟨s,rfl,h2⟩,_,_,rfl,⟨n,rfl,h3⟩,rfl⟩:=hz
  exact ⟨⟨k,s,n⟩,rfl,h1,h2,h3⟩) hs1
 exact ⟨l,rfl,by simpa using hl1,hl⟩
theorem ndsFit.fit {l:List Nd} (h:ndsFit l):FitN l:=⟨h.1,fun j hj=>by
 have:=(h.2 (gi l j) (gi_mem hj)).2.1
 unfold lim at this
 unfold maxA
 omega⟩
theorem is_cons {cs:List AV} (h:tyCons.is cs):∃ m:Cn,cs=[nds m.l,nds m.r]∧ndsFit m.l∧ndsFit m.r:=by
 simp only [tyCons,Ty.is,Ty.isL] at h
 obtain ⟨_,_,rfl,k1,_,_,rfl,k2,rfl⟩:=h
 obtain ⟨l,rfl,f1⟩:=is_nds k1
 obtain ⟨r,rfl,f2⟩:=is_nds k2
 exact ⟨⟨l,r⟩,rfl,f1,f2⟩
theorem is_case {cs:List AV} (h:tyCase.is cs):∃ c:Cz,cs=c.cs∧FitC c∧c.l.length≤1048576∧intsFit c.ranks:=by
 have h':∃ a b,cs=a++b∧tySigs.is a∧∃ a' b',b=a'++b'∧(∃ es,a'=[.rows false tyCons.size es]∧es.length≤lim∧∀ x∈es,tyCons.is x)∧∃ a2 b2,b'=a2++b2∧tyInts.is a2∧∃ a3 b3,b2=a3++b3∧(∃ n:Int,a3=[.int .i64 n]∧(Lit.int .i64 n).wf=true)∧b3=[]:=by
  simpa [tyCase,Ty.is,Ty.isL] using h
 obtain ⟨_,_,rfl,k1,_,_,rfl,⟨es,rfl,hl1,hs1⟩,_,_,rfl,k3,_,_,rfl,⟨d,rfl,k4⟩,rfl⟩:=h'
 obtain ⟨sg,rfl,f1⟩:=is_sigs k1
 obtain ⟨rk,rfl,f3⟩:=is_ints k3
 obtain ⟨l,rfl,hl⟩:=is_rows (f:=fun c:Cn=>[nds c.l,nds c.r]) (p:=fun c=>ndsFit c.l∧ndsFit c.r) (fun z hz=>is_cons hz) hs1
 have hll:l.length≤1048576:=by simpa [lim] using hl1
 refine ⟨⟨sg,l,rk,d⟩,rfl,⟨f1.args,fun i hi=>?_⟩,hll,f3⟩
 have:=hl (gi l i) (gi_mem hi)
 exact ⟨⟨this.1.fit.1,this.2.fit.1⟩,this.1.fit.2,this.2.fit.2⟩
end Go.AM
