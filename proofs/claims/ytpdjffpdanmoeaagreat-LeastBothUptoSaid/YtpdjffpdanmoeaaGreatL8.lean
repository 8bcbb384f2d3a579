/- Contracts of the program's functions. -/
import Derived.Test.YtpdjffpdanmoeaaGreatL7
import Derived.KernelRfl
namespace Go.AM
open Go.Proofs
set_option maxRecDepth 100000
set_option linter.unusedVariables false
set_option linter.unusedSimpArgs false
attribute [local go_sem] Function.comp_def argsT Opd.ev Tm.get put ares mapMo ares1 snilP bldParts bslParts putAt AV.cells AV.one astore aload loadCs callArgs abin abinInt aapp elems appMore appNone preLen aFa aFld apart aExt aPick aNot aLens aEqa cellsK fitsA LK.fitsA leavesA leafA nilD aNilc aCint aCid alive alen alenOk Rle lePs len_flat lit
def c10:AFn:=lit fun m o w i y z p n s t k q r d c f b e a=>⟨112,q (r [i 4 (.mov (.lit (.bool false)))]) (q (r [i 9 (f 11 []),m 5 9]) (q (q (r [m 10 0,i 11 (.len (t 10)),m 12 1,i 13 (.len (t 12)),i 14 (e .add 11 13),i 15 (.bin .gtr (t 14) (k 200))]) (c 15 (q (r [m 16 5,m 4 16]) .ret) .skip)) (q (q (r [i 6 (.mov (k 1))]) (b 0 ((q (q (r [m 17 6,m 18 0,i 19 (.len (t 18)),i 20 (e .lss 17 19),m 21 20,z 22 6 21,z 23 1 21,n 24 (.len (t 23)) 21,n 25 (e .lss 22 24) 21,i 26 (.pick (t 21) (.lit (.bool true)) (t 25))]) (c 26 .skip (.exit 0))) (q (.block 1 (q (d [m 29 6,m 30 0,i 31 (.len (t 30)),i 32 (e .lss 29 31),m 33 32,y 34 0 33,y 35 6 33,p 36 (.bin .sub (t 35) (k 1)) 33,p 37 (.ia 1 (t 34) (t 36)) 33,p 38 (.load 1 false (t 37)) 33,y 39 0 33,y 40 6 33,p 41 (.ia 1 (t 39) (t 40)) 33,p 42 (.load 1 false (t 41)) 33,p 43 (e .geq 38 42) 33,i 44 (.pick (t 33) (t 43) (.lit (.bool false))),m 45 44,z 46 6 45,z 47 1 45,n 48 (.len (t 47)) 45,n 49 (e .lss 46 48) 45,z 50 49 45,y 51 1 50,y 52 6 50,p 53 (.bin .sub (t 52) (k 1)) 50,p 54 (.ia 1 (t 51) (t 53)) 50,p 55 (.load 1 false (t 54)) 50,y 56 1 50,y 57 6 50,p 58 (.ia 1 (t 56) (t 57)) 50,p 59 (.load 1 false (t 58)) 50,p 60 (e .geq 55 59) 50,n 61 (.pick (t 50) (t 60) (.lit (.bool false))) 45,i 62 (.pick (t 45) (.lit (.bool true)) (t 61))]) (c 62 (q (r [m 63 5,m 4 63]) .ret) .skip))) (r [m 27 6,i 28 (.bin .add (t 27) (k 1)),m 6 28])))))) (q (r [m 64 0,m 65 1,i 66 (f 19 [t 64,t 65]),m 7 66]) (q (q (r [i 8 (.mov (k 1))]) (b 2 ((q (q (r [m 67 8,m 68 7,i 69 (.len (t 68)),i 70 (e .lss 67 69)]) (c 70 .skip (.exit 2))) (q (.block 3 (q (d [m 73 7,m 74 8,i 75 (.bin .sub (t 74) (k 1)),i 76 (.ia 1 (t 73) (t 75)),o 77 76,m 78 7,m 79 8,i 80 (.ia 1 (t 78) (t 79)),o 81 80,i 82 (e .geq 77 81)]) (c 82 (q (r [i 4 (.mov (.lit (.bool false)))]) .ret) .skip))) (r [m 71 8,i 72 (.bin .add (t 71) (k 1)),m 8 72])))))) (q (r [m 83 5,m 84 83,y 85 7 84,y 86 1 84,y 87 0 84,p 88 (f 19 [t 86,t 87]) 84,p 89 (f 16 [t 85,t 88]) 84,i 90 (.pick (t 84) (t 89) (.lit (.bool false))),m 91 90,y 92 0 91,y 93 0 91,p 94 (f 19 [t 92,t 93]) 91,y 95 0 91,p 96 (f 16 [t 94,t 95]) 91,i 97 (.pick (t 91) (t 96) (.lit (.bool false))),m 98 97,y 99 7 98,y 100 0 98,p 101 (f 19 [t 99,t 100]) 98,y 102 7 98,p 103 (f 16 [t 101,t 102]) 98,i 104 (.pick (t 98) (t 103) (.lit (.bool false))),m 105 104,y 106 7 105,y 107 1 105,p 108 (f 19 [t 106,t 107]) 105,y 109 7 105,p 110 (f 16 [t 108,t 109]) 105,i 111 (.pick (t 105) (t 110) (.lit (.bool false))),m 4 111]) .ret)))))),[.tmp 4]⟩
structure Sol (c:Cz) (s:Sy):Prop where
 inv:SInv (fun p=>p∈psC c) (nmC c).length [] s
 w0:s.w.l=[]
 sg:s.sigs=c.sigs
 sa:s.a=stC c
 seen:∀ p∈psC c,seenP s p
 ps:∀ p∈psC c,inP s.a p∧okP c.sigs s.a p
 nv:(nmC c).length≤400
 pl:(psC c).length≤12
theorem c10_ok:cFn Tryz.prog an0 Tryz.f10=some c10:=by kernel_rfl
theorem rise_le {l:List Int} (h:l.Pairwise (·<·)):l.Pairwise (·≤·):=h.imp fun {a b} h=>by omega
theorem bothL_rise {a b:List Int} (ha:a.Pairwise (·<·)):(bothL a b).Pairwise (·<·):=ha.filter _
theorem mem_bothL {a b:List Int} {x:Int}:x∈bothL a b↔x∈a∧x∈b:=by simp [bothL]
theorem bothL_comm {a b:List Int} (ha:a.Pairwise (·<·)) (hb:b.Pairwise (·<·)):bothL b a=bothL a b :=
 rise_int (bothL_rise hb) (bothL_rise ha) fun x=>by rw [mem_bothL,mem_bothL];exact And.comm
theorem bothL_sub {a b:List Int} (h:∀ x∈a,x∈b):bothL a b=a:=by
 unfold bothL
 exact List.filter_eq_self.2 fun x hx=>by simpa using h x hx
theorem bothL_len (a b:List Int):(bothL a b).length≤a.length:=List.length_filter_le _ _
def risesTo (l:List Int) (i:Nat):Prop:=∀ j:Nat,1≤j→j<i→j<l.length→gi l (j - 1:Nat)<gi l j
theorem risesTo.one (l:List Int):risesTo l 1:=fun j h1 h2=>by omega
theorem risesTo.next {l:List Int} {i:Nat} (h:risesTo l i) (hi:i<l.length→gi l (i - 1:Nat)<gi l i):risesTo l (i+1):=fun j h1 h2 h3=>by
 by_cases e:j=i
 ·subst e;exact hi h3
 ·exact h j h1 (by omega) h3
theorem risesTo.rise {l:List Int} {i:Nat} (h:risesTo l i) (hi:l.length≤i):l.Pairwise (·<·):=by
 have key:∀ d j:Nat,j+d+1<l.length→gi l j<gi l (j+d+1:Nat):=by
  intro d
  induction d with
  | zero =>
   intro j hj
   have:=h (j+1) (by omega) (by omega) hj
   simpa using this
  | succ d ih =>
   intro j hj
   have h1:=ih j (by omega)
   have h2:=h (j+d+2) (by omega) (by omega) (by omega)
   rw [show j+d+2 - 1=j+d+1 by omega] at h2
   rw [show j+(d+1)+1=j+d+2 by omega]
   exact Int.lt_trans h1 h2
 rw [List.pairwise_iff_getElem]
 intro a b ha hb hab
 have:=key (b - a - 1) a (by omega)
 rw [show a+(b - a - 1)+1=b by omega] at this
 simpa [gi,List.getD,ha,hb] using this
theorem rise_risesTo {l:List Int} (h:l.Pairwise (·<·)) {i:Nat} (h0:0<i) (hi:i<l.length):gi l (i - 1:Nat)<gi l i:=by
 have:=List.pairwise_iff_getElem.1 h (i - 1) i (by omega) hi (by omega)
 simpa [gi,List.getD,hi,show i - 1<l.length by omega] using this
set_option maxHeartbeats 2000000 in
theorem law10_PF (p q:List Int) (hp:p.length≤1048576) (hq:q.length≤1048576):PF Tryz.prog 10 [ints p,ints q] (.bool true):=by
 refine PFk 9 hm Tryz.func10 c10_ok (Nat.le_of_ble_eq_true rfl) (by simp) (by simp) ?_
 generalize hQ:Rle 9 (AV.bool true)=Q
 have hsh:=shown11_PF
 have hfin:∀ H,Q (AV.bool true) H:=fun H=>by rw [←hQ];simp [Rle,frz,leP]
 have hws:IntKind.i64.wrap ((p.length:Int)+q.length)=((p.length+q.length:Nat):Int):=by rw [w64 (by omega) (by omega)];omega
 simp (maxSteps:=3000000) [go_sem,-List.length_flatten,-List.map_drop,-List.map_take,c10]
 refine PF.call hsh 9 (by simp [lePs,-List.length_flatten,-List.map_drop,-List.map_take,Function.comp_def,len_flat]) ?_
 simp (maxSteps:=3000000) [go_sem,-List.length_flatten,-List.map_drop,-List.map_take,Kc,hws]
 refine fun hpA hqA=>⟨fun _=>hfin _,fun h200=>?_⟩
 refine run_loopK (fun r T H=>∃ i:Nat,r=202 - i∧(1≤i∧i≤201)∧(risesTo p i∧risesTo q i)∧T=[(6,i64 i),(5,.bool true),(0,ints p),(1,ints q)]∧H=[])
  201 [(6,i64 (1:Nat)),(5,.bool true),(0,ints p),(1,ints q)] []
  (Wk.sub (by simp [Tm.get])) ⟨1,rfl,by omega,⟨.one _,.one _⟩,rfl,rfl⟩ ?_
 rintro r T H ⟨i,rfl,hi,⟨hrp,hrq⟩,rfl,rfl⟩ KK kx kr kn
 have hpv:IntKind.i64.wrap ((i:Int) - 1)=((i - 1:Nat):Int):=by rw [w64 (by omega) (by omega)];omega
 have next:∀ (T':Tm),i<p.length∨i<q.length→(i<p.length→gi p (i - 1:Nat)<gi p i)→(i<q.length→gi q (i - 1:Nat)<gi q i)→T'.get 6=i64 ((i+1:Nat):Int)→T'.get 5=.bool true→T'.get 0=ints p→T'.get 1=ints q→KK .normal T' []:=fun T' hor g1 g2 t1 t2 t3 t4 =>
  kn _ _ (Kl_sub (202 - (i+1)) ⟨i+1,rfl,by omega,⟨hrp.next g1,hrq.next g2⟩,rfl,rfl⟩ ⟨t1,t2,t3,t4,trivial⟩ (by omega))
 have hnx:IntKind.i64.wrap ((i:Int)+1)=((i+1:Nat):Int):=by rw [w64 (by omega) (by omega)];omega
 by_cases hip:i<p.length
 ·have hip1:i - 1<p.length:=by omega
  by_cases hbp:gi p (i - 1:Nat)≥gi p i
  ·simp (maxSteps:=3000000) [go_sem,-List.length_flatten,-List.map_drop,-List.map_take,hip,hip1,hpv,hbp,hpA,hqA,kr]
   exact hfin _
  ·have hgp:gi p (i - 1:Nat)<gi p i:=by omega
   by_cases hiq:i<q.length
   ·have hiq1:i - 1<q.length:=by omega
    by_cases hbq:gi q (i - 1:Nat)≥gi q i
    ·simp (maxSteps:=3000000) [go_sem,-List.length_flatten,-List.map_drop,-List.map_take,hip,hip1,hpv,hbp,hpA,hqA,hiq,hiq1,hbq,kr]
     exact hfin _
    ·simp (maxSteps:=3000000) [go_sem,-List.length_flatten,-List.map_drop,-List.map_take,hip,hip1,hpv,hbp,hpA,hqA,hiq,hiq1,hbq]
     exact next _ (.inl hip) (fun _=>hgp) (fun _=>by omega) (by simp [Tm.get,hnx]) (by simp [Tm.get]) (by simp [Tm.get]) (by simp [Tm.get])
   ·simp (maxSteps:=3000000) [go_sem,-List.length_flatten,-List.map_drop,-List.map_take,hip,hip1,hpv,hbp,hpA,hqA,hiq]
    exact next _ (.inl hip) (fun _=>hgp) (fun h=>(hiq h).elim) (by simp [Tm.get,hnx]) (by simp [Tm.get]) (by simp [Tm.get]) (by simp [Tm.get])
 ·by_cases hiq:i<q.length
  ·have hiq1:i - 1<q.length:=by omega
   by_cases hbq:gi q (i - 1:Nat)≥gi q i
   ·simp (maxSteps:=3000000) [go_sem,-List.length_flatten,-List.map_drop,-List.map_take,hip,hpv,hpA,hqA,hiq,hiq1,hbq,kr]
    exact hfin _
   ·simp (maxSteps:=3000000) [go_sem,-List.length_flatten,-List.map_drop,-List.map_take,hip,hpv,hpA,hqA,hiq,hiq1,hbq]
    exact next _ (.inr hiq) (fun h=>(hip h).elim) (fun _=>by omega) (by simp [Tm.get,hnx]) (by simp [Tm.get]) (by simp [Tm.get]) (by simp [Tm.get])
  ·have hrp':=hrp.rise (by omega)
   have hrq':=hrq.rise (by omega)
   have b1:=both19_PF p q (by omega) (by omega) (rise_le hrq')
   have b2:=both19_PF q p (by omega) (by omega) (rise_le hrp')
   have b3:=both19_PF p p (by omega) (by omega) (rise_le hrp')
   have hBl:=bothL_len p q
   have b4:=both19_PF (bothL p q) p (by omega) (by omega) (rise_le hrp')
   have b5:=both19_PF (bothL p q) q (by omega) (by omega) (rise_le hrq')
   rw [bothL_comm hrp' hrq'] at b2
   rw [bothL_sub fun x h=>h] at b3
   rw [bothL_sub fun x h=>(mem_bothL.1 h).1] at b4
   rw [bothL_sub fun x h=>(mem_bothL.1 h).2] at b5
   have hB:=bothL_rise (b:=q) hrp'
   have i1:=ints_PF (bothL p q) (bothL p q)
   have i2:=ints_PF p p
   rw [decide_eq_true rfl] at i1 i2
   generalize bothL p q=B at *
   clear next kn
   simp (maxSteps:=3000000) [go_sem,-List.length_flatten,-List.map_drop,-List.map_take,hip,hiq,kx,hpA,hqA]
   refine PF.call b1 9 (by simp [lePs,-List.length_flatten,-List.map_drop,-List.map_take,Function.comp_def,len_flat]) ?_
   have hBA:B.length≤maxA:=by unfold maxA;omega
   simp (maxSteps:=3000000) [go_sem,-List.length_flatten,-List.map_drop,-List.map_take,Kc]
   refine run_loopK (fun r T H=>∃ j:Nat,r=202 - j∧(1≤j∧j≤201)∧T=[(8,i64 j),(7,ints B),(5,.bool true),(0,ints p),(1,ints q)]∧H=[])
    201 [(8,i64 (1:Nat)),(7,ints B),(5,.bool true),(0,ints p),(1,ints q)] []
    (Wk.sub (by simp [Tm.get])) ⟨1,rfl,by omega,rfl,rfl⟩ ?_
   rintro r T H ⟨j,rfl,hj,rfl,rfl⟩ KJ jx jr jn
   by_cases hjl:j<B.length
   ·have hjp:IntKind.i64.wrap ((j:Int) - 1)=((j - 1:Nat):Int):=by rw [w64 (by omega) (by omega)];omega
    have hjnx:IntKind.i64.wrap ((j:Int)+1)=((j+1:Nat):Int):=by rw [w64 (by omega) (by omega)];omega
    have hj1:j - 1<B.length:=by omega
    have hlt:=rise_risesTo hB (i:=j) (by omega) hjl
    have hge:¬ gi B (j - 1:Nat)≥gi B j:=by omega
    simp (maxSteps:=3000000) [go_sem,-List.length_flatten,-List.map_drop,-List.map_take,hjl,hBA,hjp,hj1,hge]
    refine jn _ _ (Kl_sub (202 - (j+1)) ⟨j+1,rfl,by omega,rfl,rfl⟩ (by simp [Tm.get,hjnx]) (by omega))
   ·simp (maxSteps:=3000000) [go_sem,-List.length_flatten,-List.map_drop,-List.map_take,hjl,jx,hBA]
    refine PF.call b2 9 (by simp [lePs,-List.length_flatten,-List.map_drop,-List.map_take,Function.comp_def,len_flat]) ?_
    simp (maxSteps:=3000000) [go_sem,-List.length_flatten,-List.map_drop,-List.map_take,Kc]
    refine PF.call i1 9 (by simp [lePs,-List.length_flatten,-List.map_drop,-List.map_take,Function.comp_def,len_flat]) ?_
    simp (maxSteps:=3000000) [go_sem,-List.length_flatten,-List.map_drop,-List.map_take,Kc]
    refine PF.call b3 9 (by simp [lePs,-List.length_flatten,-List.map_drop,-List.map_take,Function.comp_def,len_flat]) ?_
    simp (maxSteps:=3000000) [go_sem,-List.length_flatten,-List.map_drop,-List.map_take,Kc]
    refine PF.call i2 9 (by simp [lePs,-List.length_flatten,-List.map_drop,-List.map_take,Function.comp_def,len_flat]) ?_
    simp (maxSteps:=3000000) [go_sem,-List.length_flatten,-List.map_drop,-List.map_take,Kc]
    refine PF.call b4 9 (by simp [lePs,-List.length_flatten,-List.map_drop,-List.map_take,Function.comp_def,len_flat]) ?_
    simp (maxSteps:=3000000) [go_sem,-List.length_flatten,-List.map_drop,-List.map_take,Kc]
    refine PF.call i1 9 (by simp [lePs,-List.length_flatten,-List.map_drop,-List.map_take,Function.comp_def,len_flat]) ?_
    simp (maxSteps:=3000000) [go_sem,-List.length_flatten,-List.map_drop,-List.map_take,Kc]
    refine PF.call b5 9 (by simp [lePs,-List.length_flatten,-List.map_drop,-List.map_take,Function.comp_def,len_flat]) ?_
    simp (maxSteps:=3000000) [go_sem,-List.length_flatten,-List.map_drop,-List.map_take,Kc]
    refine PF.call i1 9 (by simp [lePs,-List.length_flatten,-List.map_drop,-List.map_take,Function.comp_def,len_flat]) ?_
    simp (maxSteps:=3000000) [go_sem,-List.length_flatten,-List.map_drop,-List.map_take,Kc]
    exact hfin _
section
variable {ps:List (Int×Int)} {nv:Nat} {s:Sy}
end
def moreC (c:Cz) (m:Cn):Cz:=⟨c.sigs,c.l++[m],c.ranks,c.depth⟩
def FitN (e:List Nd):Prop:=e.length≤1048576∧∀ j:Nat,j<e.length→(gi e j).name.size≤maxA
theorem FitC.more {c:Cz} (h:FitC c) {m:Cn} (hl:FitN m.l) (hr:FitN m.r):FitC (moreC c m):=by
 refine ⟨h.sg,fun i hi=>?_⟩
 have hi':i<c.l.length+1:=by simpa [moreC] using hi
 by_cases e:i=c.l.length
 ·subst e
  have hg:gi (moreC c m).l (c.l.length:Nat)=m:=by simp [moreC,gi,List.getD]
  rw [hg]
  exact ⟨⟨hl.1,hr.1⟩,hl.2,hr.2⟩
 ·have hg:gi (moreC c m).l i=gi c.l i:=giApp (by omega)
  rw [hg]
  exact h.nd i (by omega)
end Go.AM
