/- Contracts of the program's functions. -/
import Derived.Test.YtpdjffpdanmoeaaGreatL4
import Derived.KernelRfl
namespace Go.AM
open Go.Proofs
set_option maxRecDepth 100000
set_option linter.unusedVariables false
set_option linter.unusedSimpArgs false
attribute [local go_sem] Function.comp_def argsT Opd.ev Tm.get put ares mapMo ares1 snilP bldParts bslParts putAt AV.cells AV.one astore aload loadCs callArgs abin abinInt aapp elems appMore appNone preLen aFa aFld apart aExt aPick aNot aLens aEqa cellsK fitsA LK.fitsA leavesA leafA nilD aNilc aCint aCid alive alen alenOk Rle lePs len_flat lit
theorem c83_ok:cFn Tryz.prog an0 Tryz.f83=some c83:=by kernel_rfl
theorem c51_ok:cFn Tryz.prog an0 Tryz.f51=some c51:=by kernel_rfl
theorem c52_ok:cFn Tryz.prog an0 Tryz.f52=some c52:=by kernel_rfl
theorem c50_ok:cFn Tryz.prog an0 Tryz.f50=some c50:=by kernel_rfl
theorem c30_ok:cFn Tryz.prog an0 Tryz.f30=some c30:=by kernel_rfl
theorem c80_ok:cFn Tryz.prog an0 Tryz.f80=some c80:=by kernel_rfl
theorem c49_ok:cFn Tryz.prog an0 Tryz.f49=some c49:=by kernel_rfl
theorem c29_ok:cFn Tryz.prog an0 Tryz.f29=some c29:=by kernel_rfl
theorem rlb_sy {n g:Nat} {s:Sy}:RLB n (.cells g s.cs):=by simp [RLB]
abbrev nil15:List AV:=[.nilS,.nilS,.nilS,.nilS,.nilS,.nilS,.nilS,.nilS,.nilS,.nilS,.nilS,.nilS,.nilS,.int .i64 0,.int .i64 0]
theorem rlb_nil15 {n g:Nat}:RLB n (.cells g nil15):=by simp [RLB]
theorem putW_len (w:Qu) (p:Int×Int):(putW w p).1.l.length≤w.l.length+1∧(putW w p).1.seen.keys.length≤w.seen.keys.length+1:=by
 unfold putW
 split
 ·have h1:(siftU p w.l.length (w.l++[p]) w.l.length).length=(w.l++[p]).length:=(siftU_perm _ _ _ (by simp) (by simp [gi,List.getD])).length_eq
  exact ⟨by rw [h1];simp,putK_len _ _⟩
 ·exact ⟨by simp,by simp⟩
theorem putsS_len:∀ (l:List (Int×Int)) (s:Sy),(putsS s l).w.l.length≤s.w.l.length+l.length∧(putsS s l).w.seen.keys.length≤s.w.seen.keys.length+l.length
 | [],s=>⟨by simp [putsS],by simp [putsS]⟩
 | p::l,s=>by
  have h1:=putsS_len l (putS s p)
  have h2:=putW_len s.w p
  have e:putsS s (p::l)=putsS (putS s p) l:=rfl
  have ew:(putS s p).w=(putW s.w p).1:=rfl
  rw [ew] at h1
  rw [e,List.length_cons]
  omega
theorem put83_PF (s:Sy) (x y:Int) (h1:s.w.seen.keys.length<1048576) (h2:s.w.l.length≤1000000):PF Tryz.prog 83 [.agg s.cs,i64 x,i64 y] (.agg (putS s (x,y)).cs):=by
 refine PFk 9 hm Tryz.func83 c83_ok (Nat.le_of_ble_eq_true rfl) (by simp) (by simp) ?_
 generalize hQ:Rle 9 (.agg (putS s (x,y)).cs)=Q
 simp (maxSteps:=3000000) [go_sem,-List.length_flatten,-List.map_drop,-List.map_take,c83]
 refine PF.call (put114_PF s.w h1 h2 (x,y)) 9 (by simp [lePs,-List.length_flatten,-List.map_drop,-List.map_take,Function.comp_def,len_flat]) ?_
 have hcs:(putS s (x,y)).cs=[sigs s.sigs]++s.a.cs++s.g.cs++(putW s.w (x,y)).1.cs++[prs s.clash,i64 s.steps,i64 s.depth]:=rfl
 generalize (putW s.w (x,y))=W at *
 simp (maxSteps:=3000000) [go_sem,-List.length_flatten,-List.map_drop,-List.map_take,Kc]
 rw [←hQ]
 simp (maxSteps:=3000000) [go_sem,-List.length_flatten,-List.map_drop,-List.map_take,hcs]
theorem puts51_PF (s:Sy) (l:List (Int×Int)) (h1:s.w.seen.keys.length+l.length<1048576) (h2:s.w.l.length+l.length≤1000000):PF Tryz.prog 51 [.agg s.cs,prs l] (.agg (putsS s l).cs):=by
 refine PFk 9 hm Tryz.func51 c51_ok (Nat.le_of_ble_eq_true rfl) (by simp) (by simp) ?_
 generalize hQ:Rle 9 (.agg (putsS s l).cs)=Q
 simp (maxSteps:=3000000) [go_sem,-List.length_flatten,-List.map_drop,-List.map_take,c51]
 refine run_loopK (fun m T H=>∃ k:Nat,m=l.length - k∧k≤l.length∧T=[(5,i64 k),(1,prs l),(2,.ptr 0 0 0),(4,.ptr 1 0 0)]∧H=[.cells 0 (putsS s (l.take k)).cs,.cells 0 nil15])
  l.length [(5,i64 0),(1,prs l),(2,.ptr 0 0 0),(4,.ptr 1 0 0)] [.cells 0 s.cs,.cells 0 nil15] (Wk.tell 2 (by omega) (by simp [Tm.get]) (by simp) (by simp) ⟨rlb_sy,rlb_nil15,trivial⟩) ⟨0,rfl,Nat.zero_le _,rfl,by simp [putsS]⟩ ?_
 rintro m T H ⟨k,rfl,hk,rfl,rfl⟩ KK kx kr kn
 by_cases hl:k<l.length
 ·have hnx:putsS s (l.take (k+1))=putS (putsS s (l.take k)) (gi l k):=foldl_take _ _ _ _ hl
  have hb:=putsS_len (l.take k) s
  rw [List.length_take] at hb
  generalize putsS s (l.take k)=S at *
  have hp:=put83_PF S (gi l k).1 (gi l k).2 (by omega) (by omega)
  simp (maxSteps:=3000000) [go_sem,-List.length_flatten,-List.map_drop,-List.map_take,hl,aIarr,aindex]
  intros
  refine ⟨_,hp,?_⟩
  simp (maxSteps:=3000000) [go_sem,-List.length_flatten,-List.map_drop,-List.map_take,Kc]
  refine kn _ _ (Kl_next (T':=[(5,i64 ((k+1:Nat):Int)),(1,prs l),(2,.ptr 0 0 0),(4,.ptr 1 0 0)]) (H':=[.cells 0 (putS S (gi l k)).cs,.cells 0 nil15]) (l.length - (k+1)) 2 (by omega) ⟨k+1,rfl,by omega,rfl,by rw [hnx]⟩ (by simp [Tm.get,nxt hl ‹_›]) (by simp) (by simp) ⟨rlb_sy,rlb_nil15,trivial⟩ (by omega))
 ·have:k=l.length:=by omega
  subst this
  rw [List.take_length]
  simp (maxSteps:=3000000) [go_sem,-List.length_flatten,-List.map_drop,-List.map_take,kx]
  intros
  rw [←hQ]
  simp (maxSteps:=3000000) [go_sem,-List.length_flatten,-List.map_drop,-List.map_take]
theorem manyA_take {ks:List (List Int)} {i:Nat} (h:i<ks.length) (n:Int):manyA (ks.take (i+1)) n=if gi (gi ks i) 0=2∧gi (gi ks i) 1≥manyA (ks.take i) n then gi (gi ks i) 1+1 else manyA (ks.take i) n:=foldl_take _ _ _ _ h
set_option maxHeartbeats 1000000 in
theorem with52_PF (l:List Sg) (rk:List Int) (dep:Int) (a:Kd) (hks:∀ i:Nat,i<a.keys.length→3≤(gi a.keys i).length∧(gi (gi a.keys i) 0=2→0≤gi (gi a.keys i) 1∧gi (gi a.keys i) 1≤1000)) (hma:manyA a.keys 0≤2000):PF Tryz.prog 52 [.agg (newS l rk dep).cs,.agg a.cs] (.agg (withS (newS l rk dep) a).cs):=by
 refine PFk 9 hm Tryz.func52 c52_ok (Nat.le_of_ble_eq_true rfl) (by simp) (by simp) ?_
 generalize hQ:Rle 9 (.agg (withS (newS l rk dep) a).cs)=Q
 have hcs:(newS l rk dep).cs=[sigs l]++newK.cs++(gr0 rk).cs++newW.cs++[prs [],i64 0,i64 dep]:=rfl
 have hws:(withS (newS l rk dep) a).cs=[sigs l]++a.cs++(moreG (gr0 rk) (manyA a.keys 0)).cs++newW.cs++[prs [],i64 0,i64 dep]:=rfl
 have hg0:(gr0 rk).cs=[ints rk,ints [],prs [],ints [],intss [],intss []]:=rfl
 have hmore:=more84_PF rk (manyA a.keys 0) hma
 rw [hcs]
 generalize newK=nk at *
 generalize newW=nw at *
 generalize moreG (gr0 rk) (manyA a.keys 0)=G at *
 rw [hg0] at hmore ⊢
 simp (maxSteps:=3000000) [go_sem,-List.length_flatten,-List.map_drop,-List.map_take,c52]
 have hnn:∀ k:Nat,k≤a.keys.length→0≤manyA (a.keys.take k) 0∧manyA (a.keys.take k) 0≤1001:=by
  intro k
  induction k with
  | zero=>intro _;simp [manyA]
  | succ k ih =>
   intro hk
   have:=ih (by omega)
   rw [manyA_take (by omega)]
   split
   ·have:=(hks k (by omega)).2 (by rename_i h;exact h.1)
    omega
   ·exact this
 refine run_loopK (fun m T H=>∃ k:Nat,m=a.keys.length - k∧k≤a.keys.length∧T=[(6,i64 k),(5,i64 (manyA (a.keys.take k) 0)),(2,.ptr 0 0 0),(3,.ptr 1 0 0),(4,.ptr 2 0 0)]∧H=[.cells 0 ([sigs l]++nk.cs++[ints rk,ints [],prs [],ints [],intss [],intss []]++nw.cs++[prs [],i64 0,i64 dep]),.cells 0 a.cs,.cells 0 nil15])
  a.keys.length [(6,i64 0),(5,i64 0),(2,.ptr 0 0 0),(3,.ptr 1 0 0),(4,.ptr 2 0 0)] [.cells 0 ([sigs l]++nk.cs++[ints rk,ints [],prs [],ints [],intss [],intss []]++nw.cs++[prs [],i64 0,i64 dep]),.cells 0 a.cs,.cells 0 nil15]
  (Wk.tell 3 (by omega) (by simp [Tm.get]) (by simp) (by simp) ⟨by simp [RLB],rlb_kd,rlb_nil15,trivial⟩) ⟨0,rfl,Nat.zero_le _,rfl,rfl⟩ ?_
 rintro m T H ⟨k,rfl,hk,rfl,rfl⟩ KK kx kr kn
 by_cases hl:k<a.keys.length
 ·have hmt:=manyA_take hl 0
  have hn0:=hnn k hk
  obtain ⟨q1,q2⟩:=hks k hl
  have i0:0<(gi a.keys k).length:=by omega
  have i1:1<(gi a.keys k).length:=by omega
  have i1':(1:Int)<((gi a.keys k).length:Int):=by omega
  have nx:∀ M T',M=manyA (a.keys.take (k+1)) 0→al (fun q=>Tm.get T' q.1=q.2) [(6,i64 ((k+1:Nat):Int)),(5,i64 M),(2,.ptr 0 0 0),(3,.ptr 1 0 0),(4,.ptr 2 0 0)]→KK .normal T' [.cells 0 ([sigs l]++nk.cs++[ints rk,ints [],prs [],ints [],intss [],intss []]++nw.cs++[prs [],i64 0,i64 dep]),.cells 0 a.cs,.cells 0 nil15]:=fun M T' hM hT' =>
   kn _ _ (Kl_next (a.keys.length - (k+1)) 3 (by omega) ⟨k+1,rfl,by omega,by rw [←hM],rfl⟩ hT' (by simp) rfl ⟨by simp [RLB],rlb_kd,rlb_nil15,trivial⟩ (by omega))
  generalize manyA (a.keys.take k) 0=mk at *
  by_cases e1:gi (gi a.keys k) 0=2
  ·have q2':=q2 e1
   by_cases e2:mk≤gi (gi a.keys k) 1
   ·rw [if_pos ⟨e1,e2⟩] at hmt
    have hw1:IntKind.i64.wrap (gi (gi a.keys k) 1+1)=gi (gi a.keys k) 1+1:=w64 (by omega) (by omega)
    simp (maxSteps:=3000000) [go_sem,-List.length_flatten,-List.map_drop,-List.map_take,hl,e1,e2,i0,i1,i1',hw1]
    intros
    exact nx _ _ hmt.symm (by simp [Tm.get,nxt hl ‹_›])
   ·rw [if_neg fun h=>e2 h.2] at hmt
    simp (maxSteps:=3000000) [go_sem,-List.length_flatten,-List.map_drop,-List.map_take,hl,e1,e2,i0,i1,i1']
    intros
    exact nx _ _ hmt.symm (by simp [Tm.get,nxt hl ‹_›])
  ·rw [if_neg fun h=>e1 h.1] at hmt
   simp (maxSteps:=3000000) [go_sem,-List.length_flatten,-List.map_drop,-List.map_take,hl,e1,i0,i1]
   intros
   exact nx _ _ hmt.symm (by simp [Tm.get,nxt hl ‹_›])
 ·have:k=a.keys.length:=by omega
  subst this
  rw [List.take_length]
  simp (maxSteps:=3000000) [go_sem,-List.length_flatten,-List.map_drop,-List.map_take,kx]
  intros
  refine PF.call hmore 9 (by simp [lePs,-List.length_flatten,-List.map_drop,-List.map_take,Function.comp_def,len_flat]) ?_
  simp (maxSteps:=3000000) [go_sem,-List.length_flatten,-List.map_drop,-List.map_take,Kc]
  rw [←hQ]
  simp (maxSteps:=3000000) [go_sem,-List.length_flatten,-List.map_drop,-List.map_take,hws]
theorem new50_PF (l:List Sg) (rk:List Int) (dep:Int) (hs:∀ i:Nat,i<l.length→(gi l i).args.size≤maxA) (hr:sigRight l=true) (hd:0≤dep∧dep≤50):PF Tryz.prog 50 [sigs l,ints rk,i64 dep] (.tuple [.agg (newS l rk dep).cs,i64 0]):=by
 refine PFk 9 hm Tryz.func50 c50_ok (Nat.le_of_ble_eq_true rfl) (by simp) (by simp) ?_
 generalize hQ:Rle 9 (.tuple [.agg (newS l rk dep).cs,i64 0])=Q
 have hcs:(newS l rk dep).cs=[sigs l]++newK.cs++[ints rk,ints [],prs [],ints [],intss [],intss []]++newW.cs++[prs [],i64 0,i64 dep]:=rfl
 rw [hcs] at hQ
 have hsr:=sigRight_PF l hs
 rw [hr] at hsr
 have d0:¬ dep<0:=by omega
 have d1:¬ (50:Int)<dep:=by omega
 have hk:=rnew_PF
 have hw:=new82_PF
 generalize newK=nk at *
 generalize newW=nw at *
 simp (maxSteps:=3000000) [go_sem,-List.length_flatten,-List.map_drop,-List.map_take,c50]
 refine PF.call hsr 9 (by simp [lePs,-List.length_flatten,-List.map_drop,-List.map_take,Function.comp_def,len_flat]) ?_
 simp (maxSteps:=3000000) [go_sem,-List.length_flatten,-List.map_drop,-List.map_take,Kc,d0,d1]
 refine PF.call hk 9 (by simp [lePs,-List.length_flatten,-List.map_drop,-List.map_take,Function.comp_def,len_flat]) ?_
 simp (maxSteps:=3000000) [go_sem,-List.length_flatten,-List.map_drop,-List.map_take,Kc]
 refine PF.call hw 9 (by simp [lePs,-List.length_flatten,-List.map_drop,-List.map_take,Function.comp_def,len_flat]) ?_
 simp (maxSteps:=3000000) [go_sem,-List.length_flatten,-List.map_drop,-List.map_take,Kc]
 rw [←hQ]
 simp (maxSteps:=3000000) [go_sem,-List.length_flatten,-List.map_drop,-List.map_take]
section
variable {nv:Nat} {l:List Sg} {a:Kd} {g:Gr}
theorem path_in {x:Int} {d:List Int} (hd:Dok a nv g x d):∀ (k:Nat) (w:Int),(0≤w∧w<nv)→gi d w=k→∀ y∈pathL a g d k w,0≤y∧y<nv
 | 0,w,hw,_=>fun y hy=>by
  simp only [pathL,List.mem_singleton] at hy
  rw [hy];exact hw
 | k+1,w,hw,hdw=>fun y hy=>by
  obtain ⟨p1,p2,_,_⟩:=hd.prev hw (k:=k) (by omega)
  rw [pathL,List.mem_append,List.mem_singleton] at hy
  rcases hy with hy|rfl
  ·exact path_in hd k _ p1 p2 y hy
  ·exact hw
theorem pathG_in (hg:Gok l a nv g) {x y dep:Int} (hx:0≤x∧x<nv) (hy:0≤y∧y<nv):(∀ z∈pathG a g x y dep,0≤z∧z<nv)∧(pathG a g x y dep).length≤nv+1:=by
 have hxf:=hg.par.fix (n:=x) (by rw [hg.lv];exact hx)
 have ix:=hg.fin hx
 have iy:=hg.fin hy
 have hd:=Dok.all (a:=a) hg ix hxf
 have hub:=stepsG_ub (a:=a) (g:=g) (fnd g.u.v x) (fnd g.u.v y)
 rw [hg.lv] at hub
 by_cases h:gi (stepsG a g (fnd g.u.v x)) (fnd g.u.v y)<0∨gi (stepsG a g (fnd g.u.v x)) (fnd g.u.v y)>(if 0>dep then 0 else dep)
 ·have:pathG a g x y dep=[]:=by unfold pathG;rw [if_pos h]
  rw [this]
  exact ⟨fun z hz=>by simp at hz,Nat.zero_le _⟩
 ·have:pathG a g x y dep=pathL a g (stepsG a g (fnd g.u.v x)) (gi (stepsG a g (fnd g.u.v x)) (fnd g.u.v y)).toNat (fnd g.u.v y):=by unfold pathG;rw [if_neg h]
  rw [this,pathL_len]
  exact ⟨path_in hd _ _ iy (by omega),by omega⟩
theorem addG_len (hg:Gok l a nv g) (p:Int×Int):(addG a g p).2.1.length≤a.keys.length:=by
 unfold addG
 split
 ·exact Nat.zero_le _
 ·split
  ·split
   ·rw [List.length_map];exact hg.preLen _
   ·exact Nat.zero_le _
  ·split
   ·rw [List.length_map];exact hg.sucLen _
   ·exact Nat.zero_le _
end
set_option maxHeartbeats 2000000 in
theorem atom80_PF {nv:Nat} {s:Sy} (hv:Vok s.a nv) (hg:Gok s.sigs s.a nv s.g) (hnv:nv≤400) (hk:s.a.keys.length≤400) (hse:s.w.seen.keys.length≤160000) (hwl:s.w.l.length≤160000) (p:Int×Int) (hg':Gok s.sigs s.a nv (addG s.a s.g p).1):PF Tryz.prog 80 [.agg s.cs,.agg [i64 p.1,i64 p.2]] (.agg (atomS s p).cs):=by
 refine PFk 9 hm Tryz.func80 c80_ok (Nat.le_of_ble_eq_true rfl) (by simp) (by simp) ?_
 generalize hQ:Rle 9 (.agg (atomS s p).cs)=Q
 have hadd:=addG111_PF hv hg (by omega) (by omega) p
 have hal:=addG_len hg p
 unfold atomS at hQ
 simp only at hQ
 generalize hA:addG s.a s.g p=A at *
 have hputs:=puts51_PF { s with g:=A.1 } A.2.1 (by show s.w.seen.keys.length+_<_;omega) (by show s.w.l.length+_≤_;omega)
 have hpl:=putsS_len A.2.1 { s with g:=A.1 }
 have hps:=putsS_same A.2.1 { s with g:=A.1 }
 generalize ht:putsS { s with g:=A.1 } A.2.1=t at *
 obtain ⟨t1,t2,t3,t4,_,_⟩:=hps
 have hv2:Vok t.a nv:=by rw [t2];exact hv
 have hg2:Gok t.sigs t.a nv t.g:=by rw [t1,t2,t3];exact hg'
 simp (maxSteps:=3000000) [go_sem,-List.length_flatten,-List.map_drop,-List.map_take,c80]
 refine PF.call hadd 9 (by simp [lePs,-List.length_flatten,-List.map_drop,-List.map_take,Function.comp_def,len_flat]) ?_
 simp (maxSteps:=3000000) [go_sem,-List.length_flatten,-List.map_drop,-List.map_take,Kc]
 refine PF.call hputs 9 (by simp [lePs,-List.length_flatten,-List.map_drop,-List.map_take,Function.comp_def,len_flat]) ?_
 have hr1:=rep27_PF hv2 hg2 p.1
 have hr2:=rep27_PF hv2 hg2 p.2
 have hn1:=num34_PF t.a t.g (repG t.a t.g p.1)
 have hn2:=num34_PF t.a t.g (repG t.a t.g p.2)
 have ex:numOf s.a A.1 (repG s.a A.1 p.1)=numOf t.a t.g (repG t.a t.g p.1):=by rw [t2,t3]
 have ey:numOf s.a A.1 (repG s.a A.1 p.2)=numOf t.a t.g (repG t.a t.g p.2):=by rw [t2,t3]
 have ed:s.depth=t.depth:=t4.symm
 have eg:A.1=t.g:=t3.symm
 have ea:s.a=t.a:=t2.symm
 rw [ex,ey,ed,eg,ea] at hQ
 have hkt:t.a.keys.length≤400:=by rw [t2];exact hk
 have hxr:=fun z (hz:0≤numOf t.a t.g z)=>(at_num hv2 hg2.lv hz).1
 generalize hx:repG t.a t.g p.1=rx at *
 generalize hy:repG t.a t.g p.2=ry at *
 have hxr1:=hxr rx
 have hxr2:=hxr ry
 generalize numOf t.a t.g rx=x at *
 generalize numOf t.a t.g ry=y at *
 simp (maxSteps:=3000000) [go_sem,-List.length_flatten,-List.map_drop,-List.map_take,Kc,aIarr,aindex]
 refine ⟨_,hr1,_,hn1,?_⟩
 simp (maxSteps:=3000000) [go_sem,-List.length_flatten,-List.map_drop,-List.map_take,Kc,aIarr,aindex]
 refine ⟨_,hr2,_,hn2,?_⟩
 cases hb:A.2.2 with
 | false =>
  rw [if_pos (.inl hb)] at hQ
  simp (maxSteps:=3000000) [go_sem,-List.length_flatten,-List.map_drop,-List.map_take,Kc,hb]
  rw [←hQ]
  simp (maxSteps:=3000000) [go_sem,-List.length_flatten,-List.map_drop,-List.map_take]
 | true =>
  by_cases h1:x<0
  ·rw [if_pos (.inr (.inl h1))] at hQ
   have h1':¬ 0≤x:=by omega
   simp (maxSteps:=3000000) [go_sem,-List.length_flatten,-List.map_drop,-List.map_take,Kc,hb,h1,h1']
   rw [←hQ]
   simp (maxSteps:=3000000) [go_sem,-List.length_flatten,-List.map_drop,-List.map_take]
  by_cases h2:y<0
  ·rw [if_pos (.inr (.inr (.inl h2)))] at hQ
   have h2':¬ 0≤y:=by omega
   simp (maxSteps:=3000000) [go_sem,-List.length_flatten,-List.map_drop,-List.map_take,Kc,hb,h1,h2,h2']
   rw [←hQ]
   simp (maxSteps:=3000000) [go_sem,-List.length_flatten,-List.map_drop,-List.map_take]
  by_cases h3:t.depth=0
  ·rw [if_pos (.inr (.inr (.inr h3)))] at hQ
   simp (maxSteps:=3000000) [go_sem,-List.length_flatten,-List.map_drop,-List.map_take,Kc,hb,h1,h2,h3]
   intros
   rw [←hQ]
   simp (maxSteps:=3000000) [go_sem,-List.length_flatten,-List.map_drop,-List.map_take,h3]
  ·rw [if_neg (by rw [hb];simp;omega)] at hQ
   have rx':=hxr1 (by omega)
   have ry':=hxr2 (by omega)
   have hpath:=path112_PF hv2 hg2 (by omega) ry' rx' (dep:=t.depth)
   obtain ⟨pi,pl⟩:=pathG_in hg2 ry' rx' (dep:=t.depth)
   generalize pathG t.a t.g y x t.depth=W at *
   have hjoin:=join113_PF hv2 hg2 (by omega) (by omega) W pi (by omega)
   have hjl:(joinG t.a t.g W).2.length≤400*800:=by
    unfold joinG
    cases W with
    | nil=>simp [joinL]
    | cons w W =>
     have:=(joinL_ok (l:=t.sigs) (a:=t.a) (x:=gi (w::W) 0) (pi _ (by simp [gi])) W [] hg2 (fun z hz=>pi z (by simp [hz]))).2
     have h8:W.length*(2*t.a.keys.length)≤400*800:=Nat.mul_le_mul (by simp at pl;omega) (by omega)
     simp only [List.length_nil,Nat.zero_add] at this
     exact Nat.le_trans this h8
   have hts:t.w.seen.keys.length≤160400:=by
    have:=hpl.2
    show t.w.seen.keys.length≤_
    have e:({ s with g:=A.1 }:Sy).w.seen.keys.length=s.w.seen.keys.length:=rfl
    omega
   have htl:t.w.l.length≤160400:=by
    have:=hpl.1
    have e:({ s with g:=A.1 }:Sy).w.l.length=s.w.l.length:=rfl
    omega
   generalize joinG t.a t.g W=O at *
   have hput2:=puts51_PF { t with g:=O.1 } O.2 (by show t.w.seen.keys.length+_<_;omega) (by show t.w.l.length+_≤_;omega)
   have hcs:({ t with g:=O.1 }:Sy).cs=[sigs t.sigs]++t.a.cs++O.1.cs++t.w.cs++[prs t.clash,i64 t.steps,i64 t.depth]:=rfl
   rw [hcs] at hput2
   generalize putsS { t with g:=O.1 } O.2=u at *
   simp (maxSteps:=3000000) [go_sem,-List.length_flatten,-List.map_drop,-List.map_take,Kc,hb,h1,h2,h3]
   intros
   refine PF.call hpath 9 (by simp [lePs,-List.length_flatten,-List.map_drop,-List.map_take,Function.comp_def,len_flat]) ?_
   simp (maxSteps:=3000000) [go_sem,-List.length_flatten,-List.map_drop,-List.map_take,Kc]
   refine PF.call hjoin 9 (by simp [lePs,-List.length_flatten,-List.map_drop,-List.map_take,Function.comp_def,len_flat]) ?_
   simp (maxSteps:=3000000) [go_sem,-List.length_flatten,-List.map_drop,-List.map_take,Kc]
   refine PF.call hput2 9 (by simp [lePs,-List.length_flatten,-List.map_drop,-List.map_take,Function.comp_def,len_flat]) ?_
   simp (maxSteps:=3000000) [go_sem,-List.length_flatten,-List.map_drop,-List.map_take,Kc]
   rw [←hQ]
   simp (maxSteps:=3000000) [go_sem,-List.length_flatten,-List.map_drop,-List.map_take]
theorem pairs_len {a:Kd} {L:List (Int×Int)} (hn:L.Nodup) (h:∀ p∈L,inP a p):L.length≤a.keys.length*a.keys.length:=by
 have h1:(L.map fun p=>p.1.toNat*a.keys.length+p.2.toNat).Nodup:=by
  refine nodup_map hn ?_
  intro p hp q hq e1
  have a1:=(h p hp).1;have a2:=(h p hp).2;have b1:=(h q hq).1;have b2:=(h q hq).2
  have hm:p.2.toNat=q.2.toNat:=by
   have:=congrArg (·%a.keys.length) e1
   simp only [Nat.mul_add_mod_self_right] at this
   rwa [Nat.mod_eq_of_lt (by omega),Nat.mod_eq_of_lt (by omega)] at this
  have hd:p.1.toNat=q.1.toNat:=by
   rw [hm] at e1
   have:p.1.toNat*a.keys.length=q.1.toNat*a.keys.length:=by omega
   exact Nat.eq_of_mul_eq_mul_right (by omega) this
  exact Prod.ext (by omega) (by omega)
 have h2:=pigeon (a.keys.length*a.keys.length) _ h1 (by
  intro x hx
  obtain ⟨p,hp,rfl⟩:=List.mem_map.1 hx
  have a1:=(h p hp).1;have a2:=(h p hp).2
  show p.1.toNat*a.keys.length+p.2.toNat<_
  have:(p.1.toNat+1)*a.keys.length≤a.keys.length*a.keys.length:=Nat.mul_le_mul_right _ (by omega)
  rw [Nat.add_mul] at this
  omega)
 simpa using h2
section
variable {first:Int×Int→Prop} {nv:Nat} {s:Sy}
theorem SInv.bounds (h:SInv first nv [] s):s.w.seen.keys.length≤160000∧s.w.l.length≤160000∧s.clash.length≤160000:=by
 have hk:=h.few
 have hsq:s.a.keys.length*s.a.keys.length≤400*400:=Nat.mul_le_mul hk hk
 have h1:=h.many
 have h2:=pairs_len (a:=s.a) (L:=s.w.l) (List.nodup_append.1 h.nd).2.1 fun p hp=>(h.at (h.inv.QS p (List.mem_append_right _ hp))).1
 have h3:=pairs_len (a:=s.a) (L:=s.clash) (h.rise.imp (fun {a b} hab=>by rintro rfl;exact ltP_irr _ hab)) fun p hp=>(h.at ((h.cl p).1 hp).1).1
 omega
theorem once49_PF (h:SInv first nv [] s) (hnv:nv≤400) (hne:s.w.l≠[]) (hst:0≤s.steps∧s.steps≤10000000):PF Tryz.prog 49 [.agg s.cs] (.tuple [.agg (onceS s).cs,.bool true]):=by
 refine PFk 9 hm Tryz.func49 c49_ok (Nat.le_of_ble_eq_true rfl) (by simp) (by simp) ?_
 generalize hQ:Rle 9 (.tuple [.agg (onceS s).cs,.bool true])=Q
 obtain ⟨b1,b2,b3⟩:=h.bounds
 have hpop:=h.pop hne
 have hnext:=next79_PF s.w (by omega) hne
 have hstep:=rstep_PF h.fine (gi s.w.l 0).1 (gi s.w.l 0).2
 have hlaw:=stepOf_law h.fine (gi s.w.l 0).1 (gi s.w.l 0).2
 have hgat:(stepOf s.sigs s.a (gi s.w.l 0).1 (gi s.w.l 0).2).1=2→Gok s.sigs s.a nv (addG s.a s.g (gi s.w.l 0)).1:=fun hk=>by
  have:=(hpop.atom hk).gok
  obtain ⟨g1,g2,_⟩:=putsS_same (addG (popS s).a (popS s).g (gi s.w.l 0)).2.1 (popS s)
  have e1:(putsS (popS s) (addG (popS s).a (popS s).g (gi s.w.l 0)).2.1).sigs=s.sigs:=g1
  have e2:(putsS (popS s) (addG (popS s).a (popS s).g (gi s.w.l 0)).2.1).a=s.a:=g2
  have this':Gok (putsS (popS s) (addG (popS s).a (popS s).g (gi s.w.l 0)).2.1).sigs (putsS (popS s) (addG (popS s).a (popS s).g (gi s.w.l 0)).2.1).a nv (addG s.a s.g (gi s.w.l 0)).1:=this
  rwa [e1,e2] at this'
 have hnl:(nextL s.w.l).length≤160000:=by
  have:=(nextL_perm hne).length_eq
  simp at this
  omega
 have hlay:=lay20_PF s.clash (gi s.w.l 0) (by omega)
 unfold onceS at hQ
 simp only at hQ
 have hpcs:(popS s).cs=[sigs s.sigs]++s.a.cs++s.g.cs++(Qu.mk (nextL s.w.l) s.w.seen).cs++[prs s.clash,i64 (s.steps+1),i64 s.depth]:=rfl
 have hputs:=fun L (hL:L.length≤100)=>puts51_PF (popS s) L (by show s.w.seen.keys.length+_<_;omega) (by show (nextL s.w.l).length+_≤_;omega)
 have hatom:=fun hk=>atom80_PF (s:=popS s) h.vok h.gok hnv h.few b1 hnl (gi s.w.l 0) (hgat hk)
 have hccs:∀ C,({ popS s with clash:=C }:Sy).cs=[sigs s.sigs]++s.a.cs++s.g.cs++(Qu.mk (nextL s.w.l) s.w.seen).cs++[prs C,i64 (s.steps+1),i64 s.depth]:=fun _=>rfl
 have hpl:(stepOf s.sigs s.a (gi s.w.l 0).1 (gi s.w.l 0).2).2.length≤100:=by
  have hr:=(h.at (h.inv.QS (gi s.w.l 0) (by simpa using gi_memG (i:=0) (List.length_pos_iff.2 hne)))).1
  have fx:=(h.fine.fit hr.1).2
  have hax:=fx.args h.fine.short
  unfold stepOf
  split
  ·unfold stepWay
   simp only
   have hv2:∀ p q v:Int,(varied p q v).length≤2:=fun p q v=>(varied_len p q v).2
   split
   ·simp
   split
   ·simp
   split
   ·simp
   split
   ·simp
   split
   ·unfold takesWay
    simp only
    split
    ·simp only;split
     ·simp
     ·split<;>simp
    ·split
     ·have:=hv2 (gi (termAt s.a (gi s.w.l 0).1).1.args (termAt s.a (gi s.w.l 0).2).1.part) (gi (termAt s.a (gi s.w.l 0).2).1.args 0) (byte (gi s.sigs (termAt s.a (gi s.w.l 0).2).1.sym).args (termAt s.a (gi s.w.l 0).2).1.part)
      simp only
      omega
     ·simp
   split
   ·have:=consL_len ⟨s.sigs,(gi s.w.l 0).1,(gi s.w.l 0).2,(termAt s.a (gi s.w.l 0).1).1,(termAt s.a (gi s.w.l 0).2).1⟩ (termAt s.a (gi s.w.l 0).1).1.args.length
    simp only
    omega
   split<;>simp
  ·simp
 have hw1:IntKind.i64.wrap (s.steps+1)=s.steps+1:=w64 (by omega) (by omega)
 rw [hpcs] at hputs
 have hatom':∀ hk:(stepOf s.sigs s.a (gi s.w.l 0).1 (gi s.w.l 0).2).1=2,PF Tryz.prog 80 [.agg ([sigs s.sigs]++s.a.cs++s.g.cs++(Qu.mk (nextL s.w.l) s.w.seen).cs++[prs s.clash,i64 (s.steps+1),i64 s.depth]),.agg [i64 (gi s.w.l 0).1,i64 (gi s.w.l 0).2]] (.agg (Go.AM.atomS (popS s) (gi s.w.l 0)).cs):=hatom
 clear hatom hgat
 generalize stepOf s.sigs s.a (gi s.w.l 0).1 (gi s.w.l 0).2=W at *
 have hp1:=hputs W.2 hpl
 generalize putsS (popS s) W.2=u1 at *
 generalize Go.AM.atomS (popS s) (gi s.w.l 0)=u2 at *
 simp (maxSteps:=3000000) [go_sem,-List.length_flatten,-List.map_drop,-List.map_take,c49]
 refine PF.call hnext 9 (by simp [lePs,-List.length_flatten,-List.map_drop,-List.map_take,Function.comp_def,len_flat]) ?_
 simp (maxSteps:=3000000) [go_sem,-List.length_flatten,-List.map_drop,-List.map_take,Kc,hw1,aIarr,aindex]
 refine PF.call hstep 9 (by simp [lePs,-List.length_flatten,-List.map_drop,-List.map_take,Function.comp_def,len_flat]) ?_
 by_cases k1:W.1=1
 ·rw [if_pos k1] at hQ
  simp (maxSteps:=3000000) [go_sem,-List.length_flatten,-List.map_drop,-List.map_take,Kc,k1]
  refine PF.call hp1 9 (by simp [lePs,-List.length_flatten,-List.map_drop,-List.map_take,Function.comp_def,len_flat]) ?_
  simp (maxSteps:=3000000) [go_sem,-List.length_flatten,-List.map_drop,-List.map_take,Kc]
  rw [←hQ]
  simp (maxSteps:=3000000) [go_sem,-List.length_flatten,-List.map_drop,-List.map_take]
 rw [if_neg k1] at hQ
 by_cases k2:W.1=2
 ·rw [if_pos k2] at hQ
  have hat:=hatom' k2
  simp (maxSteps:=3000000) [go_sem,-List.length_flatten,-List.map_drop,-List.map_take,Kc,k2]
  refine PF.call hat 9 (by simp [lePs,-List.length_flatten,-List.map_drop,-List.map_take,Function.comp_def,len_flat]) ?_
  simp (maxSteps:=3000000) [go_sem,-List.length_flatten,-List.map_drop,-List.map_take,Kc]
  rw [←hQ]
  simp (maxSteps:=3000000) [go_sem,-List.length_flatten,-List.map_drop,-List.map_take]
 rw [if_neg k2] at hQ
 by_cases k3:W.1=3
 ·rw [if_pos k3] at hQ
  have hcc:=hccs (layP s.clash (gi s.w.l 0))
  generalize layP s.clash (gi s.w.l 0)=C at *
  simp (maxSteps:=3000000) [go_sem,-List.length_flatten,-List.map_drop,-List.map_take,Kc,k3]
  refine PF.call hlay 9 (by simp [lePs,-List.length_flatten,-List.map_drop,-List.map_take,Function.comp_def,len_flat]) ?_
  simp (maxSteps:=3000000) [go_sem,-List.length_flatten,-List.map_drop,-List.map_take,Kc]
  rw [←hQ,hcc]
  simp (maxSteps:=3000000) [go_sem,-List.length_flatten,-List.map_drop,-List.map_take]
 ·rw [if_neg k3] at hQ
  simp (maxSteps:=3000000) [go_sem,-List.length_flatten,-List.map_drop,-List.map_take,Kc,k1,k2,k3]
  rw [←hQ,hpcs]
  simp (maxSteps:=3000000) [go_sem,-List.length_flatten,-List.map_drop,-List.map_take]
theorem run29_PF (s0:Sy) (h0:SInv first nv [] s0) (hnv:nv≤400) (hs0:s0.steps=0) (b:Nat) (hb:b≤1000000):PF Tryz.prog 29 [.agg s0.cs,i64 b] (.tuple [.agg (runN s0 b s0).1.cs,i64 (runN s0 b s0).2]):=by
 refine PFk 9 hm Tryz.func29 c29_ok (Nat.le_of_ble_eq_true rfl) (by simp) (by simp) ?_
 generalize hQ:Rle 9 (.tuple [.agg (runN s0 b s0).1.cs,i64 (runN s0 b s0).2])=Q
 simp (maxSteps:=3000000) [go_sem,-List.length_flatten,-List.map_drop,-List.map_take,c29]
 refine run_loopK (fun m T H=>∃ (k:Nat) (x:Sy) (H2:AHeap),m=b - k∧k≤b∧SInv first nv [] x∧x.steps=k∧runN s0 (b - k) x=runN s0 b s0∧T=[(7,i64 k),(6,.ptr 2 0 0),(2,.ptr 0 0 0),(4,.ptr 1 0 0),(1,i64 b)]∧H=[.cells 0 s0.cs,.cells 0 nil15,.cells 0 x.cs])
  b [(7,i64 0),(6,.ptr 2 0 0),(2,.ptr 0 0 0),(4,.ptr 1 0 0),(1,i64 b)] [.cells 0 s0.cs,.cells 0 nil15,.cells 0 s0.cs] (Wk.tell 3 (by omega) (by simp [Tm.get]) (by simp) (by simp) ⟨rlb_sy,rlb_nil15,rlb_sy,trivial⟩) ⟨0,s0,[],rfl,Nat.zero_le _,h0,hs0,rfl,rfl,rfl⟩ ?_
 rintro m T H ⟨k,x,_,rfl,hk,hx,hxs,hrun,rfl,rfl⟩ KK kx kr kn
 obtain ⟨b1,b2,b3⟩:=hx.bounds
 have hA:x.w.l.length≤maxA:=by unfold maxA;omega
 by_cases he:x.w.l=[]
 ·have hr:runN s0 (b - k) x=(x,0):=by
   cases b - k<;>simp [runN,he]
  rw [←hrun,hr] at hQ
  simp (maxSteps:=3000000) [go_sem,-List.length_flatten,-List.map_drop,-List.map_take,he,kx]
  rw [←hQ]
  simp (maxSteps:=3000000) [go_sem,-List.length_flatten,-List.map_drop,-List.map_take,he]
 ·have hpos:0<x.w.l.length:=List.length_pos_iff.2 he
  have hpos':(0:Int)<x.w.l.length:=by omega
  by_cases hkb:k<b
  ·have hkb':¬ (b:Int)≤k:=by omega
   have hkb2:¬ b≤k:=by omega
   have honce:=once49_PF hx hnv he ⟨by omega,by omega⟩
   obtain ⟨o1,o2,o3,o4⟩:=once_same x
   have hsi:=hx.once he
   have hr:runN s0 (b - k) x=runN s0 (b - (k+1)) (onceS x):=by
    rw [show b - k=(b - (k+1))+1 by omega,runN,if_neg he]
   rw [hr] at hrun
   have hw1:IntKind.i64.wrap ((k:Int)+1)=((k+1:Nat):Int):=by rw [w64 (by omega) (by omega)];omega
   generalize onceS x=y at *
   simp (maxSteps:=3000000) [go_sem,-List.length_flatten,-List.map_drop,-List.map_take,hpos,hpos',hkb',hkb2,hA]
   refine PF.call honce 9 (by simp [lePs,-List.length_flatten,-List.map_drop,-List.map_take,Function.comp_def,len_flat]) ?_
   simp (maxSteps:=3000000) [go_sem,-List.length_flatten,-List.map_drop,-List.map_take,Kc,hw1]
   refine kn _ _ (Kl_next (T':=[(7,i64 ((k+1:Nat):Int)),(6,.ptr 2 0 0),(2,.ptr 0 0 0),(4,.ptr 1 0 0),(1,i64 b)]) (H':=[.cells 0 s0.cs,.cells 0 nil15,.cells 0 y.cs]) (b - (k+1)) 3 (by omega) ⟨k+1,y,[],rfl,by omega,hsi,by omega,hrun,rfl,rfl⟩ (by simp [Tm.get]) (by simp) (by simp) ⟨rlb_sy,rlb_nil15,rlb_sy,trivial⟩ (by omega))
  ·have hkb':k=b:=by omega
   subst hkb'
   have hr:runN s0 (k - k) x=(s0,8):=by
    rw [Nat.sub_self,runN,if_neg he]
   rw [←hrun,hr] at hQ
   simp (maxSteps:=3000000) [go_sem,-List.length_flatten,-List.map_drop,-List.map_take,hpos,hpos',hA,kr]
   rw [←hQ]
   simp (maxSteps:=3000000) [go_sem,-List.length_flatten,-List.map_drop,-List.map_take]
end
def c47b:AFn:=lit fun m o w i y z p n s t k q r d c f b e a=>⟨155,q (r [i 6 (.box (t 1)),i 10 (.alloc [.nilS,.nilS]),i 11 (.mov (.lit .nilS)),i 12 (.mov (k 0)),i 13 (.mov (k 0))]) (q (r [m 25 3,i 26 (f 72 [t 25]),m 14 26]) (q (r [w 27 2 6,i 15 (.alloc [.nilS,.nilS]),s (.store 2 (t 15) (t 27))]) (q (r [m 28 2,m 16 28]) (q (r [i 17 (.mov (.lit .nilS))]) (q (q (r [i 18 (.mov (k 0))]) (b 0 ((q (q (r [m 29 18,m 30 3,i 31 (.len (t 30)),i 32 (e .lss 29 31)]) (c 32 .skip (.exit 0))) (q (.block 1 (q (r [m 35 3,m 36 18,i 37 (.ia 3 (t 35) (t 36)),a 38 0 37,o 39 38,i 40 (.build [.int .i64 0,.int .i64 0,.int .i64 0,.nilS] [(0,1,t 39)]),i 19 (.alloc [.int .i64 0,.int .i64 0,.int .i64 0,.nilS]),s (.store 4 (t 19) (t 40))]) (q (r [m 41 3,m 42 14,m 43 18,i 44 (f 73 [t 41,t 42,t 43]),m 20 44]) (q (q (r [i 21 (.mov (k 0))]) (b 2 ((q (q (r [m 45 21,m 46 20,i 47 (.len (t 46)),i 48 (e .lss 45 47)]) (c 48 .skip (.exit 2))) (q (.block 3 (d [a 51 3 19,o 52 51,m 53 17,m 54 20,m 55 21,i 56 (.ia 1 (t 54) (t 55)),o 57 56,i 58 (.ia 1 (t 53) (t 57)),o 59 58,i 60 (.bslice 1 1 [.int .i64 0] [(0,t 59)]),i 61 (.app 1 8 (t 52) (t 60)),a 62 3 19,s (.store 1 (t 62) (t 61))])) (r [m 49 21,i 50 (.bin .add (t 49) (k 1)),m 21 50])))))) (q (q (q .mark (r [m 63 3,m 64 18,i 65 (.ia 3 (t 63) (t 64)),a 66 0 65,o 67 66,i 68 (.bin .eql (t 67) (k 2))])) (c 68 (q (r [m 69 16,m 70 3,m 71 18,i 72 (.ia 3 (t 70) (t 71)),a 73 1 72,o 74 73,i 75 (f 74 [t 69,t 74]),a 76 1 19,s (.store 1 (t 76) (t 75))]) (q (r [a 77 1 19,o 78 77,i 79 (.bin .lss (t 78) (k 0))]) (c 79 (q (r [m 80 16,i 81 (.len (t 80)),a 82 1 19,s (.store 1 (t 82) (t 81))]) (.regD [i 83 (.bslice 1 0 [.str ⟨#[]⟩] []),m 84 16,m 86 3,m 87 18,i 88 (.ia 3 (t 86) (t 87)),a 89 1 88,o 90 89,i 91 (.bslice 1 1 [.str ⟨#[]⟩] [(0,t 90)]),i 85 (.app 1 16 (t 83) (t 84)),i 92 (.app 1 16 (t 85) (t 91)),m 16 92] [(i 88 (.ia 3 (t 86) (t 87)),i 85 (.app 1 16 (t 83) (t 84))),(a 89 1 88,i 85 (.app 1 16 (t 83) (t 84))),(o 90 89,i 85 (.app 1 16 (t 83) (t 84)))])) .skip))) .skip)) (q (q (r [m 93 3,m 94 18,i 95 (.ia 3 (t 93) (t 94)),a 96 0 95,o 97 96,i 98 (.bin .eql (t 97) (k 3)),m 99 98,z 100 3 99,z 101 18 99,n 102 (.ia 3 (t 100) (t 101)) 99,n 103 (.fa 0 (t 102)) 99,n 104 (.load 1 false (t 103)) 99,n 105 (.bin .eql (t 104) (k 6)) 99,i 106 (.pick (t 99) (.lit (.bool true)) (t 105))]) (c 106 (r [m 107 0,m 108 3,m 109 18,i 110 (.ia 3 (t 108) (t 109)),a 111 1 110,o 112 111,i 113 (f 75 [t 107,t 112]),a 114 1 19,s (.store 1 (t 114) (t 113))]) .skip)) (q (q (r [m 115 3,m 116 18,i 117 (.ia 3 (t 115) (t 116)),a 118 0 117,o 119 118,i 120 (.bin .eql (t 119) (k 6))]) (c 120 (r [m 121 3,m 122 18,i 123 (.ia 3 (t 121) (t 122)),a 124 2 123,o 125 124,i 126 (.bin .sub (t 125) (k 1)),a 127 2 19,s (.store 1 (t 127) (t 126))]) .skip)) (q (q .mark (r [m 129 0,w 130 2 15,w 131 4 19,m 132 4,i 133 (f 76 [t 129,t 130,t 131,t 132]),m 128 133,i 134 (.ext (t 128) 0),i 135 (.ext (t 128) 1),i 136 (.ext (t 128) 2),i 22 (.alloc [.nilS,.nilS]),s (.store 2 (t 22) (t 134)),m 23 135,m 24 136])) (q (q (r [m 137 24,i 138 (.bin .neq (t 137) (k 0))]) (c 138 (q (r [w 139 2 6,m 140 2,m 141 24,s (.store 2 (t 10) (t 139)),m 11 140,i 12 (.mov (k 0)),m 13 141]) .ret) .skip)) (q (r [w 142 2 22,s (.store 2 (t 15) (t 142))]) (r [m 143 17,m 144 23,i 145 (.bslice 1 1 [.int .i64 0] [(0,t 144)]),i 146 (.app 1 8 (t 143) (t 145)),m 17 146]))))))))))) (r [m 33 18,i 34 (.bin .add (t 33) (k 1)),m 18 34])))))) (q (.regD [w 147 2 15,m 148 16,m 149 17,m 150 17,i 151 (.len (t 150)),i 152 (.bin .sub (t 151) (k 1)),i 153 (.ia 1 (t 149) (t 152)),o 154 153,s (.store 2 (t 10) (t 147)),m 11 148,m 12 154,i 13 (.mov (k 0))] [(i 151 (.len (t 150)),s (.store 2 (t 10) (t 147))),(i 153 (.ia 1 (t 149) (t 152)),s (.store 2 (t 10) (t 147))),(o 154 153,s (.store 2 (t 10) (t 147)))]) .ret)))))),[.cell 10 2 true,.tmp 11,.tmp 12,.tmp 13]⟩
structure Lr where
 b:Kd
 own:List ByteArray
 ids:List Int
def kidsI (e:List Nd) (i:Nat) (ids:List Int):List Int:=(kidsN e i).map fun x=>gi ids (x.r:Int)
def putR (l:List Sg) (limit:Int) (e:List Nd) (s:Lr) (i:Nat):Kd×Int×Int:=putT l s.b (termL l s.own (kidsI e i s.ids) (gi e i)) limit
def stepR (l:List Sg) (limit:Int) (e:List Nd) (s:Lr) (i:Nat):Lr:=⟨(putR l limit e s i).1,ownL s.own (gi e i),s.ids++[(putR l limit e s i).2.1]⟩
def runR (l:List Sg) (limit:Int) (e:List Nd) (s0:Lr):Nat→Lr×Int
 | 0=>(s0,0)
 | i+1=>if (runR l limit e s0 i).2≠0 then runR l limit e s0 i else if (putR l limit e (runR l limit e s0 i).1 i).2.2=0 then (stepR l limit e (runR l limit e s0 i).1 i,0) else ((runR l limit e s0 i).1,(putR l limit e (runR l limit e s0 i).1 i).2.2)
def loadR (l:List Sg) (a:Kd) (names:List ByteArray) (e:List Nd) (limit:Int):Kd×List ByteArray×Int×Int :=
 if (runR l limit e ⟨a,names,[]⟩ e.length).2=0 then ((runR l limit e ⟨a,names,[]⟩ e.length).1.b,(runR l limit e ⟨a,names,[]⟩ e.length).1.own,gi (runR l limit e ⟨a,names,[]⟩ e.length).1.ids (e.length - 1:Nat),0)
 else (a,names,0,(runR l limit e ⟨a,names,[]⟩ e.length).2)
theorem runR_bad {l:List Sg} {limit:Int} {e:List Nd} {s0:Lr} {i:Nat} (h:(runR l limit e s0 i).2≠0):∀ j,runR l limit e s0 (i+j)=runR l limit e s0 i
 | 0=>rfl
 | j+1=>by
  have ih:=runR_bad h j
  show runR l limit e s0 ((i+j)+1)=_
  rw [runR,ih,if_pos h]
def an47:An:=⟨[],[14,23]⟩
theorem c47b_ok:cFn Tryz.prog an47 Tryz.f47=some c47b:=by kernel_rfl
theorem rlb_nil2 {n:Nat}:RLB n (.cells 0 [.nilS,.nilS]):=by simp [RLB]
theorem ownL_len' (own:List ByteArray) (n:Nd):(ownL own n).length≤own.length+1:=by
 unfold ownL
 split<;>simp
theorem chunk_flS (l:List ByteArray):chunk 1 (l.map AV.str) l.length=l.map fun s=>[AV.str s]:=by
 have:=chunk_one (f:=AV.str) (l:=l)
 simpa using this
theorem flat_strs:∀ l:List ByteArray,(l.map fun s=>[AV.str s]).flatten=l.map AV.str
 | []=>rfl
 | x::l=>by simp [flat_strs l]
theorem rlb_tm {n g:Nat} {t:Tm0}:RLB n (.cells g t.cs):=by simp [RLB]
set_option maxHeartbeats 4000000 in
theorem load47_PF {l:List Sg} {a:Kd} {e:List Nd} (hR:rightN e=true) (hka:a.keys.length+e.length≤1000000) (names:List ByteArray) (hna:names.length+e.length≤1000000) (limit:Int) :
  PF Tryz.prog 47 [sigs l,.agg a.cs,strs names,nds e,i64 limit] (.tuple [.agg (loadR l a names e limit).1.cs,strs (loadR l a names e limit).2.1,i64 (loadR l a names e limit).2.2.1,i64 (loadR l a names e limit).2.2.2]):=by
 refine PFk 9 hm Tryz.func47 c47b_ok (Nat.le_of_ble_eq_true rfl) (by simp) (by simp) ?_
 generalize hQ:Rle 9 (.tuple [.agg (loadR l a names e limit).1.cs,strs (loadR l a names e limit).2.1,i64 (loadR l a names e limit).2.2.1,i64 (loadR l a names e limit).2.2.2])=Q
 obtain ⟨hmay,_,_,hpos⟩:=rightN_spec hR
 have hg:=right_good hmay
 have hb:=begs_all e
 simp (maxSteps:=3000000) [go_sem,-List.length_flatten,-List.map_drop,-List.map_take,c47b]
 refine PF.call (rstarts_PF hg (by omega)) 9 (by simp [lePs,-List.length_flatten,-List.map_drop,-List.map_take,Function.comp_def,len_flat]) ?_
 have hm8:∀ j:Nat,j<e.length→(gi e j).kind=6→1≤(gi e j).n∧(gi e j).n≤8:=fun j hj h=>by have:=(mayN (hmay j hj).1).2.2.1 h;omega
 generalize hbg:begAll e=bg at *
 simp (maxSteps:=3000000) [go_sem,-List.length_flatten,-List.map_drop,-List.map_take,Kc]
 refine run_loopK (fun m T H=>∃ (i q:Nat) (s:Lr),m=e.length - i∧i≤e.length∧runR l limit e ⟨a,names,[]⟩ i=(s,0)∧s.b.keys.length≤a.keys.length+i∧s.own.length≤names.length+i∧s.ids.length=i∧T=[(18,i64 i),(17,.loc 3 q 0 i 1 false),(16,strs s.own),(15,.ptr 2 0 0),(14,ints bg),(3,nds e),(0,sigs l),(2,strs names),(4,i64 limit),(6,.ptr 0 0 0),(10,.ptr 1 0 0)]∧H=[.cells 0 a.cs,.cells 0 [.nilS,.nilS],.cells 0 s.b.cs,.cells q (i64s s.ids)])
  e.length [(18,i64 0),(17,.loc 3 0 0 0 1 false),(16,strs names),(15,.ptr 2 0 0),(14,ints bg),(3,nds e),(0,sigs l),(2,strs names),(4,i64 limit),(6,.ptr 0 0 0),(10,.ptr 1 0 0)] [.cells 0 a.cs,.cells 0 [.nilS,.nilS],.cells 0 a.cs,.cells 0 []]
  ((Wk.nil 17 1 (by simp [Tm.get])).trans (Wk.tell 4 (by omega) (by simp [Tm.get]) (by simp) (by simp) ⟨rlb_kd,rlb_nil2,rlb_kd,by simp [RLB],trivial⟩)) ⟨0,0,⟨a,names,[]⟩,rfl,Nat.zero_le _,rfl,by simp,by simp,rfl,rfl,rfl⟩ ?_
 rintro m T H ⟨i,q,s,rfl,hi,hrun,hkb,how,hil,rfl,rfl⟩ KK kx kr kn
 by_cases h:i<e.length
 ·have hgi:=hg i h
  have hkids:=rkids_PF (hb i hi) (hg.sub (j:=i+1) (by omega)) h (by omega)
  have hken:=fun k hk=>kids_en (l:=e) (i:=i) (hg.sub (j:=i+1) (by omega)) (k:=k) hk
  have hkl:(kidsN e i).length=pN (gi e i):=kids_lenN hgi.2
  have hsl:=stk_le e i
  have hput:putR l limit e s i=putT l s.b (termL l s.own (kidsI e i s.ids) (gi e i)) limit:=rfl
  have hnx:runR l limit e ⟨a,names,[]⟩ (i+1)=if (putR l limit e s i).2.2=0 then (stepR l limit e s i,0) else (s,(putR l limit e s i).2.2):=by
   rw [runR,hrun]
   rfl
  have h8:=hm8 i h
  have hA0:i+1≤maxA:=by unfold maxA;omega
  simp (maxSteps:=3000000) [go_sem,-List.length_flatten,-List.map_drop,-List.map_take,h]
  intros
  refine PF.call hkids 9 (by simp [lePs,-List.length_flatten,-List.map_drop,-List.map_take,Function.comp_def,len_flat]) ?_
  simp (maxSteps:=3000000) [go_sem,-List.length_flatten,-List.map_drop,-List.map_take,Kc]
  obtain ⟨Ki,hKi⟩:∃ Ki,Ki=(kidsN e i).map fun x=>(x.r:Int):=⟨_,rfl⟩
  rw [←hKi]
  have hKl:Ki.length=pN (gi e i):=by rw [hKi,List.length_map,hkl]
  have hKr:∀ k:Nat,k<Ki.length→0≤gi Ki k∧gi Ki k<i:=fun k hk=>by
   have h1:=(hken k (by omega)).1
   have h2:gi Ki k=((gi (kidsN e i) k).r:Int):=by
    rw [hKi]
    have hk':k<(kidsN e i).length:=by omega
    simp [gi,List.getD,hk']
   omega
  have hargs:kidsI e i s.ids=Ki.map fun r=>gi s.ids r:=by
   rw [hKi,List.map_map];rfl
  rw [hargs] at hput
  have hpl0:pN (gi e i)≤1000000:=by omega
  refine run_loopK (fun m T H=>∃ j g:Nat,m=Ki.length - j∧j≤Ki.length∧T=[(21,i64 j),(20,ints Ki),(19,.ptr 4 0 0),(18,i64 i),(17,.loc 3 q 0 i 1 false),(16,strs s.own),(15,.ptr 2 0 0),(14,ints bg),(3,nds e),(0,sigs l),(2,strs names),(4,i64 limit),(6,.ptr 0 0 0),(10,.ptr 1 0 0)]∧H=[.cells 0 a.cs,.cells 0 [.nilS,.nilS],.cells 0 s.b.cs,.cells q (i64s s.ids),.cells 0 [i64 (gi e i).kind,i64 0,i64 0,.loc 5 g 0 j 1 false],.cells g (i64s ((Ki.take j).map fun r=>gi s.ids r))])
   Ki.length [(21,i64 0),(20,ints Ki),(19,.ptr 4 0 0),(18,i64 i),(17,.loc 3 q 0 i 1 false),(16,strs s.own),(15,.ptr 2 0 0),(14,ints bg),(3,nds e),(0,sigs l),(2,strs names),(4,i64 limit),(6,.ptr 0 0 0),(10,.ptr 1 0 0)] [.cells 0 a.cs,.cells 0 [.nilS,.nilS],.cells 0 s.b.cs,.cells q (i64s s.ids),.cells 0 [i64 (gi e i).kind,i64 0,i64 0,.loc 5 0 0 0 1 false],.cells 0 []]
   ((Wk.own.trans (Wk.nilAt 4 3 5 1 (g:=0) (cs:=[i64 (gi e i).kind,i64 0,i64 0,.nilS]) rfl rfl rfl)).trans (Wk.tell 6 (by omega) (by simp [Tm.get]) (by simp) rfl ⟨rlb_kd,rlb_nil2,rlb_kd,rlb_i64s,by simp [RLB],by simp [RLB],trivial⟩)) ⟨0,0,rfl,Nat.zero_le _,rfl,by simp⟩ ?_
  rintro m T H ⟨j,g,rfl,hj,rfl,rfl⟩ KK2 kx2 kr2 kn2
  by_cases hjl:j<Ki.length
  ·have hr:=hKr j hjl
   have hld:=i64_load (d:=s.ids) (w:=gi Ki j) (by rw [hil];omega)
   have hmt:=map_take1 (fun r=>gi s.ids r) hjl
   have hap:=i64s_app ((Ki.take j).map fun r=>gi s.ids r) (gi s.ids (gi Ki j))
   have hml:((Ki.take j).map fun r=>gi s.ids r).length=j:=by simp;omega
   rw [hml,←hmt] at hap
   have hA1:j+1≤maxA:=by unfold maxA;omega
   generalize hC:i64s ((Ki.take j).map fun r=>gi s.ids r)=C at *
   have hCl:C.length=j:=by rw [←hC];simp;omega
   simp (maxSteps:=3000000) [go_sem,-List.length_flatten,-List.map_drop,-List.map_take,hjl,hr,hil,↓hld,hA1,hCl,↓hap]
   intros
   have hwj:IntKind.i64.wrap ((j:Int)+1)=((j+1:Nat):Int):=by rw [w64 (by omega) (by omega)];omega
   refine kn2 _ _ (Kl_next (Ki.length - (j+1)) 6 (by omega) ⟨j+1,g+1,rfl,by omega,rfl,rfl⟩ (by simp [Tm.get,hwj]) (by simp) (by simp [Function.comp_def]) ⟨rlb_kd,rlb_nil2,rlb_kd,rlb_i64s,by simp [RLB],rlb_i64s,trivial⟩ (by omega))
  ·have:j=Ki.length:=by omega
   subst this
   rw [List.take_length]
   obtain ⟨A,hA⟩:∃ A,A=Ki.map fun r=>gi s.ids r:=⟨_,rfl⟩
   rw [←hA] at hput ⊢
   have hAl:A.length=Ki.length:=by rw [hA,List.length_map]
   have hchA:=chunk_flI A
   rw [hAl] at hchA
   simp (maxSteps:=3000000) [go_sem,-List.length_flatten,-List.map_drop,-List.map_take,kx2]
   intros
   refine run_markT [(19,.ptr 4 0 0),(18,i64 i),(17,.loc 3 q 0 i 1 false),(16,strs s.own),(15,.ptr 2 0 0),(14,ints bg),(3,nds e),(0,sigs l),(2,strs names),(4,i64 limit),(6,.ptr 0 0 0),(10,.ptr 1 0 0)] [.cells 0 a.cs,.cells 0 [.nilS,.nilS],.cells 0 s.b.cs,.cells q (i64s s.ids),.cells 0 [i64 (gi e i).kind,i64 0,i64 0,ints A]] ((Wk.fz 5 9 rfl).trans (Wk.tell 5 (by omega) (by simp [Tm.get,fzT,fz]) (by simp) (by simp [fzB,fz,hchA,hAl]) ⟨rlb_kd,rlb_nil2,rlb_kd,rlb_i64s,by simp [RLB],trivial⟩)) ?_
   have hoA:s.own.length+1≤maxA:=by unfold maxA;omega
   have hoA0:s.own.length≤maxA:=by unfold maxA;omega
   refine by_way (A:=?G) (fun key=>?main) ?sub
   case main =>
    by_cases k2:(gi e i).kind=2
    ·by_cases hx:ixN s.own (gi e i).name<0
     ·have ht:termL l s.own A (gi e i)=⟨2,s.own.length,0,A⟩:=by simp [termL,k2,hx]
      have ho:ownL s.own (gi e i)=s.own++[(gi e i).name]:=by simp [ownL,k2,hx]
      unfold ixN at hx
      simp (maxSteps:=3000000) [go_sem,-List.length_flatten,-List.map_drop,-List.map_take,h,k2]
      intros
      refine PF.call (rat_PF s.own (gi e i).name) 9 (by simp [lePs,-List.length_flatten,-List.map_drop,-List.map_take,Function.comp_def,len_flat]) ?_
      by_cases ho0:s.own=[]
      ·have hx0:=hx
       rw [ho0] at hx0
       have ht':=ht
       have ho':=ho
       rw [ho0] at ht' ho'
       have h1A:1≤maxA:=by unfold maxA;omega
       simp (maxSteps:=3000000) [go_sem,-List.length_flatten,-List.map_drop,-List.map_take,Kc,k2,hx0,ho0,h,h1A,indB,apartB,apartS,aliveRd,refA]
       intros
       refine run_markT [(19,.ptr 4 0 0),(18,i64 i),(17,.loc 3 q 0 i 1 false),(16,strs (ownL s.own (gi e i))),(15,.ptr 2 0 0),(14,ints bg),(3,nds e),(0,sigs l),(2,strs names),(4,i64 limit),(6,.ptr 0 0 0),(10,.ptr 1 0 0)] [.cells 0 a.cs,.cells 0 [.nilS,.nilS],.cells 0 s.b.cs,.cells q (i64s s.ids),.cells 0 (termL l s.own A (gi e i)).cs] ((Wk.fz 5 9 rfl).trans (Wk.tell 5 (by omega) (by simp [Tm.get,fzT,fz,ho',ho0,chunk]) (by simp) (by simp [fzB,fz,ht',ho0]) ⟨rlb_kd,rlb_nil2,rlb_kd,rlb_i64s,rlb_tm,trivial⟩)) ?_
       exact key ()
      ·simp (maxSteps:=3000000) [go_sem,-List.length_flatten,-List.map_drop,-List.map_take,Kc,k2,hx,ho0,h,hoA,hoA0,indB,apartB,apartS,aliveRd,refA]
       intros
       have hcs:chunk 1 ((s.own++[(gi e i).name]).map AV.str) (s.own.length+1)=(s.own++[(gi e i).name]).map fun s=>[AV.str s]:=by
        have:=chunk_flS (s.own++[(gi e i).name])
        rwa [List.length_append] at this
       have hfs:=flat_strs s.own
       have htk:List.take s.own.length (s.own.map AV.str)=s.own.map AV.str:=List.take_of_length_le (by simp)
       simp only [List.map_append,List.map_cons,List.map_nil] at hcs
       refine run_markT [(19,.ptr 4 0 0),(18,i64 i),(17,.loc 3 q 0 i 1 false),(16,strs (ownL s.own (gi e i))),(15,.ptr 2 0 0),(14,ints bg),(3,nds e),(0,sigs l),(2,strs names),(4,i64 limit),(6,.ptr 0 0 0),(10,.ptr 1 0 0)] [.cells 0 a.cs,.cells 0 [.nilS,.nilS],.cells 0 s.b.cs,.cells q (i64s s.ids),.cells 0 (termL l s.own A (gi e i)).cs] ((Wk.fz 5 9 rfl).trans (Wk.tell 5 (by omega) (by simp [Tm.get,fzT,fz,ho,hfs,htk,hcs]) (by simp) (by simp [fzB,fz,ht]) ⟨rlb_kd,rlb_nil2,rlb_kd,rlb_i64s,rlb_tm,trivial⟩)) ?_
       exact key ()
     ·have ht:termL l s.own A (gi e i)=⟨2,ixN s.own (gi e i).name,0,A⟩:=by simp [termL,k2,hx]
      have ho:ownL s.own (gi e i)=s.own:=by simp [ownL,k2,hx]
      unfold ixN at hx
      simp (maxSteps:=3000000) [go_sem,-List.length_flatten,-List.map_drop,-List.map_take,h,k2]
      intros
      refine PF.call (rat_PF s.own (gi e i).name) 9 (by simp [lePs,-List.length_flatten,-List.map_drop,-List.map_take,Function.comp_def,len_flat]) ?_
      simp (maxSteps:=3000000) [go_sem,-List.length_flatten,-List.map_drop,-List.map_take,Kc,k2,hx,h]
      intros
      refine run_markT [(19,.ptr 4 0 0),(18,i64 i),(17,.loc 3 q 0 i 1 false),(16,strs (ownL s.own (gi e i))),(15,.ptr 2 0 0),(14,ints bg),(3,nds e),(0,sigs l),(2,strs names),(4,i64 limit),(6,.ptr 0 0 0),(10,.ptr 1 0 0)] [.cells 0 a.cs,.cells 0 [.nilS,.nilS],.cells 0 s.b.cs,.cells q (i64s s.ids),.cells 0 (termL l s.own A (gi e i)).cs] (Wk.tell 5 (by omega) (by simp [Tm.get,ho]) (by simp) (by simp [ht,ixN,k2]) ⟨rlb_kd,rlb_nil2,rlb_kd,rlb_i64s,rlb_tm,trivial⟩) ?_
      exact key ()
    by_cases k6:(gi e i).kind=6
    ·have ht:termL l s.own A (gi e i)=⟨6,fstAt (fun s=>decide (s.name=(gi e i).name)) l,(gi e i).n - 1,A⟩:=by simp [termL,k6]
     have ho:ownL s.own (gi e i)=s.own:=by simp [ownL,k6]
     have h8':=h8 k6
     have hw8:IntKind.i64.wrap ((gi e i).n - 1)=(gi e i).n - 1:=w64 (by omega) (by omega)
     simp (maxSteps:=3000000) [go_sem,-List.length_flatten,-List.map_drop,-List.map_take,h,k6]
     intros
     refine PF.call (find_PF l (gi e i).name) 9 (by simp [lePs,-List.length_flatten,-List.map_drop,-List.map_take,Function.comp_def,len_flat]) ?_
     simp (maxSteps:=3000000) [go_sem,-List.length_flatten,-List.map_drop,-List.map_take,Kc,k6,h,hw8]
     intros
     refine run_markT [(19,.ptr 4 0 0),(18,i64 i),(17,.loc 3 q 0 i 1 false),(16,strs (ownL s.own (gi e i))),(15,.ptr 2 0 0),(14,ints bg),(3,nds e),(0,sigs l),(2,strs names),(4,i64 limit),(6,.ptr 0 0 0),(10,.ptr 1 0 0)] [.cells 0 a.cs,.cells 0 [.nilS,.nilS],.cells 0 s.b.cs,.cells q (i64s s.ids),.cells 0 (termL l s.own A (gi e i)).cs] (Wk.tell 5 (by omega) (by simp [Tm.get,ho]) (by simp) (by simp [ht,k6]) ⟨rlb_kd,rlb_nil2,rlb_kd,rlb_i64s,rlb_tm,trivial⟩) ?_
     exact key ()
    by_cases k3:(gi e i).kind=3
    ·have ht:termL l s.own A (gi e i)=⟨3,fstAt (fun s=>decide (s.name=(gi e i).name)) l,0,A⟩:=by simp [termL,k3]
     have ho:ownL s.own (gi e i)=s.own:=by simp [ownL,k3]
     simp (maxSteps:=3000000) [go_sem,-List.length_flatten,-List.map_drop,-List.map_take,h,k3]
     intros
     refine PF.call (find_PF l (gi e i).name) 9 (by simp [lePs,-List.length_flatten,-List.map_drop,-List.map_take,Function.comp_def,len_flat]) ?_
     simp (maxSteps:=3000000) [go_sem,-List.length_flatten,-List.map_drop,-List.map_take,Kc,k3,h]
     intros
     refine run_markT [(19,.ptr 4 0 0),(18,i64 i),(17,.loc 3 q 0 i 1 false),(16,strs (ownL s.own (gi e i))),(15,.ptr 2 0 0),(14,ints bg),(3,nds e),(0,sigs l),(2,strs names),(4,i64 limit),(6,.ptr 0 0 0),(10,.ptr 1 0 0)] [.cells 0 a.cs,.cells 0 [.nilS,.nilS],.cells 0 s.b.cs,.cells q (i64s s.ids),.cells 0 (termL l s.own A (gi e i)).cs] (Wk.tell 5 (by omega) (by simp [Tm.get,ho]) (by simp) (by simp [ht,k3]) ⟨rlb_kd,rlb_nil2,rlb_kd,rlb_i64s,rlb_tm,trivial⟩) ?_
     exact key ()
    ·have ht:termL l s.own A (gi e i)=⟨(gi e i).kind,0,0,A⟩:=by simp [termL,k2,k3,k6]
     have ho:ownL s.own (gi e i)=s.own:=by simp [ownL,k2]
     simp (maxSteps:=3000000) [go_sem,-List.length_flatten,-List.map_drop,-List.map_take,h,k2,k3,k6]
     intros
     refine run_markT [(19,.ptr 4 0 0),(18,i64 i),(17,.loc 3 q 0 i 1 false),(16,strs (ownL s.own (gi e i))),(15,.ptr 2 0 0),(14,ints bg),(3,nds e),(0,sigs l),(2,strs names),(4,i64 limit),(6,.ptr 0 0 0),(10,.ptr 1 0 0)] [.cells 0 a.cs,.cells 0 [.nilS,.nilS],.cells 0 s.b.cs,.cells q (i64s s.ids),.cells 0 (termL l s.own A (gi e i)).cs] (Wk.tell 5 (by omega) (by simp [Tm.get,ho]) (by simp) (by simp [ht]) ⟨rlb_kd,rlb_nil2,rlb_kd,rlb_i64s,rlb_tm,trivial⟩) ?_
     exact key ()
   case sub =>
    have hpt:=rputT_PF l (a:=s.b) (by omega) (termL l s.own A (gi e i)) (by simp [termL];omega) limit
    rw [←hput] at hpt
    have hol:=ownL_len' s.own (gi e i)
    have hkl2:(putR l limit e s i).1.keys.length≤s.b.keys.length+1:=by rw [hput];exact putT_len l s.b _ limit
    have hst:stepR l limit e s i=⟨(putR l limit e s i).1,ownL s.own (gi e i),s.ids++[(putR l limit e s i).2.1]⟩:=rfl
    rw [hst] at hnx
    generalize ownL s.own (gi e i)=own2 at *
    generalize termL l s.own A (gi e i)=tm at *
    generalize putR l limit e s i=P at *
    simp (maxSteps:=3000000) [go_sem,-List.length_flatten,-List.map_drop,-List.map_take]
    refine PF.call hpt 9 (by simp [lePs,-List.length_flatten,-List.map_drop,-List.map_take,Function.comp_def,len_flat]) ?_
    by_cases hb:P.2.2=0
    ·rw [if_pos hb] at hnx
     have hap:=i64s_app s.ids P.2.1
     rw [hil] at hap
     simp (maxSteps:=3000000) [go_sem,-List.length_flatten,-List.map_drop,-List.map_take,Kc,hb,hA0,hil,↓hap]
     intros
     have hwi:IntKind.i64.wrap ((i:Int)+1)=((i+1:Nat):Int):=by rw [w64 (by omega) (by omega)];omega
     refine kn _ _ (Kl_next (e.length - (i+1)) 4 (by omega) ⟨i+1,q+1,_,rfl,by omega,hnx,by simp only;omega,by simp only;omega,by simp only [List.length_append,List.length_singleton,hil],rfl,rfl⟩ (by simp [Tm.get,hwi]) (by simp) (by simp) ⟨rlb_kd,rlb_nil2,rlb_kd,rlb_i64s,trivial⟩ (by omega))
    ·rw [if_neg hb] at hnx
     have hfin:runR l limit e ⟨a,names,[]⟩ e.length=(s,P.2.2):=by
      have:=runR_bad (l:=l) (limit:=limit) (e:=e) (s0:=⟨a,names,[]⟩) (i:=i+1) (by rw [hnx];exact hb) (e.length - (i+1))
      rw [show i+1+(e.length - (i+1))=e.length by omega] at this
      rw [this,hnx]
     have hld:loadR l a names e limit=(a,names,0,P.2.2):=by
      unfold loadR
      rw [hfin,if_neg hb]
     rw [hld] at hQ
     simp (maxSteps:=3000000) [go_sem,-List.length_flatten,-List.map_drop,-List.map_take,Kc,hb,kr]
     rw [←hQ]
     simp (maxSteps:=3000000) [go_sem,-List.length_flatten,-List.map_drop,-List.map_take]
 ·have:i=e.length:=by omega
  subst this
  have hld:loadR l a names e limit=(s.b,s.own,gi s.ids (e.length - 1:Nat),0):=by
   unfold loadR
   rw [hrun]
   rfl
  rw [hld] at hQ
  have hw1:IntKind.i64.wrap ((e.length:Int) - 1)=((e.length - 1:Nat):Int):=by rw [w64 (by omega) (by omega)];omega
  have hll:=i64_load (d:=s.ids) (w:=((e.length - 1:Nat):Int)) (by rw [hil];omega)
  obtain ⟨L1,hL1⟩:∃ L1:Nat,L1=e.length - 1:=⟨_,rfl⟩
  rw [←hL1] at hw1 hll hQ
  have hll':loadCs 1 false (List.drop L1 (i64s s.ids))=some (i64 (gi s.ids L1)):=by simpa using hll
  have hL2:(L1:Int)<e.length:=by omega
  have hL3:1≤e.length - L1:=by omega
  have hL4:L1<e.length:=by omega
  simp (maxSteps:=3000000) [go_sem,-List.length_flatten,-List.map_drop,-List.map_take,kx,hw1,hil,↓hll',hL2,hL3,hL4,indB,apartB,apartS,aliveRd,refA]
  intros
  rw [←hQ]
  simp (maxSteps:=3000000) [go_sem,-List.length_flatten,-List.map_drop,-List.map_take]
structure Lok (l:List Sg) (b:Kd) (own:List ByteArray):Prop where
 fine:Fine l b
 hash:hashRight b=true
 few:b.keys.length≤400
 vk:∀ i:Nat,i<b.keys.length→(termAt b i).1.kind=2→∃ n:Nat,n<own.length∧gi b.keys (i:Int)=[2,(n:Int),0]
 vo:∀ n:Nat,n<own.length→([2,(n:Int),0]:List Int)∈b.keys
theorem termAt_key {b:Kd} {i:Nat} (h:i<b.keys.length):termAt b i=termOf (gi b.keys (i:Int)):=by
 unfold termAt
 rw [if_neg (by omega)]
theorem putT_keys {l:List Sg} {a:Kd} {t:Tm0} {limit:Int} (h:(putT l a t limit).2.2=0):mayBe l a.keys.length t=true∧((0≤fstAt (fun x=>decide (x=keyT t)) a.keys∧putT l a t limit=(a,fstAt (fun x=>decide (x=keyT t)) a.keys,0))∨(fstAt (fun x=>decide (x=keyT t)) a.keys<0∧a.keys.length<limit∧(putT l a t limit).1.keys=a.keys++[keyT t]∧(putT l a t limit).2.1=a.keys.length)):=by
 obtain ⟨h1,h2⟩:=putT_ok h
 refine ⟨h1,?_⟩
 by_cases hf:0≤fstAt (fun x=>decide (x=keyT t)) a.keys
 ·left
  refine ⟨hf,?_⟩
  rw [h2]
  unfold putK
  rw [if_pos hf]
 ·right
  have hk:putK a (keyT t)=(⟨a.keys++[keyT t],lay (a.keys++[keyT t])⟩,(a.keys.length:Int),true):=by unfold putK;rw [if_neg hf]
  refine ⟨by omega,?_,by rw [h2,hk],by rw [h2,hk]⟩
  unfold putT at h
  rw [h1,hk] at h
  simp only [Bool.true_eq_false,if_false,true_and] at h
  by_cases hl:limit≤a.keys.length
  ·rw [if_pos hl] at h;simp at h
  ·omega
theorem keyT_of (t:Tm0):termOf (keyT t)=(t,true):=by
 unfold termOf keyT
 rw [if_neg (by simp)]
 cases t
 simp [gi]
theorem gi_end {α:Type} [Inhabited α] {l:List α} {x:α}:gi (l++[x]) ((l.length:Nat):Int)=x:=by simp [gi,List.getD]
theorem Lok.put {l:List Sg} {b:Kd} {own:List ByteArray} (h:Lok l b own) {args:List Int} {n:Nd} (hb:(putT l b (termL l own args n) 400).2.2=0):Lok l (putT l b (termL l own args n) 400).1 (ownL own n)∧(∃ ks,(putT l b (termL l own args n) 400).1.keys=b.keys++ks)∧0≤(putT l b (termL l own args n) 400).2.1∧(putT l b (termL l own args n) 400).2.1<(putT l b (termL l own args n) 400).1.keys.length:=by
 obtain ⟨hm,hc⟩:=putT_keys hb
 have hfit:=mayBe_fit hm
 have hk2:n.kind=2→keyT (termL l own args n)=[2,(if ixN own n.name<0 then (own.length:Int) else ixN own n.name),0]:=fun k2=>by
  have ha:args=[]:=by
   have:=hfit.flat (by simp [termL,k2])
   simpa [termL] using this
  simp [keyT,termL,k2,ha]
 have hix:∀ s,0≤ixN own s→ixN own s<own.length:=fun s _=>fst_lt
 rcases hc with ⟨hf,he⟩|⟨hf,hlt,hks,hid⟩
 ·rw [he]
  have hlt:fstAt (fun x=>decide (x=keyT (termL l own args n))) b.keys<b.keys.length:=fst_lt
  have hown:ownL own n=own:=by
   unfold ownL
   rw [if_neg]
   rintro ⟨k2,hx⟩
   have hin:=fstAt_mem.1 hf
   rw [hk2 k2,if_pos hx] at hin
   obtain ⟨j,j1,j2⟩:=mem_gi.1 hin
   have hkind:(termAt b j).1.kind=2:=by
    rw [termAt_key j1,j2]
    simp [termOf,gi]
   obtain ⟨m,m1,m2⟩:=h.vk j j1 hkind
   rw [j2] at m2
   simp at m2
   omega
  rw [hown]
  exact ⟨h,⟨[],by simp⟩,hf,hlt⟩
 ·generalize hP:putT l b (termL l own args n) 400=P at *
  have hkl:P.1.keys.length=b.keys.length+1:=by rw [hks];simp
  have hold:∀ i:Nat,i<b.keys.length→termAt P.1 i=termAt b i:=fun i hi=>by
   rw [termAt_key (by omega),termAt_key hi,hks,giApp hi]
  have hnew:termAt P.1 (b.keys.length:Int)=(termL l own args n,true):=by
   rw [termAt_key (by omega),hks,gi_end,keyT_of]
  have hh:hashRight P.1=true:=by
   have:=putT_hash (l:=l) h.hash (termL l own args n) 400
   rwa [hP] at this
  refine ⟨⟨⟨by have:=h.few;omega,fun i hi=>?_,h.fine.short,by have:=h.fine.two;omega,?_,?_⟩,hh,by have:=h.few;omega,fun i hi hk=>?_,fun m hm'=>?_⟩,⟨_,hks⟩,by omega,by omega⟩
  ·by_cases hi2:i<b.keys.length
   ·rw [hold i hi2];exact h.fine.ok i hi2
   ·have:i=b.keys.length:=by omega
    subst this
    rw [hnew]
    exact ⟨rfl,hfit⟩
  ·have:=hold 0 (by have:=h.fine.two;omega)
   rw [show ((0:Nat):Int)=0 from rfl] at this
   rw [this];exact h.fine.zero
  ·have:=hold 1 (by have:=h.fine.two;omega)
   rw [show ((1:Nat):Int)=1 from rfl] at this
   rw [this];exact h.fine.one
  ·by_cases hi2:i<b.keys.length
   ·rw [hold i hi2] at hk
    obtain ⟨m,m1,m2⟩:=h.vk i hi2 hk
    refine ⟨m,?_,by rw [hks,giApp hi2,m2]⟩
    unfold ownL
    split
    ·simp;omega
    ·exact m1
   ·have:i=b.keys.length:=by omega
    subst this
    rw [hnew] at hk
    have k2:n.kind=2:=hk
    rw [hks,gi_end,hk2 k2]
    by_cases hx:ixN own n.name<0
    ·exact ⟨own.length,by simp [ownL,k2,hx],by rw [if_pos hx]⟩
    ·have:=hix n.name (by omega)
     exact ⟨(ixN own n.name).toNat,by simp [ownL,hx];omega,by rw [if_neg hx,Int.toNat_of_nonneg (by omega)]⟩
  ·rw [hks]
   unfold ownL at hm'
   split at hm'
   ·rename_i hc
    by_cases e:m=own.length
    ·subst e
     rw [hk2 hc.1,if_pos hc.2]
     simp
    ·simp at hm'
     exact List.mem_append_left _ (h.vo m (by omega))
   ·exact List.mem_append_left _ (h.vo m hm')
theorem Lok.run {l:List Sg} {b:Kd} {own:List ByteArray} (h:Lok l b own) (e:List Nd):∀ (i:Nat),i≤e.length→(runR l 400 e ⟨b,own,[]⟩ i).2=0→Lok l (runR l 400 e ⟨b,own,[]⟩ i).1.b (runR l 400 e ⟨b,own,[]⟩ i).1.own∧(∃ ks,(runR l 400 e ⟨b,own,[]⟩ i).1.b.keys=b.keys++ks)∧(runR l 400 e ⟨b,own,[]⟩ i).1.ids.length=i∧∀ x∈(runR l 400 e ⟨b,own,[]⟩ i).1.ids,0≤x∧x<(runR l 400 e ⟨b,own,[]⟩ i).1.b.keys.length
 | 0,_,_=>⟨h,⟨[],by simp [runR]⟩,rfl,fun x hx=>by simp [runR] at hx⟩
 | i+1,hi,hr=>by
  rw [runR] at hr ⊢
  by_cases h0:(runR l 400 e ⟨b,own,[]⟩ i).2≠0
  ·rw [if_pos h0] at hr
   exact absurd hr h0
  ·rw [if_neg h0] at hr ⊢
   obtain ⟨i1,⟨ks,i2⟩,i3,i4⟩:=h.run e i (by omega) (by omega)
   generalize runR l 400 e ⟨b,own,[]⟩ i=S at *
   by_cases hb:(putR l 400 e S.1 i).2.2=0
   ·rw [if_pos hb]
    obtain ⟨p1,⟨ks2,p2⟩,p3,p4⟩:=i1.put (args:=kidsI e i S.1.ids) (n:=gi e i) hb
    refine ⟨p1,⟨ks++ks2,?_⟩,?_,fun x hx=>?_⟩
    ·show (putR l 400 e S.1 i).1.keys=_
     rw [←List.append_assoc,←i2]
     exact p2
    ·show (S.1.ids++[_]).length=_
     rw [List.length_append,i3];rfl
    ·have hx':x∈S.1.ids++[(putR l 400 e S.1 i).2.1]:=hx
     rw [List.mem_append,List.mem_singleton] at hx'
     show 0≤x∧x<((putR l 400 e S.1 i).1.keys.length:Int)
     have p2':(putR l 400 e S.1 i).1.keys=S.1.b.keys++ks2:=p2
     rcases hx' with hx'|rfl
     ·have:=i4 x hx'
      rw [p2',List.length_append]
      omega
     ·exact ⟨p3,p4⟩
   ·rw [if_neg hb] at hr
    exact absurd hr hb
theorem Lok.load {l:List Sg} {b:Kd} {own:List ByteArray} (h:Lok l b own) {e:List Nd} (he:0<e.length) (hr:(loadR l b own e 400).2.2.2=0):Lok l (loadR l b own e 400).1 (loadR l b own e 400).2.1∧(∃ ks,(loadR l b own e 400).1.keys=b.keys++ks)∧0≤(loadR l b own e 400).2.2.1∧(loadR l b own e 400).2.2.1<(loadR l b own e 400).1.keys.length:=by
 have h1:=h.run e e.length (Nat.le_refl _)
 unfold loadR at hr ⊢
 generalize runR l 400 e ⟨b,own,[]⟩ e.length=S at *
 by_cases h0:S.2=0
 ·rw [if_pos h0]
  obtain ⟨i1,i2,i3,i4⟩:=h1 h0
  exact ⟨i1,i2,i4 _ (gi_memG (by omega))⟩
 ·rw [if_neg h0] at hr
  exact absurd hr h0
theorem lok_new {l:List Sg} (hr:sigRight l=true):Lok l newK []:=by
 have hs:∀ i:Int,(gi l i).args.size≤8:=fun i=>by
  unfold sigRight at hr
  simp only [Bool.and_eq_true,decide_eq_true_eq] at hr
  rcases gi_cases l i with ⟨k,hk,e⟩|e
  ·have:=hr.1 k.toNat (by omega)
   unfold sigOk at this
   rw [Int.toNat_of_nonneg hk.1] at this
   rw [e]
   have:=this.2.1
   unfold argsOk at this
   simp only [Bool.and_eq_true,decide_eq_true_eq] at this
   exact this.2
  ·rw [e];exact Nat.zero_le _
 refine ⟨⟨by decide,fun i hi=>?_,hs,by decide,by decide,by decide⟩,by kernel_rfl,by decide,fun i hi hk=>?_,fun n hn=>by simp at hn⟩
 ·have hi2:i=0∨i=1:=by
   have:newK.keys.length=2:=rfl
   omega
  rcases hi2 with rfl|rfl
  ·refine ⟨by decide,?_⟩
   exact ⟨fun j hj=>by simp [newK,termAt,termOf,gi] at hj,by decide,fun _=>by decide,fun h=>by simp [newK,termAt,termOf,gi] at h,fun h=>by simp [newK,termAt,termOf,gi] at h,fun h=>by simp [newK,termAt,termOf,gi] at h⟩
  ·refine ⟨by decide,?_⟩
   exact ⟨fun j hj=>by simp [newK,termAt,termOf,gi] at hj,by decide,fun _=>by decide,fun h=>by simp [newK,termAt,termOf,gi] at h,fun h=>by simp [newK,termAt,termOf,gi] at h,fun h=>by simp [newK,termAt,termOf,gi] at h⟩
 ·have hi2:i=0∨i=1:=by
   have:newK.keys.length=2:=rfl
   omega
  rcases hi2 with rfl|rfl<;>simp [newK,termAt,termOf,gi] at hk
structure Cn where
 l:List Nd
 r:List Nd
 deriving Inhabited,DecidableEq
structure Cz where
 sigs:List Sg
 l:List Cn
 ranks:List Int
 depth:Int
 deriving Inhabited,DecidableEq
abbrev cns (l:List Cn):AV:=.rows false 2 (l.map fun c=>[nds c.l,nds c.r])
abbrev Cz.cs (c:Cz):List AV:=[Go.AM.sigs c.sigs,cns c.l,ints c.ranks,i64 c.depth]
abbrev Lc:=Kd×List ByteArray×List (Int×Int)×Bool
def stepC (l:List Sg) (s:Lc) (c:Cn):Lc :=
 if s.2.2.2=false then s
 else
  let p:=loadR l s.1 s.2.1 c.l 400
  let q:=loadR l p.1 p.2.1 c.r 400
  if p.2.2.2≠0∨q.2.2.2≠0 then (s.1,s.2.1,[],false)
  else if sided l q.1 p.2.2.1 76=false∨sided l q.1 q.2.2.1 82=false then (s.1,s.2.1,[],false)
  else (q.1,q.2.1,s.2.2.1++[(p.2.2.1,q.2.2.1)],true)
def loadC (l:List Sg) (cs:List Cn):Lc:=cs.foldl (stepC l) (newK,[],[],true)
theorem okN_ext {l:List Sg} {a b:Kd} (hF:Fine l a) (hp:∃ ks,b.keys=a.keys++ks):∀ (n:Nat) (x s:Int),(0≤x∧x<a.keys.length)→okN l b n x s=okN l a n x s
 | 0,_,_,_=>rfl
 | n+1,x,s,hx=>by
  obtain ⟨ks,hk⟩:=hp
  have ht:termAt b x=termAt a x:=by
   obtain ⟨i,rfl⟩:∃ i:Nat,x=i:=⟨x.toNat,by omega⟩
   rw [termAt_key (by rw [hk,List.length_append];omega),termAt_key (by omega),hk,giApp (by omega)]
  have hfit:=(hF.fit hx).2
  have hsn:∀ i,sideN l (termAt b x).1 s i=sideN l (termAt a x).1 s i:=fun i=>by rw [ht]
  simp only [okN,ht]
  congr 1
  refine decide_eq_decide.2 (forall_congr' fun i=>forall_congr' fun hi=>?_)
  have:=hfit.parts i hi
  rw [okN_ext hF ⟨ks,hk⟩ n _ _ ⟨this.1,by omega⟩]
theorem okP_ext {l:List Sg} {a b:Kd} (hF:Fine l a) (hp:∃ ks,b.keys=a.keys++ks) {p:Int×Int} (hi:inP a p) (h:okP l a p):inP b p∧okP l b p:=by
 obtain ⟨ks,hk⟩:=hp
 have h1:=hi.1
 have h2:=hi.2
 refine ⟨⟨⟨h1.1,by rw [hk,List.length_append];omega⟩,h2.1,by rw [hk,List.length_append];omega⟩,?_,?_⟩
 ·have:=h.1
  unfold okAt at this ⊢
  rw [okN_ext hF ⟨ks,hk⟩ _ _ _ h1];exact this
 ·have:=h.2
  unfold okAt at this ⊢
  rw [okN_ext hF ⟨ks,hk⟩ _ _ _ h2];exact this
structure Cok (l:List Sg) (s:Lc):Prop where
 lok:Lok l s.1 s.2.1
 ps:s.2.2.2=true→∀ p∈s.2.2.1,inP s.1 p∧okP l s.1 p
theorem Cok.step {l:List Sg} {s:Lc} (h:Cok l s) {c:Cn} (h1:0<c.l.length) (h2:0<c.r.length):Cok l (stepC l s c)∧(∃ ks,(stepC l s c).1.keys=s.1.keys++ks):=by
 unfold stepC
 by_cases hb:s.2.2.2=false
 ·rw [if_pos hb];exact ⟨h,⟨[],by simp⟩⟩
 rw [if_neg hb]
 simp only
 have bad:Cok l ((s.1,s.2.1,[],false):Lc):=⟨h.lok,fun hh=>by cases hh⟩
 by_cases hp:(loadR l s.1 s.2.1 c.l 400).2.2.2≠0∨(loadR l (loadR l s.1 s.2.1 c.l 400).1 (loadR l s.1 s.2.1 c.l 400).2.1 c.r 400).2.2.2≠0
 ·rw [if_pos hp];exact ⟨bad,⟨[],by simp⟩⟩
 rw [if_neg hp]
 obtain ⟨a1,⟨k1,a2⟩,a3,a4⟩:=h.lok.load h1 (by omega)
 obtain ⟨b1,⟨k2,b2⟩,b3,b4⟩:=a1.load h2 (by omega)
 generalize loadR l s.1 s.2.1 c.l 400=p at *
 generalize loadR l p.1 p.2.1 c.r 400=q at *
 by_cases hs:sided l q.1 p.2.2.1 76=false∨sided l q.1 q.2.2.1 82=false
 ·rw [if_pos hs];exact ⟨bad,⟨[],by simp⟩⟩
 rw [if_neg hs]
 have hpre:q.1.keys=s.1.keys++(k1++k2):=by rw [b2,a2,List.append_assoc]
 refine ⟨⟨b1,fun _ r hr=>?_⟩,⟨_,hpre⟩⟩
 rw [List.mem_append,List.mem_singleton] at hr
 rcases hr with hr|rfl
 ·have:=h.ps (by simpa using hb) r hr
  exact okP_ext h.lok.fine ⟨_,hpre⟩ this.1 this.2
 ·have h76:sided l q.1 p.2.2.1 76=true:=by simpa using fun e=>hs (.inl e)
  have h82:sided l q.1 q.2.2.1 82=true:=by simpa using fun e=>hs (.inr e)
  simp only [sided,nside,Bool.and_eq_true] at h76 h82
  exact ⟨⟨⟨a3,by show p.2.2.1<(q.1.keys.length:Int);rw [b2,List.length_append];omega⟩,b3,b4⟩,by simpa using h76.2,by simpa using h82.2⟩
theorem Cok.all {l:List Sg}:∀ (cs:List Cn) {s:Lc},Cok l s→(∀ c∈cs,0<c.l.length∧0<c.r.length)→Cok l (cs.foldl (stepC l) s)∧(∃ ks,(cs.foldl (stepC l) s).1.keys=s.1.keys++ks)
 | [],s,h,_=>⟨h,⟨[],by simp⟩⟩
 | c::cs,s,h,hc=>by
  obtain ⟨h1,⟨k1,h2⟩⟩:=h.step (hc c (by simp)).1 (hc c (by simp)).2
  obtain ⟨h3,⟨k2,h4⟩⟩:=Cok.all cs h1 (fun d hd=>hc d (by simp [hd]))
  exact ⟨h3,⟨k1++k2,by rw [List.foldl_cons,h4,h2,List.append_assoc]⟩⟩
theorem cok_new {l:List Sg} (hr:sigRight l=true):Cok l (newK,[],[],true):=⟨lok_new hr,fun _ p hp=>by simp at hp⟩
theorem Lok.vok {l:List Sg} {b:Kd} {own:List ByteArray} (h:Lok l b own):Vok b own.length:=by
 have hat:∀ i:Nat,i<b.keys.length→fstAt (fun x=>decide (x=gi b.keys i)) b.keys=i:=fun i hi=>by
  have:=h.hash
  unfold hashRight at this
  simp only [Bool.and_eq_true,decide_eq_true_eq] at this
  exact this.1 i hi
 have hterm:∀ (i n:Nat),i<b.keys.length→gi b.keys (i:Int)=[2,(n:Int),0]→termAt b i=(⟨2,n,0,[]⟩,true):=fun i n hi hk=>by
  rw [termAt_key hi,hk]
  simp [termOf,gi]
 refine ⟨fun x hk=>?_,fun n hn=>?_⟩
 ·have hr:=termAt_range (kind_is (a:=b) (x:=x) (by omega))
  obtain ⟨i,rfl⟩:∃ i:Nat,x=i:=⟨x.toNat,by omega⟩
  have hi:i<b.keys.length:=by omega
  obtain ⟨n,n1,n2⟩:=h.vk i hi hk
  rw [hterm i n hi n2]
  refine ⟨⟨Int.natCast_nonneg n,by show (n:Int)<_;omega⟩,?_⟩
  unfold atV
  simp only
  rw [←n2]
  exact hat i hi
 ·obtain ⟨m,rfl⟩:∃ m:Nat,n=m:=⟨n.toNat,by omega⟩
  obtain ⟨j,j1,j2⟩:=mem_gi.1 (h.vo m (by omega))
  have ha:atV b (m:Int)=j:=by
   unfold atV
   rw [←j2]
   exact hat j j1
  rw [ha,hterm j m j1 j2]
  exact ⟨rfl,rfl⟩
theorem manyA_ub {N:Int}:∀ (ks:List (List Int)) {m:Int},m≤N→(∀ k∈ks,gi k 0=2→gi k 1<N)→manyA ks m≤N
 | [],_,h,_=>h
 | k::ks,m,h,hk=>by
  show manyA ks (if gi k 0=2∧gi k 1≥m then gi k 1+1 else m)≤N
  refine manyA_ub ks ?_ (fun q hq=>hk q (by simp [hq]))
  split
  ·rename_i hh
   have:=hk k (by simp) hh.1
   omega
  ·exact h
theorem manyA_lb:∀ (ks:List (List Int)) (m:Int),m≤manyA ks m
 | [],m=>Int.le_refl _
 | k::ks,m=>by
  show m≤manyA ks (if gi k 0=2∧gi k 1≥m then gi k 1+1 else m)
  refine Int.le_trans ?_ (manyA_lb ks _)
  split<;>omega
theorem manyA_has:∀ (ks:List (List Int)) (m:Int) {k:List Int},k∈ks→gi k 0=2→gi k 1<manyA ks m
 | q::ks,m,k,h,h2=>by
  show gi k 1<manyA ks (if gi q 0=2∧gi q 1≥m then gi q 1+1 else m)
  rcases List.mem_cons.1 h with rfl|h
  ·refine Int.lt_of_lt_of_le ?_ (manyA_lb ks _)
   split
   ·omega
   ·rename_i hh
    have:¬ gi k 1≥m:=fun e=>hh ⟨h2,e⟩
    omega
  ·exact manyA_has ks _ h h2
theorem Lok.many {l:List Sg} {b:Kd} {own:List ByteArray} (h:Lok l b own):manyA b.keys 0=own.length:=by
 have hub:manyA b.keys 0≤own.length:=manyA_ub _ (by omega) fun k hk h2=>by
  obtain ⟨i,i1,i2⟩:=mem_gi.1 hk
  have hkk:=key_kind h.fine (x:=(i:Int)) (by omega)
  obtain ⟨n,n1,n2⟩:=h.vk i i1 (by rw [←hkk.2,i2];exact h2)
  rw [←i2,n2]
  simp [gi]
  omega
 by_cases h0:own.length=0
 ·have:=manyA_lb b.keys 0
  omega
 ·have:=manyA_has b.keys 0 (h.vo (own.length - 1) (by omega)) rfl
  simp [gi] at this
  omega
theorem Lok.names {l:List Sg} {b:Kd} {own:List ByteArray} (h:Lok l b own):own.length≤400:=by
 have hv:=h.vok
 have h1:((List.range own.length).map fun n:Nat=>(atV b n).toNat).Nodup:=by
  refine nodup_map List.nodup_range ?_
  intro x hx y hy e
  rw [List.mem_range] at hx hy
  have a1:=termAt_range (kind_is (a:=b) (x:=atV b x) (by rw [(hv.num x (by omega)).1];decide))
  have a2:=termAt_range (kind_is (a:=b) (x:=atV b y) (by rw [(hv.num y (by omega)).1];decide))
  have:=atV_inj hv (m:=x) (n:=y) (by omega) (by omega) (by omega)
  omega
 have h2:=pigeon b.keys.length _ h1 (fun m hm=>by
  obtain ⟨n,hn,rfl⟩:=List.mem_map.1 hm
  rw [List.mem_range] at hn
  have a1:=termAt_range (kind_is (a:=b) (x:=atV b n) (by rw [(hv.num n (by omega)).1];decide))
  omega)
 have:=h.few
 simp at h2
 omega
theorem moreN_v (rk:List Int):∀ k:Nat,(moreN (gr0 rk) k).u.v=(List.range k).map fun n:Nat=>(n:Int)
 | 0=>rfl
 | k+1=>by
  have ih:=moreN_v rk k
  show (moreN (gr0 rk) k).u.v++[((moreN (gr0 rk) k).u.v.length:Int)]=_
  rw [ih,List.range_succ,List.map_append]
  simp
theorem withS_eq (l:List Sg) (rk:List Int) (dep:Int) (b:Kd) (n:Nat) (hm:manyA b.keys 0=n):withS (newS l rk dep) b=⟨l,b,moreN (gr0 rk) n,newW,[],0,dep⟩:=by
 unfold withS newS moreG
 simp only
 have e0:(([]:List Int).length:Int)=0:=rfl
 rw [e0,hm]
 rfl
theorem gok0 {l:List Sg} {b:Kd} (rk:List Int) (n:Nat):Gok l b n (moreN (gr0 rk) n):=by
 obtain ⟨f1,f2,f3,f4,f5⟩:=moreN_0 rk n
 have hv:=moreN_v rk n
 have hgi:∀ k:Int,0≤k∧k<n→gi (moreN (gr0 rk) n).u.v k=k:=fun k hk=>by
  rw [hv,gi_map_range hk];omega
 have hrep:∀ k:Int,gi (List.replicate n ([]:List Int)) k=[]:=fun k=>by
  rcases gi_cases (List.replicate n ([]:List Int)) k with ⟨j,hj,e⟩|e
  ·rw [e]
   obtain ⟨m,rfl⟩:∃ m:Nat,j=m:=⟨j.toNat,by omega⟩
   exact List.eq_of_mem_replicate (gi_memG (by omega))
  ·exact e
 refine ⟨f2,by rw [f4];simp,by rw [f5];simp,fun i hi=>?_,fun k hk z hz=>?_,fun k hk z hz=>?_,fun k hk=>?_,fun k hk=>?_,?_⟩
 ·rw [f2] at hi ⊢
  rw [hgi i (by omega)]
  exact ⟨by omega,.inl rfl⟩
 ·rw [f4,hrep] at hz;simp at hz
 ·rw [f5,hrep] at hz;simp at hz
 ·rw [f4,hrep];exact .nil
 ·rw [f5,hrep];exact .nil
 ·have:=List.countP_le_length (p:=fun k:Nat=>decide (gi (moreN (gr0 rk) n).u.v k=k)) (l:=List.range n)
  rw [List.length_range] at this
  omega
theorem Lok.start {l:List Sg} {b:Kd} {own:List ByteArray} (h:Lok l b own) (first:Int×Int→Prop) (rk:List Int) {dep:Int} (hd:0≤dep∧dep≤50):SInv first own.length [] (withS (newS l rk dep) b):=by
 rw [withS_eq l rk dep b own.length h.many]
 have hv:=h.vok
 have hg:=gok0 (l:=l) (b:=b) rk own.length
 have hvv:=moreN_v rk own.length
 obtain ⟨f1,f2,f3,f4,f5⟩:=moreN_0 rk own.length
 have hrep0:∀ k:Int,gi (List.replicate own.length ([]:List Int)) k=[]:=fun k=>by
  rcases gi_cases (List.replicate own.length ([]:List Int)) k with ⟨j,hj,e⟩|e
  ·rw [e]
   obtain ⟨m,rfl⟩:∃ m:Nat,j=m:=⟨j.toNat,by omega⟩
   exact List.eq_of_mem_replicate (gi_memG (by omega))
  ·exact e
 have hrep:∀ x,repG b (moreN (gr0 rk) own.length) x=x:=fun x=>by
  by_cases hk:(termAt b x).1.kind=2
  ·have hs:=(hv.sym x hk)
   rw [repG_var hv hg.lv hk,fnd_of (by rw [hvv,gi_map_range hs.1];omega),hs.2]
  ·exact repG_not hk
 have hpre:∀ v z,¬ (ghOf b (moreN (gr0 rk) own.length)).pre v z:=fun v z ⟨k,_,_,hz⟩=>by
  rw [f4,hrep0] at hz;simp at hz
 have hsuc:∀ v z,¬ (ghOf b (moreN (gr0 rk) own.length)).suc v z:=fun v z ⟨k,_,_,hz⟩=>by
  rw [f5,hrep0] at hz;simp at hz
 have hS:∀ p,¬ seenP ⟨l,b,moreN (gr0 rk) own.length,newW,[],0,dep⟩ p:=fun p hp=>by
  simp [seenP,newW] at hp
 refine { fine:=h.fine,few:=h.few,vok:=hv,gok:=hg,hseen:=by kernel_rfl,keys:=fun k hk=>by simp [newW] at hk,nd:=by simp [newW],inv:=?_,rise:=.nil,cl:=fun p=>⟨fun hp=>by simp at hp,fun hp=>absurd hp.1 (hS p)⟩,cnt:=rfl,dep:=hd }
 exact { rnv:=fun x _=>hrep x,rv:=fun x hk=>by show (termAt b (repG b _ x)).1.kind=2;rw [hrep];exact hk,idem:=fun x=>by show repG b (moreN (gr0 rk) own.length) (repG b (moreN (gr0 rk) own.length) x)=repG b (moreN (gr0 rk) own.length) x;rw [hrep,hrep],pk:=fun v z hz=>absurd hz (hpre v z),sk:=fun v z hz=>absurd hz (hsuc v z),QS:=fun p hp=>by simp [newW] at hp,I1:=fun x y hp=>absurd hp (hS _),I2:=fun v z t hz=>absurd hz (hpre v z),I3:=fun x y u v hp=>absurd hp (hS _),side:=fun x y hp=>absurd hp (hS _),inr:=fun x y hp=>absurd hp (hS _),seen:=fun x y hp=>absurd hp (hS _),cp:=fun v z hz=>absurd hz (hpre v z),cs:=fun v z hz=>absurd hz (hsuc v z),crep:=fun x _=>.inl (hrep x).symm,pl:=fun v z hz=>absurd hz (hpre v z),sl:=fun v z hz=>absurd hz (hsuc v z) }
theorem Lok.made {l:List Sg} {b:Kd} {own:List ByteArray} (h:Lok l b own) (rk:List Int) {dep:Int} (hd:0≤dep∧dep≤50) {ps:List (Int×Int)} (hps:∀ p∈ps,inP b p∧okP l b p):SInv (fun p=>p∈ps) own.length [] (madeS l rk dep b ps)∧∀ p∈ps,seenP (madeS l rk dep b ps) p:=by
 have h0:=h.start (fun p=>p∈ps) rk hd
 have e:=withS_eq l rk dep b own.length h.many
 obtain ⟨h1,h2⟩:=h0.puts ps (fun p hp=>by
  refine ⟨.base hp,?_,?_⟩
  ·have:(withS (newS l rk dep) b).a=b:=by rw [e]
   rw [this];exact (hps p hp).1
  ·have e1:(withS (newS l rk dep) b).a=b:=by rw [e]
   have e2:(withS (newS l rk dep) b).sigs=l:=by rw [e]
   rw [e1,e2];exact (hps p hp).2)
 exact ⟨h1,fun p hp=>(h2 p).2 (.inr hp)⟩
theorem c28_ok:cFn Tryz.prog an0 Tryz.f28=some c28:=by kernel_rfl
theorem c31_ok:cFn Tryz.prog an0 Tryz.f31=some c31:=by kernel_rfl
theorem c12_ok:cFn Tryz.prog an0 Tryz.f12=some c12:=by kernel_rfl
theorem stepC_stuck {l:List Sg}:∀ (cs:List Cn) {s:Lc},s.2.2.2=false→cs.foldl (stepC l) s=s
 | [],_,_=>rfl
 | c::cs,s,h=>by
  have:stepC l s c=s:=by unfold stepC;rw [if_pos h]
  rw [List.foldl_cons,this]
  exact stepC_stuck cs h
theorem rlb_cz {n g:Nat} {c:Cz}:RLB n (.cells g c.cs):=by
 intro y hy
 simp only [List.mem_cons,List.not_mem_nil,or_false] at hy
 rcases hy with rfl|rfl|rfl|rfl
 ·simp
 ·refine .rows _ _ _ fun x hx y hy=>?_
  obtain ⟨d,_,rfl⟩:=List.mem_map.1 hx
  simp only [List.mem_cons,List.not_mem_nil,or_false] at hy
  rcases hy with rfl|rfl<;>simp
 ·simp
 ·simp
theorem cz_RL (c:Cz):∀ x∈[AV.agg c.cs],RL 0 x:=fun x hx=>by
 simp only [List.mem_cons,List.not_mem_nil,or_false] at hx
 subst hx
 exact .agg _ fun y hy=>rlb_cz (g:=0) (c:=c) y hy
theorem Rle_lc {a:Kd} {names:List ByteArray} {H:AHeap} {i q n:Nat} {L:List (Int×Int)} {b:Bool} (h:H[i]?=some (.cells q (fl prc L))) (hn:n=L.length):Rle 9 (.tuple [.agg a.cs,strs names,prs L,.bool b]) (.tuple [.agg a.cs,strs names,.loc i q 0 n 2 false,.bool b]) H:=by
 unfold Rle
 rw [frz_tuple]
 simp only [List.map_cons,List.map_nil]
 rw [frzP (k:=6) _ h hn,show frz true H 8 (.agg a.cs)=.agg a.cs by simp,show frz true H 8 (strs names)=strs names by simp,show frz true H 8 (.bool b)=.bool b from rfl]
 exact leP_refl _ _
set_option maxHeartbeats 2000000 in
theorem load28_PF (c:Cz) (hr:sigRight c.sigs=true) (h12:c.l.length≤12) (hR:∀ i:Nat,i<c.l.length→(rightN (gi c.l i).l=true∧(gi c.l i).l.length≤100)∧rightN (gi c.l i).r=true∧(gi c.l i).r.length≤100) :
  PF Tryz.prog 28 [.agg c.cs] (.tuple [.agg (loadC c.sigs c.l).1.cs,strs (loadC c.sigs c.l).2.1,prs (loadC c.sigs c.l).2.2.1,.bool (loadC c.sigs c.l).2.2.2]):=by
 refine PFk 9 hm Tryz.func28 c28_ok (Nat.le_of_ble_eq_true rfl) (cz_RL c) (by simp) ?_
 generalize hQ:Rle 9 (.tuple [.agg (loadC c.sigs c.l).1.cs,strs (loadC c.sigs c.l).2.1,prs (loadC c.sigs c.l).2.2.1,.bool (loadC c.sigs c.l).2.2.2])=Q
 have hlc:loadC c.sigs c.l=c.l.foldl (stepC c.sigs) (newK,[],[],true):=rfl
 rw [hlc] at hQ
 have hok:∀ i,i≤c.l.length→Cok c.sigs ((c.l.take i).foldl (stepC c.sigs) (newK,[],[],true)):=fun i hi =>
  (Cok.all (c.l.take i) (cok_new hr) (fun d hd=>by
   obtain ⟨j,j1,j2⟩:=mem_gi.1 (List.mem_of_mem_take hd)
   have:=hR j j1
   rw [j2] at this
   exact ⟨(rightN_spec this.1.1).2.2.2,(rightN_spec this.2.1).2.2.2⟩)).1
 have hpl:∀ i,i≤c.l.length→((c.l.take i).foldl (stepC c.sigs) (newK,[],[],true)).2.2.1.length≤i:=by
  intro i
  induction i with
  | zero=>intro _;simp
  | succ i ih =>
   intro hi
   have:=ih (by omega)
   rw [foldl_take _ _ _ _ (by omega)]
   generalize (c.l.take i).foldl (stepC c.sigs) (newK,[],[],true)=s at *
   unfold stepC
   split
   ·omega
   ·simp only
    split
    ·simp
    ·split
     ·simp
     ·simp;omega
 simp (maxSteps:=3000000) [go_sem,-List.length_flatten,-List.map_drop,-List.map_take,c28]
 refine PF.call rnew_PF 9 (by simp [lePs,-List.length_flatten,-List.map_drop,-List.map_take,Function.comp_def,len_flat]) ?_
 simp (maxSteps:=3000000) [go_sem,-List.length_flatten,-List.map_drop,-List.map_take,Kc]
 refine run_loopK (fun m T H=>∃ (i q:Nat) (s:Lc),m=c.l.length - i∧i≤c.l.length∧(c.l.take i).foldl (stepC c.sigs) (newK,[],[],true)=s∧s.2.2.2=true∧T=[(9,i64 i),(8,.loc 3 q 0 s.2.2.1.length 2 false),(7,strs s.2.1),(6,.ptr 2 0 0),(1,.ptr 0 0 0),(2,.ptr 1 0 0)]∧H=[.cells 0 c.cs,.cells 0 [.nilS,.nilS],.cells 0 s.1.cs,.cells q (fl prc s.2.2.1)])
  c.l.length [(9,i64 0),(8,.loc 3 0 0 0 2 false),(7,strs []),(6,.ptr 2 0 0),(1,.ptr 0 0 0),(2,.ptr 1 0 0)] [.cells 0 c.cs,.cells 0 [.nilS,.nilS],.cells 0 newK.cs,.cells 0 []]
  (((Wk.nil 8 2 (by simp [Tm.get])).trans (Wk.tell (T':=[(9,i64 0),(8,.loc 3 0 0 0 2 false),(7,.nilS),(6,.ptr 2 0 0),(1,.ptr 0 0 0),(2,.ptr 1 0 0)]) (H':=[.cells 0 c.cs,.cells 0 [.nilS,.nilS],.cells 0 newK.cs,.cells 0 []]) 4 (by omega) (by simp [Tm.get]) (by simp) (by simp) ⟨rlb_cz,rlb_nil2,rlb_kd,by simp [RLB],trivial⟩)).trans (Wk.leT 9 (by simp [Tm.get,leP]))) ⟨0,0,_,rfl,Nat.zero_le _,rfl,rfl,rfl,rfl⟩ ?_
 rintro m T H ⟨i,q,s,rfl,hi,hs,hst,rfl,rfl⟩ KK kx kr kn
 have hok1:=hok i hi
 have hpl1:=hpl i hi
 rw [hs] at hok1 hpl1
 by_cases h:i<c.l.length
 ·have hRi:=hR i h
  have hnx:(c.l.take (i+1)).foldl (stepC c.sigs) (newK,[],[],true)=stepC c.sigs s (gi c.l i):=by
   rw [foldl_take _ _ _ _ h,hs]
  have hfin:(stepC c.sigs s (gi c.l i)).2.2.2=false→c.l.foldl (stepC c.sigs) (newK,[],[],true)=stepC c.sigs s (gi c.l i):=fun hb=>by
   have e:c.l=c.l.take (i+1)++c.l.drop (i+1):=(List.take_append_drop _ _).symm
   conv=>lhs;rw [e]
   rw [List.foldl_append,hnx,stepC_stuck _ hb]
  have hsig:stepC c.sigs s (gi c.l i)=if (loadR c.sigs s.1 s.2.1 (gi c.l i).l 400).2.2.2≠0∨(loadR c.sigs (loadR c.sigs s.1 s.2.1 (gi c.l i).l 400).1 (loadR c.sigs s.1 s.2.1 (gi c.l i).l 400).2.1 (gi c.l i).r 400).2.2.2≠0 then (s.1,s.2.1,[],false) else if sided c.sigs (loadR c.sigs (loadR c.sigs s.1 s.2.1 (gi c.l i).l 400).1 (loadR c.sigs s.1 s.2.1 (gi c.l i).l 400).2.1 (gi c.l i).r 400).1 (loadR c.sigs s.1 s.2.1 (gi c.l i).l 400).2.2.1 76=false∨sided c.sigs (loadR c.sigs (loadR c.sigs s.1 s.2.1 (gi c.l i).l 400).1 (loadR c.sigs s.1 s.2.1 (gi c.l i).l 400).2.1 (gi c.l i).r 400).1 (loadR c.sigs (loadR c.sigs s.1 s.2.1 (gi c.l i).l 400).1 (loadR c.sigs s.1 s.2.1 (gi c.l i).l 400).2.1 (gi c.l i).r 400).2.2.1 82=false then (s.1,s.2.1,[],false) else ((loadR c.sigs (loadR c.sigs s.1 s.2.1 (gi c.l i).l 400).1 (loadR c.sigs s.1 s.2.1 (gi c.l i).l 400).2.1 (gi c.l i).r 400).1,(loadR c.sigs (loadR c.sigs s.1 s.2.1 (gi c.l i).l 400).1 (loadR c.sigs s.1 s.2.1 (gi c.l i).l 400).2.1 (gi c.l i).r 400).2.1,s.2.2.1++[((loadR c.sigs s.1 s.2.1 (gi c.l i).l 400).2.2.1,(loadR c.sigs (loadR c.sigs s.1 s.2.1 (gi c.l i).l 400).1 (loadR c.sigs s.1 s.2.1 (gi c.l i).l 400).2.1 (gi c.l i).r 400).2.2.1)],true):=by
   conv=>lhs;unfold stepC;rw [if_neg (by rw [hst];simp)]
  have hfew:=hok1.lok.few
  have hnm:=hok1.lok.names
  have hl1:=load47_PF (l:=c.sigs) (a:=s.1) hRi.1.1 (by omega) s.2.1 (by omega) 400
  have hk1:(loadR c.sigs s.1 s.2.1 (gi c.l i).l 400).1.keys.length≤400∧(loadR c.sigs s.1 s.2.1 (gi c.l i).l 400).2.1.length≤400:=by
   by_cases hb:(loadR c.sigs s.1 s.2.1 (gi c.l i).l 400).2.2.2=0
   ·have:=(hok1.lok.load (rightN_spec hRi.1.1).2.2.2 hb).1
    exact ⟨this.few,this.names⟩
   ·have:loadR c.sigs s.1 s.2.1 (gi c.l i).l 400=(s.1,s.2.1,0,(loadR c.sigs s.1 s.2.1 (gi c.l i).l 400).2.2.2):=by
     unfold loadR at hb ⊢
     split
     ·rename_i h0;rw [if_pos h0] at hb;exact absurd rfl hb
     ·rfl
    rw [this]
    exact ⟨hfew,hnm⟩
  have hload1:=fun hb=>hok1.lok.load (rightN_spec hRi.1.1).2.2.2 hb
  generalize loadR c.sigs s.1 s.2.1 (gi c.l i).l 400=p at *
  have hl2:=load47_PF (l:=c.sigs) (a:=p.1) hRi.2.1 (by omega) p.2.1 (by omega) 400
  have hload2:=fun hb hb2=>((hload1 hb).1.load (e:=(gi c.l i).r) (rightN_spec hRi.2.1).2.2.2 hb2).1.fine
  generalize loadR c.sigs p.1 p.2.1 (gi c.l i).r 400=r at *
  simp (maxSteps:=3000000) [go_sem,-List.length_flatten,-List.map_drop,-List.map_take,h]
  intros
  refine ⟨_,hl1,?_⟩
  simp (maxSteps:=3000000) [go_sem,-List.length_flatten,-List.map_drop,-List.map_take,Kc,h]
  refine ⟨_,hl2,?_⟩
  by_cases b1:p.2.2.2=0
  ·by_cases b2:r.2.2.2=0
   ·rw [if_neg (by omega)] at hsig
    have hF:=hload2 b1 b2
    have hs1:=rsided_PF hF p.2.2.1 76
    have hs2:=rsided_PF hF r.2.2.1 82
    simp (maxSteps:=3000000) [go_sem,-List.length_flatten,-List.map_drop,-List.map_take,Kc,b1,b2]
    refine PF.call hs1 9 (by simp [lePs,-List.length_flatten,-List.map_drop,-List.map_take,Function.comp_def,len_flat]) ?_
    generalize sided c.sigs r.1 p.2.2.1 76=t1 at *
    generalize sided c.sigs r.1 r.2.2.1 82=t2 at *
    cases t1 with
    | false =>
     rw [if_pos (.inl rfl)] at hsig
     rw [hsig] at hfin
     rw [hfin rfl] at hQ
     simp (maxSteps:=3000000) [go_sem,-List.length_flatten,-List.map_drop,-List.map_take,Kc,kr]
     rw [←hQ]
     simp (maxSteps:=3000000) [go_sem,-List.length_flatten,-List.map_drop,-List.map_take]
    | true =>
     simp (maxSteps:=3000000) [go_sem,-List.length_flatten,-List.map_drop,-List.map_take,Kc]
     refine PF.call hs2 9 (by simp [lePs,-List.length_flatten,-List.map_drop,-List.map_take,Function.comp_def,len_flat]) ?_
     cases t2 with
     | false =>
      rw [if_pos (.inr rfl)] at hsig
      rw [hsig] at hfin
      rw [hfin rfl] at hQ
      simp (maxSteps:=3000000) [go_sem,-List.length_flatten,-List.map_drop,-List.map_take,Kc,kr]
      rw [←hQ]
      simp (maxSteps:=3000000) [go_sem,-List.length_flatten,-List.map_drop,-List.map_take]
     | true =>
      rw [if_neg (by simp)] at hsig
      rw [hsig] at hnx
      have hap:=fl_appP s.2.2.1 p.2.2.1 r.2.2.1
      have hfl2:=fl_len (f:=prc) (sz:=2) pr2 s.2.2.1
      have hA:s.2.2.1.length+1≤maxA:=by unfold maxA;omega
      simp (maxSteps:=3000000) [go_sem,-List.length_flatten,-List.map_drop,-List.map_take,Kc,hA,hfl2,↓hap]
      intros
      have hwi:IntKind.i64.wrap ((i:Int)+1)=((i+1:Nat):Int):=by rw [w64 (by omega) (by omega)];omega
      refine kn _ _ (Kl_next (c.l.length - (i+1)) 4 (by omega) ⟨i+1,q+1,_,rfl,by omega,hnx,rfl,rfl,rfl⟩ (by simp [Tm.get,hwi]) (by simp) (by simp) ⟨rlb_cz,rlb_nil2,rlb_kd,rlb_fl,trivial⟩ (by omega))
   ·rw [if_pos (.inr b2)] at hsig
    rw [hsig] at hfin
    rw [hfin rfl] at hQ
    simp (maxSteps:=3000000) [go_sem,-List.length_flatten,-List.map_drop,-List.map_take,Kc,b1,b2,kr]
    rw [←hQ]
    simp (maxSteps:=3000000) [go_sem,-List.length_flatten,-List.map_drop,-List.map_take]
  ·rw [if_pos (.inl b1)] at hsig
   rw [hsig] at hfin
   rw [hfin rfl] at hQ
   simp (maxSteps:=3000000) [go_sem,-List.length_flatten,-List.map_drop,-List.map_take,Kc,b1,kr]
   rw [←hQ]
   simp (maxSteps:=3000000) [go_sem,-List.length_flatten,-List.map_drop,-List.map_take]
 ·have:i=c.l.length:=by omega
  subst this
  rw [List.take_length] at hs
  rw [hs,hst] at hQ
  simp (maxSteps:=3000000) [go_sem,-List.length_flatten,-List.map_drop,-List.map_take,kx]
  intros
  rw [←hQ]
  exact Rle_lc rfl rfl
def nodesN (cs:List Cn) (i:Nat):Nat:=((cs.take i).map fun c=>c.l.length+c.r.length).sum
def consC (cs:List Cn) (i:Nat):Prop:=nodesN cs (i+1)≤100∧ndFew (gi cs i).l=true∧ndFew (gi cs i).r=true∧rightN (gi cs i).l=true∧rightN (gi cs i).r=true
structure SmallC (c:Cz):Prop where
 s64:c.sigs.length≤64
 sr:sigRight c.sigs=true
 l12:c.l.length≤12
 r60:c.ranks.length≤60
 dep:0≤c.depth∧c.depth≤50
 cons:∀ i:Nat,i<c.l.length→consC c.l i
theorem nodesN_succ {cs:List Cn} {i:Nat} (h:i<cs.length):nodesN cs (i+1)=nodesN cs i+((gi cs i).l.length+(gi cs i).r.length):=by
 unfold nodesN
 rw [List.take_succ_eq_append_getElem h,List.map_append,List.sum_append]
 simp [gi,List.getD,h]
structure FitC (c:Cz):Prop where
 sg:∀ i:Nat,i<c.sigs.length→(gi c.sigs i).args.size≤maxA
 nd:∀ i:Nat,i<c.l.length→((gi c.l i).l.length≤1048576∧(gi c.l i).r.length≤1048576)∧(∀ j:Nat,j<(gi c.l i).l.length→(gi (gi c.l i).l j).name.size≤maxA)∧∀ j:Nat,j<(gi c.l i).r.length→(gi (gi c.l i).r j).name.size≤maxA
open Classical in
noncomputable def smallB (c:Cz):Bool:=decide (SmallC c)
theorem smallB_no {c:Cz} (h:¬ SmallC c):smallB c=false:=by classical exact (by unfold smallB;simpa using h)
theorem smallB_yes {c:Cz} (h:SmallC c):smallB c=true:=by classical exact (by unfold smallB;simpa using h)
set_option maxHeartbeats 2000000 in
theorem small31_PF (c:Cz) (hf:FitC c):PF Tryz.prog 31 [.agg c.cs] (.bool (smallB c)):=by
 refine PFk 9 hm Tryz.func31 c31_ok (Nat.le_of_ble_eq_true rfl) (cz_RL c) (by simp) ?_
 generalize hQ:Rle 9 (.bool (smallB c))=Q
 have fin:∀ b H,b=smallB c→Q (.bool b) H:=fun b H e=>by
  rw [←hQ,e]
  simp [Rle,frz,leP]
 have no:∀ H,¬ SmallC c→Q (.bool false) H:=fun H h=>fin _ _ (smallB_no h).symm
 by_cases h1:(64:Int)<c.sigs.length
 ·simp (maxSteps:=3000000) [go_sem,-List.length_flatten,-List.map_drop,-List.map_take,c31,h1]
  intros
  exact no _ fun h=>by have:=h.s64;omega
 cases h2:sigRight c.sigs with
 | false =>
  have hsr:=sigRight_PF c.sigs hf.sg
  rw [h2] at hsr
  simp (maxSteps:=3000000) [go_sem,-List.length_flatten,-List.map_drop,-List.map_take,c31,h1]
  intros
  refine PF.call hsr 9 (by simp [lePs,-List.length_flatten,-List.map_drop,-List.map_take,Function.comp_def,len_flat]) ?_
  simp (maxSteps:=3000000) [go_sem,-List.length_flatten,-List.map_drop,-List.map_take,Kc]
  intros
  exact no _ fun h=>by have:=h.sr;rw [h2] at this;cases this
 | true =>
  have hsr:=sigRight_PF c.sigs hf.sg
  rw [h2] at hsr
  simp (maxSteps:=3000000) [go_sem,-List.length_flatten,-List.map_drop,-List.map_take,c31,h1]
  intros
  refine PF.call hsr 9 (by simp [lePs,-List.length_flatten,-List.map_drop,-List.map_take,Function.comp_def,len_flat]) ?_
  by_cases h3:(12:Int)<c.l.length
  ·simp (maxSteps:=3000000) [go_sem,-List.length_flatten,-List.map_drop,-List.map_take,Kc,h3]
   intros
   exact no _ fun h=>by have:=h.l12;omega
  by_cases h4:(60:Int)<c.ranks.length
  ·simp (maxSteps:=3000000) [go_sem,-List.length_flatten,-List.map_drop,-List.map_take,Kc,h3,h4]
   intros
   exact no _ fun h=>by have:=h.r60;omega
  by_cases h5:c.depth<0
  ·simp (maxSteps:=3000000) [go_sem,-List.length_flatten,-List.map_drop,-List.map_take,Kc,h3,h4,h5]
   intros
   exact no _ fun h=>by have:=h.dep;omega
  by_cases h6:(50:Int)<c.depth
  ·simp (maxSteps:=3000000) [go_sem,-List.length_flatten,-List.map_drop,-List.map_take,Kc,h3,h4,h5,h6]
   intros
   exact no _ fun h=>by have:=h.dep;omega
  simp (maxSteps:=3000000) [go_sem,-List.length_flatten,-List.map_drop,-List.map_take,Kc,h3,h4,h5,h6]
  intros
  refine run_loopK (fun m T H=>∃ i:Nat,m=c.l.length - i∧i≤c.l.length∧(∀ j:Nat,j<i→consC c.l j)∧nodesN c.l i≤100∧T=[(4,i64 i),(3,i64 (nodesN c.l i)),(1,.ptr 0 0 0)]∧H=[.cells 0 c.cs])
   c.l.length [(4,i64 0),(3,i64 0),(1,.ptr 0 0 0)] [.cells 0 c.cs] (Wk.tell 1 (by omega) (by simp [Tm.get]) (by simp) (by simp) ⟨rlb_cz,trivial⟩) ⟨0,rfl,Nat.zero_le _,fun j hj=>by omega,by simp [nodesN],by simp [nodesN],rfl⟩ ?_
  rintro m T H ⟨i,rfl,hi,hc,hn,rfl,rfl⟩ KK kx kr kn
  by_cases h:i<c.l.length
  ·have hns:=nodesN_succ h
   obtain ⟨⟨f1,f2⟩,f3,f4⟩:=hf.nd i h
   have hal:(gi c.l i).l.length≤maxA:=by unfold maxA;omega
   have har:(gi c.l i).r.length≤maxA:=by unfold maxA;omega
   have hw1:IntKind.i64.wrap ((nodesN c.l i:Int)+(gi c.l i).l.length)=((nodesN c.l i+(gi c.l i).l.length:Nat):Int):=by rw [w64 (by omega) (by omega)];omega
   obtain ⟨N1,hN1⟩:∃ N1,N1=nodesN c.l i+(gi c.l i).l.length:=⟨_,rfl⟩
   rw [←hN1] at hw1
   have hw2:IntKind.i64.wrap ((N1:Int)+(gi c.l i).r.length)=(nodesN c.l (i+1):Int):=by rw [w64 (by omega) (by omega)];omega
   have hno:∀ H,¬ consC c.l i→Q (.bool false) H:=fun H hh=>no _ fun q=>hh (q.cons i h)
   have p1:=ndFew_PF (gi c.l i).l hal f3
   have p2:=ndFew_PF (gi c.l i).r har f4
   have p3:=right19_PF (gi c.l i).l f1
   have p4:=right19_PF (gi c.l i).r f2
   have hyes:consC c.l i→∀ j:Nat,j<i+1→consC c.l j:=fun hh j hj=>by
    rcases Nat.lt_or_ge j i with q|q
    ·exact hc j q
    ·have:j=i:=by omega
     subst this
     exact hh
   by_cases hb:(100:Int)<nodesN c.l (i+1)
   ·simp (maxSteps:=3000000) [go_sem,-List.length_flatten,-List.map_drop,-List.map_take,h,hw1,hw2,hb,hal,har,kr]
    intros
    exact hno _ fun hh=>by have:=hh.1;omega
   simp (maxSteps:=3000000) [go_sem,-List.length_flatten,-List.map_drop,-List.map_take,h,hw1,hw2,hb,hal,har]
   intros
   refine PF.call p1 9 (by simp [lePs,-List.length_flatten,-List.map_drop,-List.map_take,Function.comp_def,len_flat]) ?_
   cases c1:ndFew (gi c.l i).l with
   | false =>
    simp (maxSteps:=3000000) [go_sem,-List.length_flatten,-List.map_drop,-List.map_take,Kc,kr]
    intros
    exact hno _ fun hh=>by have:=hh.2.1;rw [c1] at this;cases this
   | true =>
    simp (maxSteps:=3000000) [go_sem,-List.length_flatten,-List.map_drop,-List.map_take,Kc,h]
    intros
    refine PF.call p2 9 (by simp [lePs,-List.length_flatten,-List.map_drop,-List.map_take,Function.comp_def,len_flat]) ?_
    cases c2:ndFew (gi c.l i).r with
    | false =>
     simp (maxSteps:=3000000) [go_sem,-List.length_flatten,-List.map_drop,-List.map_take,Kc,kr]
     intros
     exact hno _ fun hh=>by have:=hh.2.2.1;rw [c2] at this;cases this
    | true =>
     simp (maxSteps:=3000000) [go_sem,-List.length_flatten,-List.map_drop,-List.map_take,Kc,h]
     intros
     refine PF.call p3 9 (by simp [lePs,-List.length_flatten,-List.map_drop,-List.map_take,Function.comp_def,len_flat]) ?_
     cases c3:rightN (gi c.l i).l with
     | false =>
      simp (maxSteps:=3000000) [go_sem,-List.length_flatten,-List.map_drop,-List.map_take,Kc,kr]
      intros
      exact hno _ fun hh=>by have:=hh.2.2.2.1;rw [c3] at this;cases this
     | true =>
      simp (maxSteps:=3000000) [go_sem,-List.length_flatten,-List.map_drop,-List.map_take,Kc,h]
      intros
      refine PF.call p4 9 (by simp [lePs,-List.length_flatten,-List.map_drop,-List.map_take,Function.comp_def,len_flat]) ?_
      cases c4:rightN (gi c.l i).r with
      | false =>
       simp (maxSteps:=3000000) [go_sem,-List.length_flatten,-List.map_drop,-List.map_take,Kc,kr]
       intros
       exact hno _ fun hh=>by have:=hh.2.2.2.2;rw [c4] at this;cases this
      | true =>
       simp (maxSteps:=3000000) [go_sem,-List.length_flatten,-List.map_drop,-List.map_take,Kc]
       intros
       have hwi:IntKind.i64.wrap ((i:Int)+1)=((i+1:Nat):Int):=by rw [w64 (by omega) (by omega)];omega
       refine kn _ _ (Kl_next (c.l.length - (i+1)) 1 (by omega) ⟨i+1,rfl,by omega,hyes ⟨by omega,c1,c2,c3,c4⟩,by omega,rfl,rfl⟩ (by simp [Tm.get,hwi]) (by simp) (by simp) ⟨rlb_cz,trivial⟩ (by omega))
  ·have:i=c.l.length:=by omega
   subst this
   simp (maxSteps:=3000000) [go_sem,-List.length_flatten,-List.map_drop,-List.map_take,kx]
   intros
   exact fin _ _ (smallB_yes ⟨by omega,h2,by omega,by omega,by omega,hc⟩).symm
structure LoadedC (c:Cz):Prop where
 small:SmallC c
 is:(loadC c.sigs c.l).2.2.2=true
abbrev stC (c:Cz):Kd:=(loadC c.sigs c.l).1
abbrev nmC (c:Cz):List ByteArray:=(loadC c.sigs c.l).2.1
abbrev psC (c:Cz):List (Int×Int):=(loadC c.sigs c.l).2.2.1
theorem SmallC.nodes {c:Cz} (h:SmallC c) {i:Nat} (hi:i<c.l.length):(rightN (gi c.l i).l=true∧(gi c.l i).l.length≤100)∧rightN (gi c.l i).r=true∧(gi c.l i).r.length≤100:=by
 obtain ⟨h1,h2,h3,h4,h5⟩:=h.cons i hi
 have:=nodesN_succ hi
 exact ⟨⟨h4,by omega⟩,h5,by omega⟩
theorem SmallC.cok {c:Cz} (h:SmallC c):Cok c.sigs (loadC c.sigs c.l) :=
 (Cok.all c.l (cok_new h.sr) (fun d hd=>by
  obtain ⟨j,j1,j2⟩:=mem_gi.1 hd
  have:=h.nodes j1
  rw [j2] at this
  exact ⟨(rightN_spec this.1.1).2.2.2,(rightN_spec this.2.1).2.2.2⟩)).1
theorem LoadedC.lok {c:Cz} (h:LoadedC c):Lok c.sigs (stC c) (nmC c):=h.small.cok.lok
theorem LoadedC.ps {c:Cz} (h:LoadedC c):∀ p∈psC c,inP (stC c) p∧okP c.sigs (stC c) p:=h.small.cok.ps h.is
abbrev mdC (c:Cz):Sy:=madeS c.sigs c.ranks c.depth (stC c) (psC c)
abbrev endC (c:Cz):Sy:=(runN (mdC c) 1000000 (mdC c)).1
theorem psC_len {l:List Sg}:∀ (cs:List Cn) (s:Lc),(cs.foldl (stepC l) s).2.2.1.length≤s.2.2.1.length+cs.length
 | [],s=>by simp
 | c::cs,s=>by
  have h1:=psC_len (l:=l) cs (stepC l s c)
  have h2:(stepC l s c).2.2.1.length≤s.2.2.1.length+1:=by
   unfold stepC
   split
   ·omega
   ·simp only
    split
    ·simp
    ·split
     ·simp
     ·simp
  rw [List.foldl_cons,List.length_cons]
  omega
theorem LoadedC.inv {c:Cz} (h:LoadedC c):SInv (fun p=>p∈psC c) (nmC c).length [] (mdC c)∧∀ p∈psC c,seenP (mdC c) p:=h.lok.made c.ranks h.small.dep h.ps
theorem mdC_same {c:Cz} (h:LoadedC c):(mdC c).sigs=c.sigs∧(mdC c).a=stC c∧(mdC c).steps=0:=by
 have e:=withS_eq c.sigs c.ranks c.depth (stC c) (nmC c).length h.lok.many
 obtain ⟨g1,g2,g3,g4,g5,g6⟩:=putsS_same (psC c) (withS (newS c.sigs c.ranks c.depth) (stC c))
 rw [e] at g1 g2 g5
 refine ⟨?_,?_,?_⟩
 ·show (putsS (withS (newS c.sigs c.ranks c.depth) (stC c)) (psC c)).sigs=_
  rw [e];exact g1
 ·show (putsS (withS (newS c.sigs c.ranks c.depth) (stC c)) (psC c)).a=_
  rw [e];exact g2
 ·show (putsS (withS (newS c.sigs c.ranks c.depth) (stC c)) (psC c)).steps=_
  rw [e];exact g5
theorem LoadedC.fin {c:Cz} (h:LoadedC c):runN (mdC c) 1000000 (mdC c)=(endC c,0)∧SInv (fun p=>p∈psC c) (nmC c).length [] (endC c)∧(endC c).w.l=[]∧((endC c).sigs=c.sigs∧(endC c).a=stC c)∧∀ p∈psC c,seenP (endC c) p:=by
 obtain ⟨h1,h2⟩:=h.inv
 obtain ⟨m1,m2,m3⟩:=mdC_same h
 have hk:(mdC c).a.keys.length≤400:=h1.few
 have hsq:(mdC c).a.keys.length*(mdC c).a.keys.length≤400*400:=Nat.mul_le_mul hk hk
 obtain ⟨t,t1,t2,t3,⟨t4,t5,_⟩,t6⟩:=SInv.run (mdC c) 1000000 h1 (by rw [m3];omega)
 have e:endC c=t:=by show (runN (mdC c) 1000000 (mdC c)).1=t;rw [t1]
 rw [e]
 exact ⟨t1,t2,t3,⟨t4.trans m1,t5.trans m2⟩,fun p hp=>t6 p (h2 p hp)⟩
theorem made30_PF {c:Cz} (h:LoadedC c) (hf:FitC c):PF Tryz.prog 30 [.agg c.cs,.agg (stC c).cs,prs (psC c)] (.agg (mdC c).cs):=by
 refine PFk 9 hm Tryz.func30 c30_ok (Nat.le_of_ble_eq_true rfl) (fun x hx=>by
  simp only [List.mem_cons,List.not_mem_nil,or_false] at hx
  rcases hx with rfl|rfl|rfl
  ·exact cz_RL c _ (by simp)
  ·simp
  ·simp) (by simp) ?_
 have hlk:=h.lok
 have hnew:=new50_PF c.sigs c.ranks c.depth hf.sg h.small.sr h.small.dep
 have hwith:=with52_PF c.sigs c.ranks c.depth (stC c) (fun i hi=>by
  have hfit:=(hlk.fine.ok i hi).1
  have hk:=termAt_key hi
  rw [hk] at hfit
  refine ⟨by
   unfold termOf at hfit
   split at hfit
   ·cases hfit
   ·omega,fun h2=>?_⟩
  have hkk:=key_kind hlk.fine (x:=(i:Int)) (by omega)
  obtain ⟨n,n1,n2⟩:=hlk.vk i hi (by rw [←hkk.2];exact h2)
  rw [n2]
  have:=hlk.names
  simp [gi]
  omega) (by rw [hlk.many];have:=hlk.names;omega)
 have e:=withS_eq c.sigs c.ranks c.depth (stC c) (nmC c).length hlk.many
 have hpl:(psC c).length≤12:=by
  have:=psC_len (l:=c.sigs) c.l (newK,[],[],true)
  have h12:=h.small.l12
  simp only [List.length_nil,Nat.zero_add] at this
  exact Nat.le_trans this h12
 have hputs:=puts51_PF (withS (newS c.sigs c.ranks c.depth) (stC c)) (psC c) (by rw [e];simp [newW];omega) (by rw [e];simp [newW];omega)
 generalize hps:psC c=ps at *
 generalize hst:stC c=st at *
 have hmd:mdC c=putsS (withS (newS c.sigs c.ranks c.depth) st) ps:=by
  show madeS c.sigs c.ranks c.depth (stC c) (psC c)=_
  rw [hps,hst];rfl
 rw [hmd]
 generalize putsS (withS (newS c.sigs c.ranks c.depth) st) ps=M at *
 generalize withS (newS c.sigs c.ranks c.depth) st=W at *
 generalize newS c.sigs c.ranks c.depth=N at *
 simp (maxSteps:=3000000) [go_sem,-List.length_flatten,-List.map_drop,-List.map_take,c30]
 refine PF.call hnew 9 (by simp [lePs,-List.length_flatten,-List.map_drop,-List.map_take,Function.comp_def,len_flat]) ?_
 simp (maxSteps:=3000000) [go_sem,-List.length_flatten,-List.map_drop,-List.map_take,Kc]
 refine PF.call hwith 9 (by simp [lePs,-List.length_flatten,-List.map_drop,-List.map_take,Function.comp_def,len_flat]) ?_
 simp (maxSteps:=3000000) [go_sem,-List.length_flatten,-List.map_drop,-List.map_take,Kc]
 refine PF.call hputs 9 (by simp [lePs,-List.length_flatten,-List.map_drop,-List.map_take,Function.comp_def,len_flat]) ?_
 simp (maxSteps:=3000000) [go_sem,-List.length_flatten,-List.map_drop,-List.map_take,Kc]
theorem SmallC.load {c:Cz} (h:SmallC c):PF Tryz.prog 28 [.agg c.cs] (.tuple [.agg (loadC c.sigs c.l).1.cs,strs (loadC c.sigs c.l).2.1,prs (loadC c.sigs c.l).2.2.1,.bool (loadC c.sigs c.l).2.2.2]) :=
 load28_PF c h.sr h.l12 (fun i hi=>h.nodes hi)
theorem LoadedC.run {c:Cz} (h:LoadedC c):PF Tryz.prog 29 [.agg (mdC c).cs,i64 (1000000:Nat)] (.tuple [.agg (endC c).cs,i64 0]):=by
 have h1:=run29_PF (mdC c) h.inv.1 h.lok.names (mdC_same h).2.2 1000000 (Nat.le_refl _)
 rw [h.fin.1] at h1
 exact h1
theorem solvedY_PF {c:Cz} (h:LoadedC c) (hf:FitC c):PF Tryz.prog 12 [.agg c.cs] (.tuple [.agg (endC c).cs,prs (psC c),.bool true]):=by
 refine PFk 9 hm Tryz.func12 c12_ok (Nat.le_of_ble_eq_true rfl) (cz_RL c) (by simp) ?_
 have h1:=small31_PF c hf
 rw [smallB_yes h.small] at h1
 have h2:=h.small.load
 rw [h.is] at h2
 have h3:=made30_PF h hf
 have h4:=h.run
 generalize he:endC c=e at *
 generalize hmd:mdC c=m at *
 have e1:psC c=(loadC c.sigs c.l).2.2.1:=rfl
 have e2:stC c=(loadC c.sigs c.l).1:=rfl
 rw [←e1,←e2] at h2
 generalize psC c=ps at *
 generalize stC c=st at *
 generalize (loadC c.sigs c.l).2.1=nm at *
 simp (maxSteps:=3000000) [go_sem,-List.length_flatten,-List.map_drop,-List.map_take,c12]
 refine PF.call h1 9 (by simp [lePs,-List.length_flatten,-List.map_drop,-List.map_take,Function.comp_def,len_flat]) ?_
 simp (maxSteps:=3000000) [go_sem,-List.length_flatten,-List.map_drop,-List.map_take,Kc]
 refine PF.call h2 9 (by simp [lePs,-List.length_flatten,-List.map_drop,-List.map_take,Function.comp_def,len_flat]) ?_
 simp (maxSteps:=3000000) [go_sem,-List.length_flatten,-List.map_drop,-List.map_take,Kc]
 refine PF.call h3 9 (by simp [lePs,-List.length_flatten,-List.map_drop,-List.map_take,Function.comp_def,len_flat]) ?_
 simp (maxSteps:=3000000) [go_sem,-List.length_flatten,-List.map_drop,-List.map_take,Kc]
 refine PF.call h4 9 (by simp [lePs,-List.length_flatten,-List.map_drop,-List.map_take,Function.comp_def,len_flat]) ?_
 simp (maxSteps:=3000000) [go_sem,-List.length_flatten,-List.map_drop,-List.map_take,Kc]
theorem solvedN_PF {c:Cz} (h:¬ LoadedC c) (hf:FitC c):PF Tryz.prog 12 [.agg c.cs] (.tuple [.agg nil15,.nilS,.bool false]):=by
 refine PFk 9 hm Tryz.func12 c12_ok (Nat.le_of_ble_eq_true rfl) (cz_RL c) (by simp) ?_
 have h1:=small31_PF c hf
 by_cases hs:SmallC c
 ·rw [smallB_yes hs] at h1
  have h2:=hs.load
  have hb:(loadC c.sigs c.l).2.2.2=false:=by
   cases hb:(loadC c.sigs c.l).2.2.2 with
   | false=>rfl
   | true=>exact absurd ⟨hs,hb⟩ h
  rw [hb] at h2
  generalize (loadC c.sigs c.l).1=st at *
  generalize (loadC c.sigs c.l).2.1=nm at *
  generalize (loadC c.sigs c.l).2.2.1=ps at *
  simp (maxSteps:=3000000) [go_sem,-List.length_flatten,-List.map_drop,-List.map_take,c12]
  refine PF.call h1 9 (by simp [lePs,-List.length_flatten,-List.map_drop,-List.map_take,Function.comp_def,len_flat]) ?_
  simp (maxSteps:=3000000) [go_sem,-List.length_flatten,-List.map_drop,-List.map_take,Kc]
  refine PF.call h2 9 (by simp [lePs,-List.length_flatten,-List.map_drop,-List.map_take,Function.comp_def,len_flat]) ?_
  simp (maxSteps:=3000000) [go_sem,-List.length_flatten,-List.map_drop,-List.map_take,Kc]
 ·rw [smallB_no hs] at h1
  simp (maxSteps:=3000000) [go_sem,-List.length_flatten,-List.map_drop,-List.map_take,c12]
  refine PF.call h1 9 (by simp [lePs,-List.length_flatten,-List.map_drop,-List.map_take,Function.comp_def,len_flat]) ?_
  simp (maxSteps:=3000000) [go_sem,-List.length_flatten,-List.map_drop,-List.map_take,Kc]
theorem c18_ok:cFn Tryz.prog an0 Tryz.f18=some c18:=by kernel_rfl
def minJ (rk l:List Int):Nat→Nat
 | 0=>0
 | i+1=>if lessR rk (gi l i) (gi l (minJ rk l i))=true then i else minJ rk l i
theorem minJ_le (rk l:List Int):∀ i:Nat,minJ rk l i≤i - 1
 | 0=>Nat.le_refl _
 | i+1=>by
  have:=minJ_le rk l i
  unfold minJ
  split<;>omega
theorem minJ_one (rk l:List Int):minJ rk l 1=0:=by
 unfold minJ minJ
 split<;>rfl
def orderN (rk:List Int):Nat→List Int→List Int
 | 0,_=>[]
 | n+1,l=>gi l (minJ rk l (n+1))::orderN rk n (l.eraseIdx (minJ rk l (n+1)))
def orderR (rk l:List Int):List Int:=orderN rk l.length l
set_option maxHeartbeats 1000000 in
theorem order18_PF (g:Gr) (hn:g.u.v.length≤1000000):PF Tryz.prog 18 [.agg g.cs] (ints (orderR g.ranks (firstsU g.u.v))):=by
 refine PFk 9 hm Tryz.func18 c18_ok (Nat.le_of_ble_eq_true rfl) (by simp) (by simp) ?_
 have hfl:(firstsU g.u.v).length≤g.u.v.length:=firstsK_len g.u.v g.u.v.length
 have hfp:=firsts26_PF g.u hn
 generalize firstsU g.u.v=fs at *
 generalize hQ:Rle 9 (ints (orderR g.ranks fs))=Q
 simp (maxSteps:=3000000) [go_sem,-List.length_flatten,-List.map_drop,-List.map_take,c18]
 refine PF.call hfp 9 (by simp [lePs,-List.length_flatten,-List.map_drop,-List.map_take,Function.comp_def,len_flat]) ?_
 simp (maxSteps:=3000000) [go_sem,-List.length_flatten,-List.map_drop,-List.map_take,Kc]
 refine run_loopK (fun m T H=>∃ (q:Nat) (out left:List Int),m=left.length∧out.length+left.length=fs.length∧out++orderR g.ranks left=orderR g.ranks fs∧T=[(4,.loc 1 q 0 out.length 1 false),(3,ints left),(1,.ptr 0 0 0)]∧H=[.cells 0 g.cs,.cells q (i64s out)])
  fs.length [(4,.loc 1 0 0 0 1 false),(3,ints fs),(1,.ptr 0 0 0)] [.cells 0 g.cs,.cells 0 []]
  ((Wk.nil 4 1 (by simp [Tm.get])).trans (Wk.tell 2 (by omega) (by simp [Tm.get]) (by simp) rfl ⟨rlb_gr,by simp [RLB],trivial⟩)) ⟨0,[],fs,rfl,by simp,rfl,rfl,rfl⟩ ?_
 rintro m T H ⟨q,out,left,rfl,hl,ho,rfl,rfl⟩ KK kx kr kn
 by_cases h0:0<left.length
 ·simp (maxSteps:=3000000) [go_sem,-List.length_flatten,-List.map_drop,-List.map_take,h0]
  intros
  refine run_loopK (fun m T H=>∃ i:Nat,m=left.length - i∧1≤i∧i≤left.length∧T=[(6,i64 i),(5,i64 (minJ g.ranks left i:Nat)),(4,.loc 1 q 0 out.length 1 false),(3,ints left),(1,.ptr 0 0 0)]∧H=[.cells 0 g.cs,.cells q (i64s out)])
   (left.length - 1) [(6,i64 (1:Nat)),(5,i64 (minJ g.ranks left 1:Nat)),(4,.loc 1 q 0 out.length 1 false),(3,ints left),(1,.ptr 0 0 0)] [.cells 0 g.cs,.cells q (i64s out)]
   (Wk.tell 2 (by omega) (by simp [Tm.get,minJ_one]) (by simp) (by simp) ⟨rlb_gr,rlb_i64s,trivial⟩) ⟨1,rfl,by omega,by omega,rfl,rfl⟩ ?_
  rintro m T H ⟨i,rfl,hi1,hi,rfl,rfl⟩ KK2 kx2 kr2 kn2
  have hmj:=minJ_le g.ranks left i
  by_cases hil:i<left.length
  ·have hwi:IntKind.i64.wrap ((i:Int)+1)=((i+1:Nat):Int):=by rw [w64 (by omega) (by omega)];omega
   have hmj2:minJ g.ranks left i<left.length:=by omega
   have hj1:minJ g.ranks left (i+1)=if lessR g.ranks (gi left i) (gi left (minJ g.ranks left i))=true then i else minJ g.ranks left i:=rfl
   generalize hj2:minJ g.ranks left (i+1)=j1 at *
   generalize minJ g.ranks left i=j at *
   simp (maxSteps:=3000000) [go_sem,-List.length_flatten,-List.map_drop,-List.map_take,hil,hmj2]
   intros
   refine ⟨_,less25_PF g.ranks (gi left i) (gi left j),?_⟩
   cases hL:lessR g.ranks (gi left i) (gi left j) with
   | true =>
    rw [if_pos hL] at hj1
    simp (maxSteps:=3000000) [go_sem,-List.length_flatten,-List.map_drop,-List.map_take,Kc]
    intros
    refine kn2 _ _ (Kl_next (left.length - (i+1)) 2 (by omega) ⟨i+1,rfl,by omega,by omega,rfl,rfl⟩ (by simp [Tm.get,hwi,hj1,hj2]) (by simp) (by simp) ⟨rlb_gr,rlb_i64s,trivial⟩ (by omega))
   | false =>
    rw [if_neg (by rw [hL];simp)] at hj1
    simp (maxSteps:=3000000) [go_sem,-List.length_flatten,-List.map_drop,-List.map_take,Kc]
    intros
    refine kn2 _ _ (Kl_next (left.length - (i+1)) 2 (by omega) ⟨i+1,rfl,by omega,by omega,rfl,rfl⟩ (by simp [Tm.get,hwi,hj1,hj2]) (by simp) (by simp) ⟨rlb_gr,rlb_i64s,trivial⟩ (by omega))
  ·have:i=left.length:=by omega
   subst this
   have hj:minJ g.ranks left left.length<left.length:=by omega
   have hoe:out++orderR g.ranks left=out++[gi left (minJ g.ranks left left.length)]++orderR g.ranks (left.eraseIdx (minJ g.ranks left left.length)):=by
    unfold orderR
    obtain ⟨n,hn⟩:∃ n,left.length=n+1:=⟨left.length - 1,by omega⟩
    rw [List.length_eraseIdx,if_pos hj,hn]
    simp [orderN]
   rw [hoe] at ho
   clear hoe hmj
   have hee:=List.eraseIdx_eq_take_drop_succ left (minJ g.ranks left left.length)
   generalize minJ g.ranks left left.length=j at *
   have hel:(left.eraseIdx j).length=left.length - 1:=by rw [List.length_eraseIdx,if_pos hj]
   have hA:out.length+1≤maxA:=by unfold maxA;omega
   have hap:=i64s_app out (gi left j)
   have hwj:IntKind.i64.wrap ((j:Int)+1)=((j+1:Nat):Int):=by rw [w64 (by omega) (by omega)];omega
   have hw1:IntKind.i64.wrap 1=1:=rfl
   generalize hE:left.eraseIdx j=E at *
   have hlt:(out++[gi left j]).length+E.length=fs.length:=by simp;omega
   have endR:∀ (T:Tm) (H:AHeap),E=[]→T.get 3=.rows true 1 []→T.get 4=.loc 1 (q+1) 0 (out.length+1) 1 false→T.get 1=.ptr 0 0 0→H=[.cells 0 g.cs,.cells (q+1) (i64s (out++[gi left j]))]→KK .normal T H:=fun T H e t3 t4 t1 eH=>by
    subst eH
    refine kn _ _ ⟨E.length,[(4,.loc 1 (q+1) 0 (out.length+1) 1 false),(3,ints []),(1,.ptr 0 0 0)],[.cells 0 g.cs,.cells (q+1) (i64s (out++[gi left j]))],by omega,Wk.leT 9 (by simp [t3,t4,t1,leP]),q+1,out++[gi left j],E,rfl,hlt,ho,by rw [e];simp,rfl⟩
   have endL:∀ (T:Tm) (H:AHeap) (p n:Nat),n=E.length→T.get 3=.loc 2 p 0 n 1 false→T.get 4=.loc 1 (q+1) 0 (out.length+1) 1 false→T.get 1=.ptr 0 0 0→H=[.cells 0 g.cs,.cells (q+1) (i64s (out++[gi left j])),.cells p (i64s E)]→KK .normal T H:=fun T H p n e t3 t4 t1 eH=>by
    subst eH
    subst e
    have hch:=chunk_flI E
    refine kn _ _ ⟨E.length,[(4,.loc 1 (q+1) 0 (out.length+1) 1 false),(3,ints E),(1,.ptr 0 0 0)],[.cells 0 g.cs,.cells (q+1) (i64s (out++[gi left j]))],by omega,
     ((Wk.tell 3 (by omega) (T':=[(4,.loc 1 (q+1) 0 (out.length+1) 1 false),(3,.loc 2 p 0 E.length 1 false),(1,.ptr 0 0 0)]) (H':=[.cells 0 g.cs,.cells (q+1) (i64s (out++[gi left j])),.cells p (i64s E)]) (by simp [t3,t4,t1]) (by simp) (by simp) ⟨rlb_gr,rlb_i64s,rlb_i64s,trivial⟩).trans (Wk.fz 2 9 rfl)).trans (Wk.tell 2 (by omega) (by simp [Tm.get,fzT,fz,hch]) (by simp) (by simp [fzB,fz]) ⟨rlb_gr,rlb_i64s,trivial⟩),q+1,out++[gi left j],E,rfl,hlt,ho,by simp,rfl⟩
   by_cases c1:j=0
   ·subst c1
    cases left with
    | nil=>simp at hj
    | cons x rest =>
     have e0:gi (x::rest) ((0:Nat):Int)=x:=rfl
     have e00:gi (x::rest) (0:Int)=x:=rfl
     have hE2:rest=E:=by rw [←hE];rfl
     subst hE2
     rw [e0] at endR endL
     have hapx:=i64s_app out x
     cases rest with
     | nil =>
      simp (maxSteps:=3000000) [go_sem,-List.length_flatten,-List.map_drop,-List.map_take,kx2,↓hapx,hw1,hA,indB,aliveRd,apartS,refA,e00]
      intros
      exact endR _ _ rfl (by simp [Tm.get]) (by simp [Tm.get]) (by simp [Tm.get]) (by simp)
     | cons y rest =>
      have hr1:rest.length+1≤maxA:=by simp only [List.length_cons] at hl;unfold maxA;omega
      simp (maxSteps:=3000000) [go_sem,-List.length_flatten,-List.map_drop,-List.map_take,kx2,↓hapx,hw1,hA,indB,aliveRd,apartS,refA,e00,hr1,flat_i64s]
      intros
      refine ⟨by omega,fun _ _=>⟨by omega,by omega,?_⟩⟩
      exact endL _ _ 0 (rest.length+1) rfl (by simp [Tm.get]) (by simp [Tm.get]) (by simp [Tm.get]) (by simp)
   ·have hE2:left.take j++left.drop (j+1)=E:=by rw [←hE,List.eraseIdx_eq_take_drop_succ]
    have htj:(left.take j).length=j:=by rw [List.length_take];omega
    have hdj:(left.drop (j+1)).length=left.length - (j+1):=List.length_drop
    have hne:left≠[]:=fun e=>by rw [e] at hj;simp at hj
    have hjA:j≤maxA:=by unfold maxA;omega
    by_cases c2:left.length=j+1
    ·have hd0:left.drop (j+1)=[]:=List.eq_nil_of_length_eq_zero (by omega)
     rw [hd0,List.append_nil] at hE2
     rw [hE2] at htj
     have hneE:E≠[]:=fun e=>by rw [e] at htj;simp at htj;omega
     simp (maxSteps:=3000000) [go_sem,-List.length_flatten,-List.map_drop,-List.map_take,kx2,hj,hA,↓hap,hwj,c1,hne,indB,aliveRd,apartS,refA,flat_i64s,hE2,htj,hjA,hd0,hneE]
     intros
     refine ⟨by omega,by omega,?_⟩
     exact endL _ _ 0 j htj.symm (by simp [Tm.get]) (by simp [Tm.get]) (by simp [Tm.get]) (by simp)
    ·have hmin:min j left.length=j:=by omega
     have hnle:¬ left.length≤j+1:=by omega
     have hjl:j≤left.length:=by omega
     have hjj:j+(left.length - (j+1))=E.length:=by omega
     have hEA:E.length≤maxA:=by unfold maxA;omega
     have hcat:List.take j (i64s (left.take j))++i64s (left.drop (j+1))=i64s E:=by
      rw [List.take_of_length_le (by simp;omega),←hE2];unfold i64s;rw [List.map_append]
     simp (maxSteps:=3000000) [go_sem,-List.length_flatten,-List.map_drop,-List.map_take,kx2,hj,hA,↓hap,hwj,c1,indB,aliveRd,apartS,refA,flat_i64s,hne,hjA,hmin,hnle,↓hcat,hjj,hEA,hjl]
     intros
     refine ⟨by omega,fun _=>?_⟩
     exact endL _ _ 1 E.length rfl (by simp [Tm.get]) (by simp [Tm.get]) (by simp [Tm.get]) (by simp)
 ·have:left=[]:=List.eq_nil_of_length_eq_zero (by omega)
  subst this
  simp (maxSteps:=3000000) [go_sem,-List.length_flatten,-List.map_drop,-List.map_take,kx]
  intros
  rw [←hQ]
  rw [←ho]
  unfold Rle
  rw [frzI (k:=7) out rfl rfl,show orderR g.ranks []=[] from rfl,List.append_nil]
  exact leP_refl _ _
theorem c20_ok:cFn Tryz.prog an0 Tryz.f20=some c20:=by kernel_rfl
theorem c23_ok:cFn Tryz.prog an0 Tryz.f23=some c23:=by kernel_rfl
abbrev bools (l:List Bool):AV:=.rows false 1 (l.map fun b=>[AV.bool b])
abbrev boolss (M:List (List Bool)):AV:=.rows false 1 (M.map fun r=>[bools r])
def cntR (b:List Int) (x:Int) (k:Nat):List Int:=List.replicate ((b.take k).count x) x
def bothK (a b:List Int) (i:Nat):List Int:=(a.take i).flatMap fun x=>cntR b x b.length
def bothR (a b:List Int):List Int:=bothK a b a.length
theorem cntR_succ {b:List Int} {x:Int} {k:Nat} (h:k<b.length):cntR b x (k+1)=cntR b x k++if x=gi b k then [x] else []:=by
 unfold cntR
 rw [List.take_succ_eq_append_getElem h,List.count_append]
 have e:gi b k=b[k]:=by simp [gi,List.getD,h]
 rw [e]
 by_cases hx:x=b[k]
 ·rw [if_pos hx,←hx,←List.replicate_append_replicate];simp
 ·rw [if_neg hx,List.count_singleton]
  have:(b[k]==x)=false:=by simpa using fun h=>hx h.symm
  rw [this];simp
theorem bothK_succ {a b:List Int} {i:Nat} (h:i<a.length):bothK a b (i+1)=bothK a b i++cntR b (gi a i) b.length:=by
 unfold bothK
 rw [List.take_succ_eq_append_getElem h,List.flatMap_append]
 simp [gi,List.getD,h]
theorem cntR_len (b:List Int) (x:Int) (k:Nat):(cntR b x k).length≤k:=by
 unfold cntR
 rw [List.length_replicate]
 exact Nat.le_trans List.count_le_length (by simp;omega)
theorem bothK_len (a b:List Int) (i:Nat) (hi:i≤a.length):(bothK a b i).length≤i*b.length:=by
 induction i with
 | zero=>simp [bothK]
 | succ i ih =>
  rw [bothK_succ (by omega),List.length_append,Nat.succ_mul]
  have:=cntR_len b (gi a i) b.length
  have:=ih (by omega)
  omega
set_option maxHeartbeats 1000000 in
theorem both20_PF (a b:List Int) (ha:a.length≤1000000) (hb:b.length≤1000000) (hab:a.length*b.length≤1000000):PF Tryz.prog 20 [ints a,ints b] (ints (bothR a b)):=by
 refine PFk 9 hm Tryz.func20 c20_ok (Nat.le_of_ble_eq_true rfl) (by simp) (by simp) ?_
 generalize hQ:Rle 9 (ints (bothR a b))=Q
 simp (maxSteps:=3000000) [go_sem,-List.length_flatten,-List.map_drop,-List.map_take,c20]
 refine run_loopK (fun m T H=>∃ i q:Nat,m=a.length - i∧i≤a.length∧T=[(6,i64 i),(5,.loc 0 q 0 (bothK a b i).length 1 false),(0,ints a),(1,ints b)]∧H=[.cells q (i64s (bothK a b i))])
  a.length [(6,i64 (0:Nat)),(5,.loc 0 0 0 0 1 false),(0,ints a),(1,ints b)] [.cells 0 []]
  ((Wk.nil 5 1 (by simp [Tm.get])).trans (Wk.tell 1 (by omega) (by simp [Tm.get]) (by simp) rfl ⟨by simp [RLB],trivial⟩)) ⟨0,0,rfl,Nat.zero_le _,by simp [bothK],by simp [bothK]⟩ ?_
 rintro m T H ⟨i,q,rfl,hi,rfl,rfl⟩ KK kx kr kn
 by_cases hl:i<a.length
 ·have hwi:IntKind.i64.wrap ((i:Int)+1)=((i+1:Nat):Int):=by rw [w64 (by omega) (by omega)];omega
  have hsc:=bothK_succ (b:=b) hl
  have hbl:=bothK_len a b i hi
  have hil:i*b.length≤a.length*b.length:=Nat.mul_le_mul_right _ hi
  generalize hxe:gi a i=x at *
  generalize hO1:bothK a b (i+1)=O1 at *
  generalize hO:bothK a b i=O at *
  simp (maxSteps:=3000000) [go_sem,-List.length_flatten,-List.map_drop,-List.map_take,hl]
  intros
  refine run_loopK (fun m T H=>∃ k q:Nat,m=b.length - k∧k≤b.length∧T=[(7,i64 k),(6,i64 i),(5,.loc 0 q 0 (O++cntR b x k).length 1 false),(0,ints a),(1,ints b)]∧H=[.cells q (i64s (O++cntR b x k))])
   b.length [(7,i64 (0:Nat)),(6,i64 i),(5,.loc 0 q 0 O.length 1 false),(0,ints a),(1,ints b)] [.cells q (i64s O)]
   (Wk.tell 1 (by omega) (by simp [Tm.get]) (by simp) rfl ⟨rlb_i64s,trivial⟩) ⟨0,q,rfl,Nat.zero_le _,by simp [cntR],by simp [cntR]⟩ ?_
  rintro m T H ⟨k,q,rfl,hk,rfl,rfl⟩ KK2 kx2 kr2 kn2
  by_cases hkl:k<b.length
  ·have hwk:IntKind.i64.wrap ((k:Int)+1)=((k+1:Nat):Int):=by rw [w64 (by omega) (by omega)];omega
   have hcs:O++cntR b x (k+1)=O++cntR b x k++if x=gi b k then [x] else []:=by rw [cntR_succ (x:=x) hkl,List.append_assoc]
   have hcl:=cntR_len b x k
   have hA:(O++cntR b x k).length+1≤maxA:=by rw [List.length_append];unfold maxA;omega
   have hap:=i64s_app (O++cntR b x k) x
   generalize hO2:O++cntR b x (k+1)=O2 at *
   generalize O++cntR b x k=OO at *
   by_cases hx:x=gi b k
   ·rw [if_pos hx] at hcs
    have hx':=eq_true hx
    simp (maxSteps:=3000000) [go_sem,-List.length_flatten,-List.map_drop,-List.map_take,hkl,hl,hxe,hx',hA,↓hap]
    intros
    refine kn2 _ _ (Kl_next (b.length - (k+1)) 1 (by omega) ⟨k+1,q+1,rfl,by omega,rfl,rfl⟩ (by simp [Tm.get,hwk,hcs,hO2]) (by simp) (by simp [hcs,hO2]) ⟨rlb_i64s,trivial⟩ (by omega))
   ·rw [if_neg hx,List.append_nil] at hcs
    simp (maxSteps:=3000000) [go_sem,-List.length_flatten,-List.map_drop,-List.map_take,hkl,hl,hxe,hx]
    intros
    refine kn2 _ _ (Kl_next (b.length - (k+1)) 1 (by omega) ⟨k+1,q,rfl,by omega,rfl,rfl⟩ (by simp [Tm.get,hwk,hcs,hO2]) (by simp) (by simp [hcs,hO2]) ⟨rlb_i64s,trivial⟩ (by omega))
  ·have:k=b.length:=by omega
   subst this
   rw [←hsc]
   simp (maxSteps:=3000000) [go_sem,-List.length_flatten,-List.map_drop,-List.map_take,kx2]
   intros
   refine kn _ _ (Kl_next (a.length - (i+1)) 1 (by omega) ⟨i+1,q,rfl,by omega,rfl,rfl⟩ (by simp [Tm.get,hwi,hO1]) (by simp) (by simp [hO1]) ⟨rlb_i64s,trivial⟩ (by omega))
 ·have:i=a.length:=by omega
  subst this
  simp (maxSteps:=3000000) [go_sem,-List.length_flatten,-List.map_drop,-List.map_take,kx]
  intros
  rw [←hQ]
  unfold Rle
  rw [frzI (k:=7) (bothK a b a.length) rfl rfl]
  exact leP_refl _ _
def srcK (a:Kd) (M:List (List Bool)) (id:Int) (n:Nat):List Int:=((List.range n).map fun (k:Nat)=>(k:Int)).filter fun x=>gi (gi M x) id&&decide (gi (gi a.keys x) 0=1∨gi (gi a.keys x) 0=3)
theorem srcK_succ (a:Kd) (M:List (List Bool)) (id:Int) (n:Nat):srcK a M id (n+1)=srcK a M id n++if gi (gi M n) id=true∧(gi (gi a.keys n) 0=1∨gi (gi a.keys n) 0=3) then [(n:Int)] else []:=by
 unfold srcK
 rw [List.range_succ,List.map_append,List.filter_append]
 congr 1
 by_cases h:gi (gi M n) id=true∧(gi (gi a.keys n) 0=1∨gi (gi a.keys n) 0=3)
 ·rw [if_pos h];simp [h.1,h.2]
 ·rw [if_neg h]
  have:(gi (gi M n) id&&decide (gi (gi a.keys n) 0=1∨gi (gi a.keys n) 0=3))=false:=by
   rw [Bool.eq_false_iff]
   intro hh
   simp only [Bool.and_eq_true,decide_eq_true_eq] at hh
   exact h hh
  simp only [List.map_cons,List.map_nil,List.filter_cons,this]
  simp
theorem srcK_len (a:Kd) (M:List (List Bool)) (id:Int) (n:Nat):(srcK a M id n).length≤n:=by
 unfold srcK
 exact Nat.le_trans (List.length_filter_le _ _) (by simp)
theorem RL_bools (n:Nat) (l:List Bool):RL n (bools l):=by
 refine RL_rows.2 fun e he y hy=>?_
 obtain ⟨b,_,rfl⟩:=List.mem_map.1 he
 simp at hy
 subst hy
 simp
theorem RL_boolss (n:Nat) (M:List (List Bool)):RL n (boolss M):=by
 refine RL_rows.2 fun e he y hy=>?_
 obtain ⟨b,_,rfl⟩:=List.mem_map.1 he
 rw [List.mem_singleton] at hy
 subst hy
 exact RL_bools n b
set_option maxHeartbeats 1000000 in
theorem src23_PF (a:Kd) (M:List (List Bool)) (id:Int) (n:Nat) (hn:n≤1000000) (hk:a.keys.length=n) (hM:M.length=n) (hr:∀ i:Nat,i<n→(gi M i).length=n) (hid:0≤id∧id<n) (hne:∀ i:Nat,i<n→0<(gi a.keys i).length) :
  PF Tryz.prog 23 [.agg a.cs,boolss M,i64 id] (ints (srcK a M id n)):=by
 refine PFk 9 hm Tryz.func23 c23_ok (Nat.le_of_ble_eq_true rfl) (by simp [↓RL_boolss]) (by simp) ?_
 generalize hQ:Rle 9 (ints (srcK a M id n))=Q
 simp (maxSteps:=3000000) [go_sem,-List.length_flatten,-List.map_drop,-List.map_take,c23]
 refine run_loopK (fun m T H=>∃ i q:Nat,m=n - i∧i≤n∧T=[(8,i64 i),(7,.loc 1 q 0 (srcK a M id i).length 1 false),(1,boolss M),(2,i64 id),(3,.ptr 0 0 0)]∧H=[.cells 0 a.cs,.cells q (i64s (srcK a M id i))])
  n [(8,i64 (0:Nat)),(7,.loc 1 0 0 0 1 false),(1,boolss M),(2,i64 id),(3,.ptr 0 0 0)] [.cells 0 a.cs,.cells 0 []]
  ((Wk.nil 7 1 (by simp [Tm.get])).trans (Wk.tell 2 (by omega) (by simp [Tm.get]) (by simp [-RL_rows,RL_boolss]) rfl ⟨rlb_kd,by simp [RLB],trivial⟩)) ⟨0,0,rfl,Nat.zero_le _,rfl,rfl⟩ ?_
 rintro m T H ⟨i,q,rfl,hi,rfl,rfl⟩ KK kx kr kn
 by_cases hl:i<n
 ·have hwi:IntKind.i64.wrap ((i:Int)+1)=((i+1:Nat):Int):=by rw [w64 (by omega) (by omega)];omega
  have hsc:=srcK_succ a M id i
  have hbl:=srcK_len a M id i
  have hne1:=hne i hl
  have hr1:=hr i hl
  have hA:(srcK a M id i).length+1≤maxA:=by unfold maxA;omega
  have hap:=i64s_app (srcK a M id i) (i:Int)
  generalize hS1:srcK a M id (i+1)=S1 at *
  generalize srcK a M id i=S at *
  by_cases b1:gi (gi M i) id=true
  ·by_cases k1:gi (gi a.keys i) 0=1
   ·rw [if_pos ⟨b1,.inl k1⟩] at hsc
    simp (maxSteps:=3000000) [go_sem,-List.length_flatten,-List.map_drop,-List.map_take,hl,hM,hk,hne1,hr1,hid,b1,k1,hA,↓hap]
    intros
    refine kn _ _ (Kl_next (n - (i+1)) 2 (by omega) ⟨i+1,q+1,rfl,by omega,rfl,rfl⟩ (by simp [Tm.get,hwi,hsc,hS1]) (by simp [-RL_rows,RL_boolss]) (by simp [hS1,hsc]) ⟨rlb_kd,rlb_i64s,trivial⟩ (by omega))
   ·by_cases k3:gi (gi a.keys i) 0=3
    ·rw [if_pos ⟨b1,.inr k3⟩] at hsc
     simp (maxSteps:=3000000) [go_sem,-List.length_flatten,-List.map_drop,-List.map_take,hl,hM,hk,hne1,hr1,hid,b1,k3,hA,↓hap]
     intros
     refine kn _ _ (Kl_next (n - (i+1)) 2 (by omega) ⟨i+1,q+1,rfl,by omega,rfl,rfl⟩ (by simp [Tm.get,hwi,hsc,hS1]) (by simp [-RL_rows,RL_boolss]) (by simp [hS1,hsc]) ⟨rlb_kd,rlb_i64s,trivial⟩ (by omega))
    ·rw [if_neg (fun h=>h.2.elim k1 k3),List.append_nil] at hsc
     simp (maxSteps:=3000000) [go_sem,-List.length_flatten,-List.map_drop,-List.map_take,hl,hM,hk,hne1,hr1,hid,b1,k1,k3]
     intros
     refine kn _ _ (Kl_next (n - (i+1)) 2 (by omega) ⟨i+1,q,rfl,by omega,rfl,rfl⟩ (by simp [Tm.get,hwi,hsc,hS1]) (by simp [-RL_rows,RL_boolss]) (by simp [hS1,hsc]) ⟨rlb_kd,rlb_i64s,trivial⟩ (by omega))
  ·rw [if_neg (fun h=>b1 h.1),List.append_nil] at hsc
   simp (maxSteps:=3000000) [go_sem,-List.length_flatten,-List.map_drop,-List.map_take,hl,hM,hk,hne1,hr1,hid,b1]
   intros
   refine kn _ _ (Kl_next (n - (i+1)) 2 (by omega) ⟨i+1,q,rfl,by omega,rfl,rfl⟩ (by simp [Tm.get,hwi,hsc,hS1]) (by simp [-RL_rows,RL_boolss]) (by simp [hS1,hsc]) ⟨rlb_kd,rlb_i64s,trivial⟩ (by omega))
 ·have:i=n:=by omega
  subst this
  simp (maxSteps:=3000000) [go_sem,-List.length_flatten,-List.map_drop,-List.map_take,kx,hM]
  intros
  rw [←hQ]
  unfold Rle
  rw [frzI (k:=7) (srcK a M id i) rfl rfl]
  exact leP_refl _ _
end Go.AM
