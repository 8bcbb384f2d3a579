/- Contracts of the program's functions. -/
import Derived.Test.YtpdjffpdanmoeaaGreatL7
import Derived.KernelRfl
namespace Go.AM
open Go.Proofs
set_option maxRecDepth 100000
set_option linter.unusedVariables false
set_option linter.unusedSimpArgs false
attribute [local go_sem] Function.comp_def argsT Opd.ev Tm.get put ares mapMo ares1 snilP bldParts bslParts putAt AV.cells AV.one astore aload loadCs callArgs abin abinInt aapp elems appMore appNone preLen aFa aFld apart aExt aPick aNot aLens aEqa cellsK fitsA LK.fitsA leavesA leafA nilD aNilc aCint aCid alive alen alenOk Rle lePs len_flat lit
structure Sol (c:Cz) (s:Sy):Prop where
 inv:SInv (fun p=>p∈psC c) (nmC c).length [] s
 w0:s.w.l=[]
 sg:s.sigs=c.sigs
 sa:s.a=stC c
 seen:∀ p∈psC c,seenP s p
 ps:∀ p∈psC c,inP s.a p∧okP c.sigs s.a p
 nv:(nmC c).length≤400
 pl:(psC c).length≤12
theorem LoadedC.sol {c:Cz} (h:LoadedC c):Sol c (endC c):=by
 obtain ⟨h1,h2,h3,⟨h4,h5⟩,h6⟩:=h.fin
 refine ⟨h2,h3,h4,h5,h6,?_,h.lok.names,?_⟩
 ·rw [h5];exact h.ps
 ·have:=psC_len (l:=c.sigs) c.l (newK,[],[],true)
  have h12:=h.small.l12
  simp only [List.length_nil,Nat.zero_add] at this
  exact Nat.le_trans this h12
theorem solved12_PF {c:Cz} (hf:FitC c):(LoadedC c∧∃ s,Sol c s∧PF Tryz.prog 12 [.agg c.cs] (.tuple [.agg s.cs,prs (psC c),.bool true]))∨(¬ LoadedC c∧PF Tryz.prog 12 [.agg c.cs] (.tuple [.agg nil15,.nilS,.bool false])):=by
 classical
 by_cases h:LoadedC c
 ·exact .inl ⟨h,_,h.sol,solvedY_PF h hf⟩
 ·exact .inr ⟨h,solvedN_PF h hf⟩
theorem bothR_is {a b:List Int} (hb:b.Nodup):bothR a b=bothL a b:=by
 unfold bothR bothK
 rw [List.take_length]
 have h1:∀ x,cntR b x b.length=if b.contains x=true then [x] else []:=fun x=>by
  unfold cntR
  rw [List.take_length]
  by_cases h:x∈b
  ·rw [hb.count,if_pos h,if_pos (by simpa using h)];rfl
  ·rw [List.count_eq_zero.2 h,if_neg (by simpa using h)];rfl
 induction a with
 | nil=>rfl
 | cons x a ih =>
  rw [List.flatMap_cons,ih,h1]
  simp only [bothL,List.filter_cons]
  split<;>rfl
theorem rise_nodup {l:List Int} (h:l.Pairwise (·<·)):l.Nodup:=h.imp fun {a b} h=>by omega
theorem bothL_sub {a b:List Int} (h:∀ x∈a,x∈b):bothL a b=a:=by
 unfold bothL
 exact List.filter_eq_self.2 fun x hx=>by simpa using h x hx
def risesTo (l:List Int) (i:Nat):Prop:=∀ j:Nat,1≤j→j<i→j<l.length→gi l (j - 1:Nat)<gi l j
theorem risesTo.one (l:List Int):risesTo l 1:=fun j h1 h2=>by omega
section
variable {ps:List (Int×Int)} {nv:Nat} {s:Sy}
end
def c9b:AFn:=lit fun m o w i y z p n s t k q r d c f b e a=>⟨66,q (r [i 2 (.box (t 0)),i 3 (.box (t 1)),i 4 (.mov (.lit (.bool false)))]) (q (r [i 15 (f 11 []),m 5 15]) (q (r [w 16 4 2,i 6 (.alloc [.nilS,.nilS,.nilS,.int .i64 0]),s (.store 4 (t 6) (t 16))]) (q (.regD [i 17 (.bslice 2 0 [.nilS,.nilS] []),a 18 1 2,o 19 18,w 21 2 3,i 22 (.bslice 2 1 [.nilS,.nilS] [(0,t 21)]),i 20 (.app 2 48 (t 17) (t 19)),i 23 (.app 2 48 (t 20) (t 22)),a 24 1 6,s (.store 1 (t 24) (t 23))] [(w 21 2 3,i 20 (.app 2 48 (t 17) (t 19)))]) (q (q .mark (r [w 26 4 2,i 27 (f 12 [t 26]),m 25 27,i 28 (.ext (t 25) 0),i 29 (.ext (t 25) 1),i 30 (.ext (t 25) 2),i 7 (.alloc [.nilS,.nilS,.nilS,.nilS,.nilS,.nilS,.nilS,.nilS,.nilS,.nilS,.nilS,.nilS,.nilS,.int .i64 0,.int .i64 0]),s (.store 15 (t 7) (t 28)),m 8 29,m 9 30])) (q (r [w 32 4 6,i 33 (f 12 [t 32]),m 31 33,i 34 (.ext (t 31) 0),i 35 (.ext (t 31) 1),i 36 (.ext (t 31) 2),i 10 (.alloc [.nilS,.nilS,.nilS,.nilS,.nilS,.nilS,.nilS,.nilS,.nilS,.nilS,.nilS,.nilS,.nilS,.int .i64 0,.int .i64 0]),s (.store 15 (t 10) (t 34)),m 11 35,m 12 36]) (q (q (r [m 37 9,i 38 (.not (t 37)),m 39 38,z 40 12 39,n 41 (.not (t 40)) 39,i 42 (.pick (t 39) (.lit (.bool true)) (t 41))]) (c 42 (q (r [m 43 5,m 4 43]) .ret) .skip)) (q (q (r [i 13 (.mov (k 0))]) (b 0 ((q (q (r [m 44 13,a 45 3 7,a 46 1 45,a 47 0 46,o 48 47,i 49 (.len (t 48)),i 50 (e .lss 44 49)]) (c 50 .skip (.exit 0))) (q (.block 1 (q (r [w 53 15 7,m 54 13,i 55 (f 22 [t 53,t 54]),m 14 55]) (q (r [m 56 14,w 57 15 10,m 58 13,i 59 (f 22 [t 57,t 58]),i 60 (f 20 [t 56,t 59]),i 61 (.len (t 60)),m 62 14,i 63 (.len (t 62)),i 64 (e .neq 61 63)]) (c 64 (q (r [i 4 (.mov (.lit (.bool false)))]) .ret) .skip)))) (r [m 51 13,i 52 (.bin .add (t 51) (k 1)),m 13 52])))))) (q (r [m 65 5,m 4 65]) .ret)))))))),[.tmp 4]⟩
def an9:An:=⟨[],[4]⟩
theorem c9b_ok:cFn Tryz.prog an9 Tryz.f9=some c9b:=by kernel_rfl
theorem termAt_pre {a b:Kd} (hp:∃ ks,b.keys=a.keys++ks) {x:Int} (hx:0≤x∧x<a.keys.length):termAt b x=termAt a x:=by
 obtain ⟨ks,hk⟩:=hp
 obtain ⟨i,rfl⟩:∃ i:Nat,x=i:=⟨x.toNat,by omega⟩
 rw [termAt_key (by rw [hk,List.length_append];omega),termAt_key (by omega),hk,giApp (by omega)]
theorem cl_ext {l:List Sg} {a b:Kd} (hFa:Fine l a) (hFb:Fine l b) (hp:∃ ks,b.keys=a.keys++ks) {fs fs':List (Int×Int)} (hsub:∀ p∈fs,p∈fs') (hput:∀ p∈fs,Put (fun p=>p∈fs) hFa p) {x y:Int}
  (h:(skOf hFa).Cl (fun p=>p∈fs) x y):Put (fun p=>p∈fs) hFa (x,y)∧(skOf hFb).Cl (fun p=>p∈fs') x y:=by
 induction h with
 | base h1=>exact ⟨hput _ h1,.base (hsub _ h1)⟩
 | @step x y u v _ h1 ih =>
  obtain ⟨i1,i2⟩:=ih
  have hst:=skOf_step hFa i1.inp
  have e:(skOf hFb).ps x y=(skOf hFa).ps x y:=by
   show (stepWay ⟨l,x,y,(termAt b x).1,(termAt b y).1⟩).2=(stepWay ⟨l,x,y,(termAt a x).1,(termAt a y).1⟩).2
   rw [termAt_pre hp i1.inp.1,termAt_pre hp i1.inp.2]
  exact ⟨part_put i1 (by simp only [hst];exact h1),.step i2 (by rw [e];exact h1)⟩
 | @trans x Y z _ hk _ i1 i2 =>
  refine ⟨⟨.trans i1.1.cl hk i2.1.cl,⟨i1.1.inp.1,i2.1.inp.2⟩,i1.1.ok.1,i2.1.ok.2⟩,.trans i1.2 ?_ i2.2⟩
  show (termAt b Y).1.kind=2
  rw [termAt_pre hp i1.1.inp.2]
  exact hk
def moreC (c:Cz) (m:Cn):Cz:=⟨c.sigs,c.l++[m],c.ranks,c.depth⟩
theorem more_load {c:Cz} {m:Cn} (hd:LoadedC (moreC c m)) (hc:LoadedC c):(∃ ks,(stC (moreC c m)).keys=(stC c).keys++ks)∧∀ p∈psC c,p∈psC (moreC c m):=by
 have e:loadC (moreC c m).sigs (moreC c m).l=stepC c.sigs (loadC c.sigs c.l) m:=by
  show (c.l++[m]).foldl (stepC c.sigs) _=_
  rw [List.foldl_append]
  rfl
 have hn:=hd.small.nodes (i:=c.l.length) (by simp [moreC])
 have hg:gi (moreC c m).l (c.l.length:Nat)=m:=by simp [moreC,gi,List.getD]
 rw [hg] at hn
 have h1:=hc.small.cok.step (c:=m) (rightN_spec hn.1.1).2.2.2 (rightN_spec hn.2.1).2.2.2
 have h2:=hd.is
 refine ⟨?_,?_⟩
 ·show ∃ ks,(loadC (moreC c m).sigs (moreC c m).l).1.keys=_
  rw [e]
  exact h1.2
 ·show ∀ p∈psC c,p∈(loadC (moreC c m).sigs (moreC c m).l).2.2.1
  rw [e] at h2 ⊢
  intro p hp
  unfold stepC at h2 ⊢
  by_cases k1:(loadC c.sigs c.l).2.2.2=false
  ·rw [if_pos k1];exact hp
  rw [if_neg k1] at h2 ⊢
  simp only at h2 ⊢
  split at h2
  ·cases h2
  rename_i k2
  rw [if_neg k2]
  split at h2
  ·cases h2
  rename_i k3
  rw [if_neg k3]
  exact List.mem_append_left _ hp
theorem more_blw {c:Cz} {m:Cn} {s t:Sy} (hc:LoadedC c) (hd:LoadedC (moreC c m)) (hs:Sol c s) (ht:Sol (moreC c m) t) {v:Int} (hv:0≤v∧v<(nmC c).length) :
  v<(nmC (moreC c m)).length∧∀ x∈blwW s.a s.g (fnd s.g.u.v v),x∈blwW t.a t.g (fnd t.g.u.v v):=by
 obtain ⟨hp,hsub⟩:=more_load hd hc
 rw [←hs.sa,←ht.sa] at hp
 have hFs:Fine c.sigs s.a:=by rw [←hs.sg];exact hs.inv.fine
 have hFt:Fine c.sigs t.a:=by have:=ht.inv.fine;rw [ht.sg] at this;exact this
 have hput:∀ p∈psC c,Put (fun p=>p∈psC c) hFs p:=fun p hp=>⟨.base hp,(hs.ps p hp).1,(hs.ps p hp).2⟩
 have hn:=hs.inv.vok.num v hv
 have hr:=termAt_range (kind_is (a:=s.a) (x:=atV s.a v) (by omega))
 have ht2:=termAt_pre hp hr
 have hv2:=ht.inv.vok.sym (atV s.a v) (by rw [ht2];exact hn.1)
 rw [ht2,hn.2] at hv2
 refine ⟨hv2.1.2,fun x hx=>?_⟩
 have hk:=hs.inv.lk
 have hxk:=((mem_blwW hk (hk.gok.fin hv)).1 hx).in hk (hk.gok.fin hv)
 have hx1:=(SInv.below hs.inv hs.w0 hs.seen hxk.2 hv).2 hx
 have hx2:(skOf hFs).Cl (fun p=>p∈psC c) x (atV s.a v):=by
  have key:∀ (l:List Sg) (e:s.sigs=l) (hF:Fine l s.a),(skOf hF).Cl (fun p=>p∈psC c) x (atV s.a v):=fun l e hF=>by subst e;exact hx1
  exact key _ hs.sg hFs
 have hx3:=(cl_ext hFs hFt hp hsub hput hx2).2
 refine (SInv.below ht.inv ht.w0 ht.seen (by rw [termAt_pre hp hxk.1];exact hxk.2) hv2.1).1 ?_
 rw [hv2.2]
 have key:∀ (l:List Sg) (e:t.sigs=l) (hF:Fine l t.a),(skOf hF).Cl (fun p=>p∈psC (moreC c m)) x (atV s.a v)→(skOf ht.inv.fine).Cl (fun p=>p∈psC (moreC c m)) x (atV s.a v):=fun l e hF h=>by subst e;exact h
 exact key _ ht.sg hFt hx3
theorem more_fz {c:Cz} {m:Cn} {CS:List AV} {g:Nat} (hlen:(c.l.length+1)*2≤CS.length) (hch:chunk 2 CS (c.l.length+1)=(c.l++[m]).map fun c=>[nds c.l,nds c.r]) :
  (([ABlk.cells 0 c.cs,.cells 0 [nds m.l,nds m.r],.cells 0 [sigs c.sigs,.loc 3 g 0 (c.l.length+1) 2 false,ints c.ranks,i64 c.depth],.cells g CS].map (fzB 3 g CS 9)).set 3 (.dead g)).take 3=[.cells 0 c.cs,.cells 0 [nds m.l,nds m.r],.cells 0 (moreC c m).cs]:=by
 have h:fz 3 g CS 9 (.loc 3 g 0 (c.l.length+1) 2 false)=cns (c.l++[m]):=by
  show (if 3=3∧g=g∧0+(c.l.length+1)*2≤CS.length then AV.rows false 2 (chunk 2 (CS.drop 0) (c.l.length+1)) else _)=_
  rw [if_pos ⟨rfl,rfl,by omega⟩,List.drop_zero,hch]
 have e1:c.cs.map (fz 3 g CS 9)=c.cs:=rfl
 have e2:[nds m.l,nds m.r].map (fz 3 g CS 9)=[nds m.l,nds m.r]:=rfl
 have e3:[sigs c.sigs,.loc 3 g 0 (c.l.length+1) 2 false,ints c.ranks,i64 c.depth].map (fz 3 g CS 9)=[sigs c.sigs,cns (c.l++[m]),ints c.ranks,i64 c.depth]:=by
  rw [←h]
  rfl
 simp only [List.map_cons,List.map_nil,fzB] at e1 e2 e3 ⊢
 simp only [e1,e2,e3,List.set_cons_succ,List.set_cons_zero,List.take_succ_cons,List.take_zero,moreC]
def FitN (e:List Nd):Prop:=e.length≤1048576∧∀ j:Nat,j<e.length→(gi e j).name.size≤maxA
theorem FitC.more {c:Cz} (h:FitC c) {m:Cn} (hl:FitN m.l) (hr:FitN m.r):FitC (moreC c m):=by
 refine ⟨h.sg,fun i hi=>?_⟩
 have hi':i<c.l.length+1:=by simpa [moreC] using hi
 by_cases e:i=c.l.length
 ·subst e
  have hg:gi (moreC c m).l (c.l.length:Nat)=m:=by simp [moreC,gi,List.getD]
  rw [hg]
  exact ⟨⟨hl.1,hr.1⟩,hl.2,hr.2⟩
 ·have hg:gi (moreC c m).l i=gi c.l i:=giApp (by omega)
  rw [hg]
  exact h.nd i (by omega)
set_option maxHeartbeats 2000000 in
theorem law9_PF (c:Cz) (hf:FitC c) (m:Cn) (hl:FitN m.l) (hr:FitN m.r) (hcl:c.l.length≤1048576):PF Tryz.prog 9 [.agg c.cs,.agg [nds m.l,nds m.r]] (.bool true):=by
 refine PFk 9 hm Tryz.func9 c9b_ok (Nat.le_of_ble_eq_true rfl) (fun x hx=>by
  simp only [List.mem_cons,List.not_mem_nil,or_false] at hx
  rcases hx with rfl|rfl
  ·exact cz_RL c _ (by simp)
  ·simp) (by simp) ?_
 generalize hQ:Rle 9 (AV.bool true)=Q
 have hsh:=shown11_PF
 have hfin:∀ H,Q (AV.bool true) H:=fun H=>by rw [←hQ];simp [Rle,frz,leP]
 have hfd:=hf.more hl hr
 have hcA:c.l.length+1≤maxA:=by unfold maxA;omega
 refine by_way (A:=?G) (fun key=>?main) ?sub
 case main =>
  by_cases h0:c.l=[]
  ·simp (maxSteps:=3000000) [go_sem,-List.length_flatten,-List.map_drop,-List.map_take,c9b]
   refine PF.call hsh 9 (by simp [lePs,-List.length_flatten,-List.map_drop,-List.map_take,Function.comp_def,len_flat]) ?_
   simp (maxSteps:=3000000) [go_sem,-List.length_flatten,-List.map_drop,-List.map_take,Kc,h0,indB,apartB,aliveRd]
   refine fun _=>⟨by omega,rfl,run_markT [(6,.ptr 2 0 0),(5,.bool true),(2,.ptr 0 0 0)] [.cells 0 c.cs,.cells 0 [nds m.l,nds m.r],.cells 0 (moreC c m).cs] ((Wk.fz 3 9 rfl).trans (Wk.tell 3 (by omega) (by simp [Tm.get,fzT,fz]) (by simp) (by simp [fzB,fz,chunk,moreC,h0]) ⟨rlb_cz,by simp [RLB],rlb_cz,trivial⟩)) ?_⟩
   exact key ()
  ·simp (maxSteps:=3000000) [go_sem,-List.length_flatten,-List.map_drop,-List.map_take,c9b]
   refine PF.call hsh 9 (by simp [lePs,-List.length_flatten,-List.map_drop,-List.map_take,Function.comp_def,len_flat]) ?_
   have hap:=app_one (f:=fun c:Cn=>[nds c.l,nds c.r]) (sz:=2) (l:=c.l) (fun _=>rfl) m rfl
   simp (maxSteps:=3000000) [go_sem,-List.length_flatten,-List.map_drop,-List.map_take,Kc,h0,indB,apartB,aliveRd,hcA,↓hap]
   refine fun _=>⟨by omega,fun _ _=>⟨rfl,run_markT [(6,.ptr 2 0 0),(5,.bool true),(2,.ptr 0 0 0)] [.cells 0 c.cs,.cells 0 [nds m.l,nds m.r],.cells 0 (moreC c m).cs] ((Wk.fz 3 9 rfl).trans (Wk.tell 3 (by omega) (by simp [Tm.get,fzT,fz]) (by simp) ?_ ⟨rlb_cz,by simp [RLB],rlb_cz,trivial⟩)) ?_⟩⟩
   ·have hCS:(List.map (fun c:Cn=>[nds c.l,nds c.r]) c.l).flatten++[nds m.l,nds m.r]=fl (fun c:Cn=>[nds c.l,nds c.r]) (c.l++[m]):=by simp [fl]
    have hch:=chunk_fl (f:=fun c:Cn=>[nds c.l,nds c.r]) (sz:=2) (fun _=>rfl) (c.l++[m])
    rw [List.length_append,List.length_singleton,←hCS] at hch
    have hlen:(c.l.length+1)*2≤((List.map (fun c:Cn=>[nds c.l,nds c.r]) c.l).flatten++[nds m.l,nds m.r]).length:=by rw [hCS,fl_len (sz:=2) (fun _=>rfl)];simp
    exact more_fz hlen hch
   exact key ()
 case sub =>
  have hnd:∀ H,Q (AV.bool true) H:=hfin
  have hcs2:(moreC c m).cs=[sigs c.sigs,cns (c.l++[m]),ints c.ranks,i64 c.depth]:=rfl
  rcases solved12_PF hf with ⟨hL,s,hS,h12⟩|⟨hL,h12⟩
  ·rcases solved12_PF hfd with ⟨hL2,t,hT,h12b⟩|⟨hL2,h12b⟩
   ·have hk:=hS.inv.lk
    have hk2:=hT.inv.lk
    have hmb:=fun (v:Int) (hv:0≤v∧v<((nmC c).length:Nat))=>more_blw hL hL2 hS hT hv
    have hb:=fun (v:Int) (hv:0≤v∧v<((nmC c).length:Nat))=>below22_PF hk hS.nv hv
    have hb2:=fun (v:Int) (hv:0≤v∧v<((nmC (moreC c m)).length:Nat))=>below22_PF hk2 hT.nv hv
    have hlv:=hk.gok.lv
    have hnv:=hS.nv
    have hf1:=hS.inv.few
    have hf2:=hT.inv.few
    generalize psC c=ps at *
    generalize psC (moreC c m)=ps2 at *
    generalize (nmC c).length=nv at *
    generalize (nmC (moreC c m)).length=nv2 at *
    rw [hcs2] at h12b ⊢
    clear hS hT
    have hnA:nv≤maxA:=by unfold maxA;omega
    simp (maxSteps:=3000000) [go_sem,-List.length_flatten,-List.map_drop,-List.map_take]
    refine PF.call h12 9 (by simp [lePs,-List.length_flatten,-List.map_drop,-List.map_take,Function.comp_def,len_flat]) ?_
    simp (maxSteps:=3000000) [go_sem,-List.length_flatten,-List.map_drop,-List.map_take,Kc]
    refine PF.call h12b 9 (by simp [lePs,-List.length_flatten,-List.map_drop,-List.map_take,Function.comp_def,len_flat]) ?_
    simp (maxSteps:=3000000) [go_sem,-List.length_flatten,-List.map_drop,-List.map_take,Kc]
    refine run_loopK (fun r T H=>∃ k:Nat,r=nv - k∧k≤nv∧T=[(13,i64 k),(10,.ptr 4 0 0),(7,.ptr 3 0 0),(5,.bool true)]∧H=[.cells 0 c.cs,.cells 0 [nds m.l,nds m.r],.cells 0 [sigs c.sigs,cns (c.l++[m]),ints c.ranks,i64 c.depth],.cells 0 s.cs,.cells 0 t.cs])
     nv [(13,i64 (0:Nat)),(10,.ptr 4 0 0),(7,.ptr 3 0 0),(5,.bool true)] [.cells 0 c.cs,.cells 0 [nds m.l,nds m.r],.cells 0 [sigs c.sigs,cns (c.l++[m]),ints c.ranks,i64 c.depth],.cells 0 s.cs,.cells 0 t.cs]
     (Wk.sub (by simp [Tm.get])) ⟨0,rfl,Nat.zero_le _,rfl,rfl⟩ ?_
    rintro r T H ⟨k,rfl,hkn,rfl,rfl⟩ KK kx kr kn
    by_cases hkl:k<nv
    ·have hknx:=nxt hkl hnA
     have hki:0≤(k:Int)∧(k:Int)<nv:=by omega
     obtain ⟨hk2,hsub⟩:=hmb k hki
     have b1:=hb k hki
     have b2:=hb2 k ⟨hki.1,hk2⟩
     have hl1:=blwW_len s.a s.g (fnd s.g.u.v k)
     have hl2:=blwW_len t.a t.g (fnd t.g.u.v k)
     have hr2:=blwW_rise t.a t.g (fnd t.g.u.v k)
     generalize blwW s.a s.g (fnd s.g.u.v k)=B1 at *
     generalize blwW t.a t.g (fnd t.g.u.v k)=B2 at *
     have hmul:B1.length*B2.length≤400*400:=Nat.mul_le_mul (by omega) (by omega)
     have hbb:=both20_PF B1 B2 (by omega) (by omega) (by omega)
     rw [bothR_is (rise_nodup hr2),bothL_sub hsub] at hbb
     simp (maxSteps:=3000000) [go_sem,-List.length_flatten,-List.map_drop,-List.map_take,hkl,hlv]
     refine fun _=>PF.call b1 9 (by simp [lePs,-List.length_flatten,-List.map_drop,-List.map_take,Function.comp_def,len_flat]) ?_
     simp (maxSteps:=3000000) [go_sem,-List.length_flatten,-List.map_drop,-List.map_take,Kc]
     refine PF.call b2 9 (by simp [lePs,-List.length_flatten,-List.map_drop,-List.map_take,Function.comp_def,len_flat]) ?_
     simp (maxSteps:=3000000) [go_sem,-List.length_flatten,-List.map_drop,-List.map_take,Kc]
     refine PF.call hbb 9 (by simp [lePs,-List.length_flatten,-List.map_drop,-List.map_take,Function.comp_def,len_flat]) ?_
     simp (maxSteps:=3000000) [go_sem,-List.length_flatten,-List.map_drop,-List.map_take,Kc]
     intros
     exact kn _ _ (Kl_sub (nv - (k+1)) ⟨k+1,rfl,by omega,rfl,rfl⟩ (by simp [Tm.get,hknx]) (by omega))
    ·simp (maxSteps:=3000000) [go_sem,-List.length_flatten,-List.map_drop,-List.map_take,hkl,hlv,kx]
     intros
     exact hfin _
   ·rw [hcs2] at h12b ⊢
    simp (maxSteps:=3000000) [go_sem,-List.length_flatten,-List.map_drop,-List.map_take]
    refine PF.call h12 9 (by simp [lePs,-List.length_flatten,-List.map_drop,-List.map_take,Function.comp_def,len_flat]) ?_
    simp (maxSteps:=3000000) [go_sem,-List.length_flatten,-List.map_drop,-List.map_take,Kc]
    refine PF.call h12b 9 (by simp [lePs,-List.length_flatten,-List.map_drop,-List.map_take,Function.comp_def,len_flat]) ?_
    simp (maxSteps:=3000000) [go_sem,-List.length_flatten,-List.map_drop,-List.map_take,Kc]
    exact hfin _
  ·rcases solved12_PF hfd with ⟨hL2,t,hT,h12b⟩|⟨hL2,h12b⟩
   all_goals
    rw [hcs2] at h12b ⊢
    simp (maxSteps:=3000000) [go_sem,-List.length_flatten,-List.map_drop,-List.map_take]
    refine PF.call h12 9 (by simp [lePs,-List.length_flatten,-List.map_drop,-List.map_take,Function.comp_def,len_flat]) ?_
    simp (maxSteps:=3000000) [go_sem,-List.length_flatten,-List.map_drop,-List.map_take,Kc]
    refine PF.call h12b 9 (by simp [lePs,-List.length_flatten,-List.map_drop,-List.map_take,Function.comp_def,len_flat]) ?_
    simp (maxSteps:=3000000) [go_sem,-List.length_flatten,-List.map_drop,-List.map_take,Kc]
    exact hfin _
def tyNds:Ty:=.slice (.struct [.int .i64,.str,.int .i64])
def tyCons:Ty:=.struct [tyNds,tyNds]
def tyCase:Ty:=.struct [tySigs,.slice tyCons,tyInts,.int .i64]
def ndsFit (l:List Nd):Prop:=l.length≤lim∧∀ x∈l,(Lit.int .i64 x.kind).wf=true∧x.name.size≤lim∧(Lit.int .i64 x.n).wf=true
theorem is_nds {cs:List AV} (h:tyNds.is cs):∃ l:List Nd,cs=[nds l]∧ndsFit l:=by
 simp only [tyNds,Ty.is,Ty.isL] at h
 obtain ⟨e1,rfl,hl1,hs1⟩:=h
 obtain ⟨l,rfl,hl⟩:=is_rows (f:=fun x:Nd=>x.cs) (p:=fun x=>(Lit.int .i64 x.kind).wf=true∧x.name.size≤lim∧(Lit.int .i64 x.n).wf=true) (fun z hz=>by
  obtain ⟨_,_,rfl,⟨k,rfl,h1⟩,_,_,rfl,⟨s,rfl,h2⟩,_,_,rfl,⟨n,rfl,h3⟩,rfl⟩:=hz
  exact ⟨⟨k,s,n⟩,rfl,h1,h2,h3⟩) hs1
 exact ⟨l,rfl,by simpa using hl1,hl⟩
theorem ndsFit.fit {l:List Nd} (h:ndsFit l):FitN l:=⟨h.1,fun j hj=>by
 have:=(h.2 (gi l j) (gi_mem hj)).2.1
 unfold lim at this
 unfold maxA
 omega⟩
theorem is_cons {cs:List AV} (h:tyCons.is cs):∃ m:Cn,cs=[nds m.l,nds m.r]∧ndsFit m.l∧ndsFit m.r:=by
 simp only [tyCons,Ty.is,Ty.isL] at h
 obtain ⟨_,_,rfl,k1,_,_,rfl,k2,rfl⟩:=h
 obtain ⟨l,rfl,f1⟩:=is_nds k1
 obtain ⟨r,rfl,f2⟩:=is_nds k2
 exact ⟨⟨l,r⟩,rfl,f1,f2⟩
theorem is_case {cs:List AV} (h:tyCase.is cs):∃ c:Cz,cs=c.cs∧FitC c∧c.l.length≤1048576∧intsFit c.ranks:=by
 have h':∃ a b,cs=a++b∧tySigs.is a∧∃ a' b',b=a'++b'∧(∃ es,a'=[.rows false tyCons.size es]∧es.length≤lim∧∀ x∈es,tyCons.is x)∧∃ a2 b2,b'=a2++b2∧tyInts.is a2∧∃ a3 b3,b2=a3++b3∧(∃ n:Int,a3=[.int .i64 n]∧(Lit.int .i64 n).wf=true)∧b3=[]:=by
  simpa [tyCase,Ty.is,Ty.isL] using h
 obtain ⟨_,_,rfl,k1,_,_,rfl,⟨es,rfl,hl1,hs1⟩,_,_,rfl,k3,_,_,rfl,⟨d,rfl,k4⟩,rfl⟩:=h'
 obtain ⟨sg,rfl,f1⟩:=is_sigs k1
 obtain ⟨rk,rfl,f3⟩:=is_ints k3
 obtain ⟨l,rfl,hl⟩:=is_rows (f:=fun c:Cn=>[nds c.l,nds c.r]) (p:=fun c=>ndsFit c.l∧ndsFit c.r) (fun z hz=>is_cons hz) hs1
 have hll:l.length≤1048576:=by simpa [lim] using hl1
 refine ⟨⟨sg,l,rk,d⟩,rfl,⟨f1.args,fun i hi=>?_⟩,hll,f3⟩
 have:=hl (gi l i) (gi_mem hi)
 exact ⟨⟨this.1.fit.1,this.2.fit.1⟩,this.1.fit.2,this.2.fit.2⟩
end Go.AM
