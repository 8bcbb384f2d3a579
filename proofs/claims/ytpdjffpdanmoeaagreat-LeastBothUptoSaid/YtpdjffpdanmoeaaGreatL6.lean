/- Contracts of the program's functions. -/
import Derived.Test.YtpdjffpdanmoeaaGreatL5
import Derived.KernelRfl
namespace Go.AM
open Go.Proofs
set_option maxRecDepth 100000
set_option linter.unusedVariables false
set_option linter.unusedSimpArgs false
attribute [local go_sem] Function.comp_def argsT Opd.ev Tm.get put ares mapMo ares1 snilP bldParts bslParts putAt AV.cells AV.one astore aload loadCs callArgs abin abinInt aapp elems appMore appNone preLen aFa aFld apart aExt aPick aNot aLens aEqa cellsK fitsA LK.fitsA leavesA leafA nilD aNilc aCint aCid alive alen alenOk Rle lePs len_flat lit
inductive Blw (a:Kd) (g:Gr):Int→Int→Prop
 | base {x v:Int}:x∈gi g.pre v→numOf a g x<0→Blw a g x v
 | step {x z v:Int}:z∈gi g.pre v→0≤numOf a g z→Blw a g x (fnd g.u.v (numOf a g z))→Blw a g x v
structure Lk (l:List Sg) (a:Kd) (nv:Nat) (g:Gr):Prop where
 vok:Vok a nv
 gok:Gok l a nv g
 few:a.keys.length≤400
 acy:∀ v:Int,(0≤v∧v<nv)→∀ z∈gi g.pre v,0≤numOf a g z→lessR g.ranks (fnd g.u.v (numOf a g z)) v=true
 kds:∀ v:Int,(0≤v∧v<nv)→∀ z∈gi g.pre v,(termAt a z).1.kind=1∨(termAt a z).1.kind=2∨(termAt a z).1.kind=3
 fst:∀ v:Int,(0≤v∧v<nv)→∀ z∈gi g.pre v,gi g.u.v v=v
section
variable {l:List Sg} {a:Kd} {nv:Nat} {g:Gr}
theorem SInv.lk {first:Int×Int→Prop} {ex:List (Int×Int)} {s:Sy} (h:SInv first nv ex s):Lk s.sigs s.a nv s.g:=by
 have hlp:=h.gok.lp
 have hpre:∀ v:Int,(0≤v∧v<nv)→∀ z∈gi s.g.pre v,(ghOf s.a s.g).pre (atV s.a v) z:=fun v hv z hz=>⟨v,by omega,rfl,hz⟩
 refine ⟨h.vok,h.gok,h.few,fun v hv z hz hn=>?_,fun v hv z hz=>?_,fun v hv z hz=>?_⟩
 ·have hk:(termAt s.a z).1.kind=2:=by
   by_cases hk:(termAt s.a z).1.kind=2
   ·exact hk
   ·have:=(numOf_neg h.vok h.gok.lv z).2 hk
    omega
  have h1:=h.inv.pl _ _ (hpre v hv z hz) hk
  have e1:=(repG_sym h.vok h.gok hk).2
  have e2:=(h.vok.num v hv).2
  have h2:lessR s.g.ranks (termAt s.a (repG s.a s.g z)).1.sym (termAt s.a (atV s.a v)).1.sym=true:=h1
  rw [e1,e2] at h2
  rwa [numOf_var h.vok h.gok.lv hk]
 ·exact (h.inv.pk _ _ (hpre v hv z hz)).2
 ·have h1:=(h.inv.pk _ _ (hpre v hv z hz)).1.2
  exact (rep_first h.vok h.gok hv).1 h1
theorem Lk.nin (hk:Lk l a nv g) {v z:Int} (hn:0≤numOf a g z):0≤numOf a g z∧numOf a g z<nv:=by
 refine ⟨hn,?_⟩
 by_cases h:(termAt a z).1.kind=2
 ·rw [numOf_var hk.vok hk.gok.lv h]
  exact (hk.vok.sym z h).1.2
 ·rw [numOf_not h] at hn;omega
theorem Lk.zin (hk:Lk l a nv g) {v z:Int} (hv:0≤v∧v<nv) (hz:z∈gi g.pre v):0≤z∧z<a.keys.length:=termAt_range (hk.gok.inp v hv z hz).1
theorem Blw.in (hk:Lk l a nv g) {x v:Int} (h:Blw a g x v) (hv:0≤v∧v<nv):(0≤x∧x<a.keys.length)∧((termAt a x).1.kind=1∨(termAt a x).1.kind=3):=by
 induction h with
 | @base v h hn =>
  refine ⟨hk.zin hv h,?_⟩
  have:=hk.kds v hv x h
  have:=(numOf_neg hk.vok hk.gok.lv x).1 hn
  omega
 | @step z v h hn _ ih=>exact ih (hk.gok.fin (hk.nin (v:=v) hn))
open Classical in
noncomputable def blwW (a:Kd) (g:Gr) (v:Int):List Int:=((List.range a.keys.length).map fun (k:Nat)=>(k:Int)).filter fun x=>decide (Blw a g x v)
theorem mem_rng {n:Nat} {x:Int}:x∈((List.range n).map fun (k:Nat)=>(k:Int))↔0≤x∧x<n:=by
 simp only [List.mem_map,List.mem_range]
 constructor
 ·rintro ⟨k,h,rfl⟩;omega
 ·exact fun h=>⟨x.toNat,by omega,by omega⟩
theorem rng_rise (n:Nat):((List.range n).map fun (k:Nat)=>(k:Int)).Pairwise (·<·):=by
 rw [List.pairwise_map]
 exact List.pairwise_lt_range.imp fun h=>by omega
theorem mem_blwW (hk:Lk l a nv g) {x v:Int} (hv:0≤v∧v<nv):x∈blwW a g v↔Blw a g x v:=by
 classical
 unfold blwW
 rw [List.mem_filter,mem_rng]
 simp only [decide_eq_true_eq]
 exact ⟨fun h=>h.2,fun h=>⟨(h.in hk hv).1,h⟩⟩
theorem blwW_rise (a:Kd) (g:Gr) (v:Int):(blwW a g v).Pairwise (·<·):=by
 classical
 unfold blwW
 exact (rng_rise _).filter _
theorem blwW_len (a:Kd) (g:Gr) (v:Int):(blwW a g v).length≤a.keys.length:=by
 classical
 unfold blwW
 exact Nat.le_trans (List.length_filter_le _ _) (by simp)
theorem rise_int:∀ {l m:List Int},l.Pairwise (·<·)→m.Pairwise (·<·)→(∀ x,x∈l↔x∈m)→l=m
 | [],[],_,_,_=>rfl
 | [],b::m,_,_,h=>by have:=(h b).2 (by simp);simp at this
 | a::l,[],_,_,h=>by have:=(h a).1 (by simp);simp at this
 | a::l,b::m,hl,hm,h=>by
  rw [List.pairwise_cons] at hl hm
  have e:a=b:=by
   have h1:=(h a).1 (by simp)
   have h2:=(h b).2 (by simp)
   rw [List.mem_cons] at h1 h2
   rcases h1 with h1|h1
   ·exact h1
   ·rcases h2 with h2|h2
    ·exact h2.symm
    ·have:=hm.1 _ h1
     have:=hl.1 _ h2
     omega
  subst e
  rw [rise_int hl.2 hm.2 fun x=>?_]
  constructor
  ·intro hx
   have h1:=(h x).1 (by simp [hx])
   have:=hl.1 _ hx
   rw [List.mem_cons] at h1
   rcases h1 with h1|h1
   ·omega
   ·exact h1
  ·intro hx
   have h1:=(h x).2 (by simp [hx])
   have:=hm.1 _ hx
   rw [List.mem_cons] at h1
   rcases h1 with h1|h1
   ·omega
   ·exact h1
theorem up_blw (hk:Lk l a nv g) {x y:Int} (hx:(termAt a x).1.kind=1∨(termAt a x).1.kind=3) (h:Sk.Up (ghOf a g).up x y):x=y∨∀ v:Int,(0≤v∧v<nv)→y=atV a v→Blw a g x v:=by
 induction h with
 | nil=>exact .inl rfl
 | @snoc y w h1 h2 ih =>
  refine .inr fun v hv hw=>?_
  obtain ⟨z,⟨n,hn,e,hz⟩,hr⟩:=h2
  rw [hk.gok.lp] at hn
  have e2:n=v:=atV_inj hk.vok hn hv (e▸hw)
  subst e2
  by_cases k2:(termAt a z).1.kind=2
  ·have hs:=hk.vok.sym z k2
   have e3:numOf a g z=(termAt a z).1.sym:=numOf_var hk.vok hk.gok.lv k2
   have e4:y=atV a (fnd g.u.v (numOf a g z)):=by
    rw [←hr,e3];exact repG_var hk.vok hk.gok.lv k2
   rcases ih with rfl|ih
   ·exfalso
    have:=(repG_sym hk.vok hk.gok k2).1
    have hr':repG a g z=x:=hr
    rw [hr'] at this
    omega
   ·exact .step hz (by omega) (ih _ (hk.gok.fin (by omega)) e4)
  ·have hr':repG a g z=y:=hr
   rw [repG_not k2] at hr'
   subst hr'
   clear ih hw
   cases h1 with
   | nil=>exact .base hz (by rw [numOf_not k2];omega)
   | snoc h3 h4 =>
    obtain ⟨z2,⟨n2,hn2,e6,hz2⟩,hr2⟩:=h4
    exact absurd (e6▸(hk.vok.num n2 (by rw [←hk.gok.lp];exact hn2)).1) k2
theorem blw_up (hk:Lk l a nv g) {x v:Int} (h:Blw a g x v) (hv:0≤v∧v<nv):Sk.Up (ghOf a g).up x (atV a v):=by
 induction h with
 | @base v h hn =>
  refine .snoc (.nil _) ⟨x,⟨v,by rw [hk.gok.lp];exact hv,rfl,h⟩,?_⟩
  exact repG_not ((numOf_neg hk.vok hk.gok.lv x).1 hn)
 | @step z v h hn _ ih =>
  have hin:=hk.nin (v:=v) hn
  refine .snoc (ih (hk.gok.fin hin)) ⟨z,⟨v,by rw [hk.gok.lp];exact hv,rfl,h⟩,?_⟩
  have k2:(termAt a z).1.kind=2:=by
   by_cases k2:(termAt a z).1.kind=2
   ·exact k2
   ·rw [numOf_not k2] at hn;omega
  show repG a g z=_
  rw [repG_var hk.vok hk.gok.lv k2,numOf_var hk.vok hk.gok.lv k2]
end
section
variable {first:Int×Int→Prop} {nv:Nat} {s:Sy}
theorem SInv.below (h:SInv first nv [] s) (hw:s.w.l=[]) (h0:∀ p,first p→seenP s p) {x v:Int} (hx:(termAt s.a x).1.kind=1∨(termAt s.a x).1.kind=3) (hv:0≤v∧v<nv) :
  (skOf h.fine).Cl first x (atV s.a v)↔x∈blwW s.a s.g (fnd s.g.u.v v):=by
 have hk:=h.lk
 have hQ:∀ p,¬ p∈[]++s.w.l:=fun p=>by rw [hw];simp
 have hD:=h.inv.done h0 hQ
 have hS:=h.inv.sound
 have hn:=h.vok.num v hv
 have hf:=h.gok.fin hv
 have e:repG s.a s.g (atV s.a v)=atV s.a (fnd s.g.u.v v):=by rw [repG_var h.vok h.gok.lv hn.1,hn.2]
 rw [Sk.below_iff hD hS hx hn.1,mem_blwW hk hf]
 show Sk.Up (ghOf s.a s.g).up x (repG s.a s.g (atV s.a v))↔_
 rw [e]
 refine ⟨fun hu=>?_,fun hb=>blw_up hk hb hf⟩
 rcases up_blw hk hx hu with e2|h2
 ·have:=(h.vok.num _ hf).1
  rw [←e2] at this
  omega
 ·exact h2 _ hf rfl
end
abbrev Mx:=List (List Bool)
def val (M:Mx) (n k:Nat):Bool:=(M.getD n []).getD k false
abbrev bs (r:List Bool):List AV:=r.map AV.bool
def rb (r:List Bool):ABlk:=.cells 0 (bs r)
structure Sh (M:Mx) (h w:Nat):Prop where
 len:M.length=h
 wid:∀ n,n<h→(M.getD n []).length=w
def HM (A:AHeap) (M:Mx) (C:AHeap):AHeap:=A++(M.map rb++C)
section
variable {A C:AHeap} {M:Mx}
theorem HM_len:(HM A M C).length=A.length+(M.length+C.length):=by simp [HM]
theorem HM_row {n:Nat} (h:n<M.length):(HM A M C)[A.length+n]?=some (rb (M.getD n [])):=by
 unfold HM
 rw [List.getElem?_append_right (by omega),show A.length+n - A.length=n by omega,List.getElem?_append_left (by simpa using h)]
 simp [List.getD,h]
theorem HM_set {n:Nat} (h:n<M.length) (r:List Bool):(HM A M C).set (A.length+n) (rb r)=HM A (M.set n r) C:=by
 unfold HM
 rw [List.set_append_right _ _ (by omega),show A.length+n - A.length=n by omega,List.set_append_left _ _ (by simpa using h),List.map_set]
theorem HM_app (X:AHeap):HM A M C++X=HM A M (C++X):=by simp [HM]
theorem HM_C {i:Nat}:(HM A M C)[A.length+(M.length+i)]?=C[i]?:=by
 unfold HM
 rw [List.getElem?_append_right (by omega),show A.length+(M.length+i) - A.length=M.length+i by omega,List.getElem?_append_right (by simp),List.length_map,show M.length+i - M.length=i by omega]
end
def outC2 (B h w:Nat):List AV:=(List.range h).map fun n:Nat=>AV.loc (B+n) 0 0 w 1 false
theorem outC2_len (B h w:Nat):(outC2 B h w).length=h:=by simp [outC2]
theorem outC2_get {B h w n:Nat} (hn:n<h):(outC2 B h w)[n]?=some (.loc (B+n) 0 0 w 1 false):=by simp [outC2,hn]
theorem outC2_load {B h w n:Nat} (hn:n<h):loadCs 1 false ((outC2 B h w).drop n)=some (.loc (B+n) 0 0 w 1 false):=by
 have hl:=outC2_len B h w
 have:((outC2 B h w).drop n).head?=(outC2 B h w)[n]?:=by simp
 simp [loadCs,hl,outC2_get hn]
 omega
theorem bs_load {r:List Bool} {k:Nat} (hk:k<r.length):loadCs 1 false ((bs r).drop k)=some (.bool (r.getD k false)):=by
 simp [loadCs,List.getD,hk]
 omega
theorem row_ext {r q:List Bool} (h:r.length=q.length) (hk:∀ k,k<r.length→r.getD k false=q.getD k false):r=q:=by
 apply List.ext_getElem h
 intro i h1 h2
 have:=hk i h1
 simpa [List.getD,h1,h2] using this
theorem getD_set {M:Mx} {t n:Nat} {r:List Bool} (ht:t<M.length):(M.set t r).getD n []=if t=n then r else M.getD n []:=by
 simp only [List.getD,List.getElem?_set]
 by_cases e:t=n
 ·subst e;simp [ht]
 ·simp [e]
theorem set_getD {M:Mx} {t:Nat}:M.set t (M.getD t [])=M:=by
 apply List.ext_getElem (by simp)
 intro i h1 h2
 rw [List.getElem_set]
 split
 ·rename_i e
  subst e
  simp [List.getD,h2]
 ·rfl
def leM (M N:Mx):Prop:=∀ n k,val M n k=true→val N n k=true
theorem val_out {M:Mx} {h w n k:Nat} (hS:Sh M h w) (hn:h≤n∨w≤k):val M n k=false:=by
 unfold val
 by_cases h1:n<h
 ·have h2:=hS.wid n h1
  have h3:w≤k:=by omega
  generalize M.getD n []=r at *
  simp [List.getD,List.getElem?_eq_none (show r.length≤k by omega)]
 ·have:M.getD n []=[]:=by
   simp [List.getD,List.getElem?_eq_none (show M.length≤n by rw [hS.len];omega)]
  rw [this]
  simp
theorem Sh.set {M:Mx} {h w n:Nat} (hS:Sh M h w) {r:List Bool} (hn:n<h) (hr:r.length=w):Sh (M.set n r) h w :=
 ⟨by simp [hS.len],fun i hi=>by
  rw [getD_set (by rw [hS.len];exact hn)]
  split
  ·exact hr
  ·exact hS.wid i hi⟩
theorem val_set {M:Mx} {n i k:Nat} {r:List Bool} (hn:n<M.length):val (M.set n r) i k=if n=i then r.getD k false else val M i k:=by
 unfold val
 rw [getD_set hn]
 split<;>rfl
def putF (M:Mx) (n k:Nat):Mx:=M.set n ((M.getD n []).set k true)
theorem val_put {M:Mx} {h w n k i j:Nat} (hS:Sh M h w) (hn:n<h) (hk:k<w):val (putF M n k) i j=if n=i∧k=j then true else val M i j:=by
 unfold putF
 rw [val_set (by rw [hS.len];exact hn)]
 by_cases e:n=i
 ·subst e
  rw [if_pos rfl]
  have hl:=hS.wid n hn
  simp only [val,List.getD,List.getElem?_set]
  generalize hr:M[n]?.getD []=r
  have hr':r.length=w:=by rw [←hr];exact hl
  by_cases e2:k=j
  ·subst e2
   simp [hr',hk]
  ·simp [e2]
 ·simp [e]
def rowM (M:Mx) (n:Nat):List Bool:=M.getD n []
theorem rowM_load {M:Mx} {h w n k:Nat} (hS:Sh M h w) (hn:n<h) (hk:k<w):loadCs 1 false ((bs (rowM M n)).drop k)=some (.bool (val M n k)):=bs_load (by show k<(M.getD n []).length;rw [hS.wid n hn];exact hk)
def M0 (h w:Nat):Mx:=List.replicate h (List.replicate w false)
theorem M0_sh (h w:Nat):Sh (M0 h w) h w:=⟨by simp [M0],fun n hn=>by simp [M0,List.getD,hn]⟩
theorem M0_val (h w n k:Nat):val (M0 h w) n k=false:=by
 unfold val M0
 by_cases hn:n<h
 ·by_cases hk:k<w<;>simp [List.getD,hn,hk]
 ·simp [List.getD,hn]
def mkC (h w n:Nat):List AV:=(outC2 2 n w)++List.replicate (h - n) .nilS
theorem mkC_len {h w n:Nat} (hn:n≤h):(mkC h w n).length=h:=by simp [mkC,outC2_len];omega
theorem mkC_set {h w n:Nat} (hn:n<h):(mkC h w n).set n (.loc (2+n) 0 0 w 1 false)=mkC h w (n+1):=by
 unfold mkC
 have hl:=outC2_len 2 n w
 rw [List.set_append_right _ _ (by omega),hl,Nat.sub_self]
 obtain ⟨d,hd⟩:∃ d,h - n=d+1:=⟨h - n - 1,by omega⟩
 rw [hd,List.replicate_succ,List.set_cons_zero,show h - (n+1)=d by omega]
 simp [outC2,List.range_succ]
theorem mkC_full (h w:Nat):mkC h w h=outC2 2 h w:=by simp [mkC]
theorem HM_push (A:AHeap) (M:Mx) (r:List Bool):HM A M []++[rb r]=HM A (M++[r]) []:=by simp [HM]
theorem al_of {α:Type} {p:α→Prop}:∀ {l:List α},(∀ x∈l,p x)→al p l
 | [],_=>trivial
 | a::l,h=>⟨h a (by simp),al_of fun x hx=>h x (by simp [hx])⟩
theorem pts_RL (n g:Nat) (ls:List (List Int)):RLB n (.cells g (ls.map ints)):=by
 intro y hy
 obtain ⟨l,_,rfl⟩:=List.mem_map.1 hy
 simp
theorem HM_1 {a b:ABlk} {M:Mx} {C:AHeap}:(HM [a,b] M C)[1]?=some b:=rfl
theorem HM_set1 {a b x:ABlk} {M:Mx} {C:AHeap}:(HM [a,b] M C).set 1 x=HM [a,x] M C:=rfl
theorem HM_len2 {a b:ABlk} {M:Mx} {C:AHeap}:(HM [a,b] M C).length=2+(M.length+C.length):=by rw [HM_len];rfl
theorem M0_next (n w:Nat):M0 n w++[List.replicate w false]=M0 (n+1) w:=by simp [M0,List.replicate_succ']
def c15b:AFn:=lit fun m o w i y z p n s t k q r d c f b e a=>⟨147,q (r [i 1 (.box (t 0)),i 2 (.mov (.lit .nilS))]) (q (r [a 17 3 1,a 18 1 17,a 19 0 18,o 20 19,i 21 (.len (t 20)),m 3 21]) (q (r [a 22 1 1,a 23 0 22,o 24 23,i 25 (.len (t 24)),m 4 25]) (q (r [m 26 3,i 27 (.mksl 1 24 [.nilS] (t 26) (t 26)),m 5 27]) (q (q (r [i 6 (.mov (k 0))]) (b 0 ((q (q (r [m 28 6,m 29 3,i 30 (e .lss 28 29)]) (c 30 .skip (.exit 0))) (q (.block 1 (r [m 33 5,m 34 6,m 35 4,i 36 (.mksl 1 1 [.bool false] (t 35) (t 35)),i 37 (.ia 1 (t 33) (t 34)),s (.store 1 (t 37) (t 36))])) (r [m 31 6,i 32 (.bin .add (t 31) (k 1)),m 6 32])))))) (q (q (r [i 7 (.mov (k 0))]) (b 2 ((q (q (r [m 38 7,m 39 3,i 40 (e .leq 38 39)]) (c 40 .skip (.exit 2))) (q (.block 3 (q (r [i 8 (.mov (k 0))]) (b 4 ((q (q (r [m 43 8,m 44 3,i 45 (e .lss 43 44)]) (c 45 .skip (.exit 4))) (q (.block 5 (q (r [i 9 (.mov (k 0))]) (b 6 ((q (q (r [m 48 9,a 49 3 1,a 50 4 49,o 51 50,m 52 8,i 53 (.ia 1 (t 51) (t 52)),o 54 53,i 55 (.len (t 54)),i 56 (e .lss 48 55)]) (c 56 .skip (.exit 6))) (q (.block 7 (q (r [a 59 3 1,a 60 4 59,o 61 60,m 62 8,i 63 (.ia 1 (t 61) (t 62)),o 64 63,m 65 9,i 66 (.ia 1 (t 64) (t 65)),o 67 66,m 10 67]) (q (r [a 68 1 1,w 69 2 68,a 70 3 1,w 71 6 70,m 72 10,i 73 (f 34 [t 69,t 71,t 72]),m 11 73]) (q (q (r [m 74 11,i 75 (.bin .lss (t 74) (k 0))]) (c 75 (r [m 76 5,m 77 8,i 78 (.ia 1 (t 76) (t 77)),o 79 78,m 80 10,i 81 (.ia 1 (t 79) (t 80)),s (.store 1 (t 81) (.lit (.bool true)))]) .skip)) (q (r [i 12 (.mov (k 0))]) (b 8 ((q (q (r [m 82 12,m 83 4,i 84 (e .lss 82 83),m 85 84,y 86 11 85,p 87 (.bin .geq (t 86) (k 0)) 85,i 88 (.pick (t 85) (t 87) (.lit (.bool false)))]) (c 88 .skip (.exit 8))) (q (.block 9 (d [m 91 5,m 92 8,i 93 (.ia 1 (t 91) (t 92)),o 94 93,m 95 12,m 96 5,m 97 8,i 98 (.ia 1 (t 96) (t 97)),o 99 98,m 100 12,i 101 (.ia 1 (t 99) (t 100)),o 102 101,m 103 102,z 104 5 103,n 105 (.fa 3 (t 1)) 103,n 106 (.fa 1 (t 105)) 103,n 107 (.load 3 true (t 106)) 103,z 108 11 103,n 109 (f 35 [t 107,t 108]) 103,n 110 (.ia 1 (t 104) (t 109)) 103,n 111 (.load 1 false (t 110)) 103,z 112 12 103,n 113 (.ia 1 (t 111) (t 112)) 103,n 114 (.load 1 false (t 113)) 103,i 115 (.pick (t 103) (.lit (.bool true)) (t 114)),i 116 (.ia 1 (t 94) (t 95)),s (.store 1 (t 116) (t 115))])) (r [m 89 12,i 90 (.bin .add (t 89) (k 1)),m 12 90])))))))))) (r [m 57 9,i 58 (.bin .add (t 57) (k 1)),m 9 58]))))))) (r [m 46 8,i 47 (.bin .add (t 46) (k 1)),m 8 47]))))))) (r [m 41 7,i 42 (.bin .add (t 41) (k 1)),m 7 42])))))) (q (r [i 13 (.mov (.lit .nilS))]) (q (q (r [i 14 (.mov (k 0))]) (b 10 ((q (q (r [m 117 14,m 118 3,i 119 (e .lss 117 118)]) (c 119 .skip (.exit 10))) (q (.block 11 (q (r [i 15 (.mov (.lit .nilS))]) (q (q (r [i 16 (.mov (k 0))]) (b 12 ((q (q (r [m 122 16,m 123 4,i 124 (e .lss 122 123)]) (c 124 .skip (.exit 12))) (q (.block 13 (q (r [m 127 5,a 128 3 1,a 129 1 128,w 130 3 129,m 131 14,i 132 (f 35 [t 130,t 131]),i 133 (.ia 1 (t 127) (t 132)),o 134 133,m 135 16,i 136 (.ia 1 (t 134) (t 135)),o 137 136]) (c 137 (r [m 138 15,m 139 16,i 140 (.bslice 1 1 [.int .i64 0] [(0,t 139)]),i 141 (.app 1 8 (t 138) (t 140)),m 15 141]) .skip))) (r [m 125 16,i 126 (.bin .add (t 125) (k 1)),m 16 126])))))) (q .mark (r [m 142 13,m 143 15,i 144 (.bslice 1 1 [.nilS] [(0,t 143)]),i 145 (.app 1 24 (t 142) (t 144)),m 13 145]))))) (r [m 120 14,i 121 (.bin .add (t 120) (k 1)),m 14 121])))))) (q (r [m 146 13,m 2 146]) .ret)))))))),[.tmp 2]⟩
def an15:An:=⟨[],[35]⟩
theorem c15b_ok:cFn Tryz.prog an15 Tryz.f15=some c15b:=by kernel_rfl
def trueIn (r:List Bool):Nat→List Int
 | 0=>[]
 | k+1=>if r.getD k false then trueIn r k++[(k:Int)] else trueIn r k
theorem trueIn_len (r:List Bool):∀ k,(trueIn r k).length≤k
 | 0=>by simp [trueIn]
 | k+1=>by
  have:=trueIn_len r k
  unfold trueIn
  split<;>simp<;>omega
theorem mem_trueIn {r:List Bool} {x:Int}:∀ {k:Nat},x∈trueIn r k↔∃ j:Nat,j<k∧x=j∧r.getD j false=true
 | 0=>by simp [trueIn]
 | k+1=>by
  unfold trueIn
  have ih:=mem_trueIn (r:=r) (x:=x) (k:=k)
  split
  ·rename_i h
   rw [List.mem_append,ih,List.mem_singleton]
   constructor
   ·rintro (⟨j,h1,h2⟩|h1)
    ·exact ⟨j,by omega,h2⟩
    ·exact ⟨k,by omega,h1,h⟩
   ·rintro ⟨j,h1,h2,h3⟩
    by_cases e:j=k
    ·subst e;exact .inr h2
    ·exact .inl ⟨j,by omega,h2,h3⟩
  ·rename_i h
   rw [ih]
   constructor
   ·rintro ⟨j,h1,h2⟩
    exact ⟨j,by omega,h2⟩
   ·rintro ⟨j,h1,h2,h3⟩
    refine ⟨j,?_,h2,h3⟩
    by_cases e:j=k
    ·subst e;exact absurd h3 h
    ·omega
theorem trueIn_rise (r:List Bool):∀ k,(trueIn r k).Pairwise (·<·)
 | 0=>.nil
 | k+1=>by
  have ih:=trueIn_rise r k
  unfold trueIn
  split
  ·rw [List.pairwise_append]
   refine ⟨ih,by simp,fun x hx y hy=>?_⟩
   obtain ⟨j,h1,h2,_⟩:=mem_trueIn.1 hx
   simp at hy
   omega
  ·exact ih
def Snd (a:Kd) (g:Gr) (M:Mx):Prop:=∀ v x:Nat,val M v x=true→Blw a g x v
def Cp (a:Kd) (g:Gr) (M:Mx) (v:Nat):Prop:=∀ x:Nat,Blw a g x v→val M v x=true
theorem Cp.mono {a:Kd} {g:Gr} {M N:Mx} {v:Nat} (h:Cp a g M v) (hl:leM M N):Cp a g N v:=fun x hx=>hl _ _ (h x hx)
theorem leM.trans {M N L:Mx} (h:leM M N) (k:leM N L):leM M L:=fun n x hx=>k n x (h n x hx)
theorem row_blw {l:List Sg} {a:Kd} {nv:Nat} {g:Gr} (hk:Lk l a nv g) {M:Mx} (hS:Snd a g M) {v:Nat} (hv:v<nv) (hC:Cp a g M v):trueIn (rowM M v) a.keys.length=blwW a g v:=by
 refine rise_int (trueIn_rise _ _) (blwW_rise _ _ _) fun x=>?_
 rw [mem_trueIn,mem_blwW hk (by omega)]
 constructor
 ·rintro ⟨j,h1,rfl,h3⟩
  exact hS v j h3
 ·intro h
  have hi:=(h.in hk (by omega)).1
  obtain ⟨j,rfl⟩:∃ j:Nat,x=j:=⟨x.toNat,by omega⟩
  exact ⟨j,by omega,rfl,hC j h⟩
theorem set_false {r:List Bool} {k:Nat} (h:r.getD k false=false):r.set k false=r:=by
 apply List.ext_getElem (by simp)
 intro i h1 h2
 rw [List.getElem_set]
 split
 ·rename_i e
  subst e
  simpa [List.getD,h2] using h.symm
 ·rfl
theorem put_le {M:Mx} {h w v x:Nat} (hS:Sh M h w) (hv:v<h) (hx:x<w):leM M (putF M v x):=fun i j hij=>by
 rw [val_put hS hv hx]
 split
 ·rfl
 ·exact hij
theorem put_sh {M:Mx} {h w v x:Nat} (hS:Sh M h w) (hv:v<h):Sh (putF M v x) h w:=hS.set hv (by rw [List.length_set];exact hS.wid v hv)
theorem put_snd {a:Kd} {g:Gr} {M:Mx} {h w v x:Nat} (hS:Sh M h w) (hv:v<h) (hx:x<w) (h0:Snd a g M) (hb:Blw a g x v):Snd a g (putF M v x):=fun i j hij=>by
 rw [val_put hS hv hx] at hij
 split at hij
 ·rename_i e
  obtain ⟨rfl,rfl⟩:=e
  exact hb
 ·exact h0 i j hij
theorem gi_mem {α:Type} [Inhabited α] {l:List α} {i:Nat} (h:i<l.length):gi l i∈l:=by
 simp [gi,List.getD,h]
theorem rep_flat (n:Nat) (a:AV):(List.replicate n [a]).flatten=List.replicate n a:=by
 induction n with
 | zero=>rfl
 | succ n ih=>simp [List.replicate_succ,ih]
theorem mk_rows {n:Nat} (hn:n≤1000) (H:AHeap):aMksl 1 24 [.nilS] H (i64 n) (i64 n)=some (.loc H.length 0 0 n 1 false,H++[.cells 0 (List.replicate n .nilS)]):=by
 have b1:(n:Int)*24≤limB:=by unfold limB;omega
 have b2:(n:Int)≤maxA:=by unfold maxA;omega
 simp [aMksl,b1,b2,rep_flat]
theorem mk_row {n:Nat} (hn:n≤1000) (H:AHeap):aMksl 1 1 [.bool false] H (i64 n) (i64 n)=some (.loc H.length 0 0 n 1 false,H++[rb (List.replicate n false)]):=by
 have b1:(n:Int)*1≤limB:=by unfold limB;omega
 have b2:(n:Int)≤maxA:=by unfold maxA;omega
 have b3:(n:Int)≤limB:=by unfold limB;omega
 simp [aMksl,b1,b2,b3,rep_flat,rb,bs]
section
variable {l:List Sg} {nv:Nat} {s:Sy}
set_option maxHeartbeats 4000000 in
theorem table15_PF (hk:Lk l s.a nv s.g) (hn:nv≤400):PF Tryz.prog 15 [.agg s.cs] (intss ((List.range nv).map fun v:Nat=>blwW s.a s.g (fnd s.g.u.v v))):=by
 refine PFk 9 hm Tryz.func15 c15b_ok (Nat.le_of_ble_eq_true rfl) (by simp) (by simp) ?_
 generalize hQ:Rle 9 (intss ((List.range nv).map fun v:Nat=>blwW s.a s.g (fnd s.g.u.v v)))=Q
 have hlv:=hk.gok.lv
 have hlp:=hk.gok.lp
 obtain ⟨m,hm⟩:∃ m,s.a.keys.length=m:=⟨_,rfl⟩
 have hm4:=hk.few
 rw [hm] at hm4
 have hnA:nv≤maxA:=by unfold maxA;omega
 have hmA:m≤maxA:=by unfold maxA;omega
 have hmk:=mk_rows (n:=nv) (by omega)
 have hmk2:=mk_row (n:=m) (by omega)
 simp (maxSteps:=3000000) [go_sem,-List.length_flatten,-List.map_drop,-List.map_take,c15b,hlv,hm,hmk,hnA,hmA]
 refine run_loopK (fun k T H=>∃ i:Nat,k=nv - i∧i≤nv∧T=[(6,i64 i),(5,.loc 1 0 0 nv 1 false),(4,i64 m),(3,i64 nv),(1,.ptr 0 0 0)]∧H=HM [.cells 0 s.cs,.cells 0 (mkC nv m i)] (M0 i m) [])
  nv [(6,i64 (0:Nat)),(5,.loc 1 0 0 nv 1 false),(4,i64 m),(3,i64 nv),(1,.ptr 0 0 0)] [.cells 0 s.cs,.cells 0 (List.replicate nv .nilS)]
  (Wk.sub (by simp [Tm.get])) ⟨0,rfl,Nat.zero_le _,rfl,by simp [mkC,outC2,HM,M0]⟩ ?_
 rintro k T H ⟨i,rfl,hil,rfl,rfl⟩ KK kx kr kn
 by_cases hlt:i<nv
 ·have hml:=mkC_len (w:=m) hil
  have hset:=mkC_set (w:=m) hlt
  have hM0l:(M0 i m).length=i:=by simp [M0]
  have hnx:=nxt hlt hnA
  have g1:=fun x oc M C=>HM_1 (a:=x) (b:=.cells 0 oc) (M:=M) (C:=C)
  simp (maxSteps:=3000000) [go_sem,-List.length_flatten,-List.map_drop,-List.map_take,hlt,hmk2,HM_push,HM_len2,hM0l,↓g1,hml,HM_set1,hset,M0_next]
  refine ⟨by omega,kn _ _ (Kl_sub (nv - (i+1)) ⟨i+1,rfl,hlt,rfl,rfl⟩ ?_ (by omega))⟩
  simp [Tm.get,hnx]
 have en:nv=i:=by omega
 subst en
 rw [mkC_full]
 generalize hA0:[ABlk.cells 0 s.cs,ABlk.cells 0 (outC2 2 nv m)]=A0 at *
 have hAl:A0.length=2:=by rw [←hA0];rfl
 have g0:∀ M C,(HM A0 M C)[0]?=some (.cells 0 s.cs):=fun M C=>by rw [←hA0];rfl
 have g1:∀ M C,(HM A0 M C)[1]?=some (.cells 0 (outC2 2 nv m)):=fun M C=>by rw [←hA0];rfl
 clear kn hlt hil kr
 simp (maxSteps:=3000000) [go_sem,-List.length_flatten,-List.map_drop,-List.map_take,kx]
 clear kx KK
 have hlo:=outC2_len 2 nv m
 have gr:∀ (M:Mx) C,Sh M nv m→∀ v,v<nv→(HM A0 M C)[2+v]?=some (.cells 0 (bs (rowM M v))):=fun M C h v hv=>by rw [←hAl,HM_row (by rw [h.len];exact hv)];rfl
 have gl:∀ M:Mx,Sh M nv m→∀ v,v<nv→(bs (rowM M v)).length=m:=fun M h v hv=>by
  have:=h.wid v hv
  simpa [rowM] using this
 have gs:∀ (M:Mx) C,Sh M nv m→∀ v,v<nv→∀ x b,(HM A0 M C).set (2+v) (.cells 0 ((bs (rowM M v)).set x (.bool b)))=HM A0 (M.set v ((rowM M v).set x b)) C:=fun M C h v hv x b=>by
  have e:(bs (rowM M v)).set x (.bool b)=bs ((rowM M v).set x b):=List.map_set.symm
  rw [e,←hAl]
  exact HM_set (by rw [h.len];exact hv) _
 have hrk:∀ k,PF Tryz.prog 34 [.agg s.a.cs,.agg s.g.cs,i64 k] (i64 (numOf s.a s.g k)):=fun k=>num34_PF s.a s.g k
 refine run_loopK (fun r T H=>∃ (k:Nat) (M:Mx),r=nv+1 - k∧k≤nv+1∧(Sh M nv m∧Snd s.a s.g M∧∀ v:Nat,v<nv→posR s.g.ranks nv v<k→Cp s.a s.g M v) ∧
   T=[(7,i64 k),(5,.loc 1 0 0 nv 1 false),(4,i64 m),(3,i64 nv),(1,.ptr 0 0 0)]∧H=HM A0 M [])
  (nv+1) [(7,i64 (0:Nat)),(5,.loc 1 0 0 nv 1 false),(4,i64 m),(3,i64 nv),(1,.ptr 0 0 0)] (HM A0 (M0 nv m) [])
  (Wk.sub (by simp [Tm.get])) ⟨0,M0 nv m,rfl,Nat.zero_le _,⟨M0_sh _ _,fun v x h=>(by rw [M0_val] at h;cases h),fun v _ h=>(by omega)⟩,rfl,rfl⟩ ?_
 rintro r T H ⟨k,M,rfl,hkn,⟨hS,hsn,hcp⟩,rfl,rfl⟩ KK kx kr kn
 by_cases hkl:k≤nv
 ·have hknx:=nxt (show k<nv+1 by omega) (by unfold maxA;omega)
  simp (maxSteps:=3000000) [go_sem,-List.length_flatten,-List.map_drop,-List.map_take,hkl]
  refine run_loopK (fun r T H=>∃ (v:Nat) (M1:Mx),r=nv - v∧v≤nv∧(Sh M1 nv m∧Snd s.a s.g M1∧leM M M1∧∀ u:Nat,u<v→posR s.g.ranks nv u<k+1→Cp s.a s.g M1 u) ∧
    T=[(8,i64 v),(7,i64 k),(5,.loc 1 0 0 nv 1 false),(4,i64 m),(3,i64 nv),(1,.ptr 0 0 0)]∧H=HM A0 M1 [])
   nv [(8,i64 (0:Nat)),(7,i64 k),(5,.loc 1 0 0 nv 1 false),(4,i64 m),(3,i64 nv),(1,.ptr 0 0 0)] (HM A0 M [])
   (Wk.sub (by simp [Tm.get])) ⟨0,M,rfl,Nat.zero_le _,⟨hS,hsn,fun _ _ h=>h,fun u h _=>(by omega)⟩,rfl,rfl⟩ ?_
  rintro r T H ⟨v,M1,rfl,hvn,⟨hS1,hsn1,hle1,hcp1⟩,rfl,rfl⟩ KV vx vr vn
  by_cases hvl:v<nv
  ·have hvnx:=nxt hvl hnA
   have hpl:(gi s.g.pre v).length≤400:=by
    have:=asc_len (N:=m) (hk.gok.sp v (by omega)) (fun z hz=>by rw [←hm];exact hk.zin (by omega) hz)
    omega
   obtain ⟨P,hP⟩:∃ P,gi s.g.pre v=P:=⟨_,rfl⟩
   have hzin:∀ z∈P,0≤z∧z<m:=fun z hz=>by rw [←hm];exact hk.zin (v:=v) (by omega) (by rw [hP];exact hz)
   rw [hP] at hpl
   have hPA:P.length≤maxA:=by unfold maxA;omega
   simp (maxSteps:=3000000) [go_sem,-List.length_flatten,-List.map_drop,-List.map_take,hvl]
   refine run_loopK (fun r T H=>∃ (i:Nat) (M2:Mx),r=P.length - i∧i≤P.length∧(Sh M2 nv m∧Snd s.a s.g M2∧leM M1 M2∧∀ j:Nat,j<i→(numOf s.a s.g (gi P j)<0→val M2 v (gi P j).toNat=true)∧(0≤numOf s.a s.g (gi P j)→∀ x:Nat,val M1 (fnd s.g.u.v (numOf s.a s.g (gi P j))).toNat x=true→val M2 v x=true)) ∧
     T=[(9,i64 i),(8,i64 v),(7,i64 k),(5,.loc 1 0 0 nv 1 false),(4,i64 m),(3,i64 nv),(1,.ptr 0 0 0)]∧H=HM A0 M2 [])
    P.length [(9,i64 (0:Nat)),(8,i64 v),(7,i64 k),(5,.loc 1 0 0 nv 1 false),(4,i64 m),(3,i64 nv),(1,.ptr 0 0 0)] (HM A0 M1 [])
    (Wk.sub (by simp [Tm.get])) ⟨0,M1,rfl,Nat.zero_le _,⟨hS1,hsn1,fun _ _ h=>h,fun j h=>(by omega)⟩,rfl,rfl⟩ ?_
   rintro r T H ⟨i,M2,rfl,hiP,⟨hS2,hsn2,hle2,hcp2⟩,rfl,rfl⟩ KI ix' ir inn
   have h0:=g0 M2 []
   by_cases hil:i<P.length
   ·have hinx:=nxt hil hPA
    have hzm:=gi_mem hil
    have hzi:=hzin _ hzm
    obtain ⟨z,hz⟩:∃ z:Nat,gi P i=z:=⟨(gi P i).toNat,by omega⟩
    have hnum:=hrk (gi P i)
    have hnin:=hk.nin (v:=v) (z:=gi P i)
    have hbb:numOf s.a s.g (gi P i)<0→Blw s.a s.g (gi P i) v:=fun h=>.base (by rw [hP];exact hzm) h
    have hbs:0≤numOf s.a s.g (gi P i)→∀ x,Blw s.a s.g x (fnd s.g.u.v (numOf s.a s.g (gi P i)))→Blw s.a s.g x v:=fun h x hx=>.step (by rw [hP];exact hzm) h hx
    have next:∀ (M3:Mx) (T':Tm),Sh M3 nv m→Snd s.a s.g M3→leM M2 M3→(numOf s.a s.g (gi P i)<0→val M3 v (gi P i).toNat=true)→(0≤numOf s.a s.g (gi P i)→∀ x:Nat,val M1 (fnd s.g.u.v (numOf s.a s.g (gi P i))).toNat x=true→val M3 v x=true) →
      al (fun q=>T'.get q.1=q.2) [(9,i64 ((i+1:Nat):Int)),(8,i64 v),(7,i64 k),(5,.loc 1 0 0 nv 1 false),(4,i64 m),(3,i64 nv),(1,.ptr 0 0 0)]→KI .normal T' (HM A0 M3 []):=by
     intro M3 T' q1 q2 q3 q4 q5 hT
     refine inn _ _ (Kl_sub (P.length - (i+1)) ⟨i+1,M3,rfl,hil,⟨q1,q2,hle2.trans q3,fun j hj=>?_⟩,rfl,rfl⟩ hT (by omega))
     by_cases e:j=i
     ·subst e;exact ⟨q4,q5⟩
     ·have:=hcp2 j (by omega)
      exact ⟨fun h=>q3 _ _ (this.1 h),fun h x hx=>q3 _ _ (this.2 h x hx)⟩
    rw [hz] at hnum hnin hbb hbs next hzi
    clear inn
    have hzl:z<m:=by omega
    generalize hw:numOf s.a s.g (z:Int)=w at *
    simp (maxSteps:=3000000) [go_sem,-List.length_flatten,-List.map_drop,-List.map_take,hil,hvl,hP,hlp,↓h0,hPA,hz]
    refine PF.call hnum 9 (by simp [lePs,-List.length_flatten,-List.map_drop,-List.map_take,Function.comp_def,len_flat]) ?_
    have hLv:=outC2_load (B:=2) (w:=m) hvl
    have hrv:=gr M2 [] hS2 v hvl
    have hlv2:=gl M2 hS2 v hvl
    have hsv:=gs M2 [] hS2 v hvl z
    by_cases hw0:w<0
    ·simp (maxSteps:=3000000) [go_sem,-List.length_flatten,-List.map_drop,-List.map_take,Kc,hw0,hvl,hzl,↓h0,g1,hlo,↓hLv,↓hrv,hlv2,↓hsv]
     refine ⟨by omega,?_⟩
     have hw1:¬ 0≤w:=by omega
     have eput:M2.set v ((rowM M2 v).set z true)=putF M2 v z:=rfl
     rw [eput]
     refine run_loopK (fun r T H=>T=[(12,i64 0),(11,i64 w),(9,i64 i),(8,i64 v),(7,i64 k),(5,.loc 1 0 0 nv 1 false),(4,i64 m),(3,i64 nv),(1,.ptr 0 0 0)]∧H=HM A0 (putF M2 v z) [])
      0 [(12,i64 0),(11,i64 w),(9,i64 i),(8,i64 v),(7,i64 k),(5,.loc 1 0 0 nv 1 false),(4,i64 m),(3,i64 nv),(1,.ptr 0 0 0)] (HM A0 (putF M2 v z) []) (Wk.sub (by simp [Tm.get])) ⟨rfl,rfl⟩ ?_
     rintro r T H ⟨rfl,rfl⟩ KX xx xr xn
     have hm0:0<m:=by omega
     simp (maxSteps:=3000000) [go_sem,-List.length_flatten,-List.map_drop,-List.map_take,xx,hw1,hm0]
     refine next (putF M2 v z) _ (put_sh hS2 hvl) (put_snd hS2 hvl hzl hsn2 (hbb hw0)) (put_le hS2 hvl hzl) (fun _=>?_) (fun h=>by omega) (by simp [Tm.get,hinx])
     rw [val_put hS2 hvl (by simpa using hzl)]
     simp
    ·have hw1:0≤w:=by omega
     obtain ⟨u,hu⟩:∃ u:Nat,fnd s.g.u.v w=u:=by
      have:=hk.gok.fin (hnin hw1)
      exact ⟨(fnd s.g.u.v w).toNat,by omega⟩
     have hul:u<nv:=by
      have:=hk.gok.fin (hnin hw1)
      omega
     have hfnd:=find35_PF s.g.u hk.gok.par (n:=w) (by rw [hlv];exact hnin hw1)
     rw [hu] at hfnd hbs next
     simp (maxSteps:=3000000) [go_sem,-List.length_flatten,-List.map_drop,-List.map_take,Kc,hw0]
     refine run_loopK (fun r T H=>∃ (x:Nat) (M3:Mx),r=m - x∧x≤m∧(Sh M3 nv m∧Snd s.a s.g M3∧leM M2 M3∧∀ y:Nat,y<x→val M1 u y=true→val M3 v y=true) ∧
       T=[(12,i64 x),(11,i64 w),(9,i64 i),(8,i64 v),(7,i64 k),(5,.loc 1 0 0 nv 1 false),(4,i64 m),(3,i64 nv),(1,.ptr 0 0 0)]∧H=HM A0 M3 [])
      m [(12,i64 (0:Nat)),(11,i64 w),(9,i64 i),(8,i64 v),(7,i64 k),(5,.loc 1 0 0 nv 1 false),(4,i64 m),(3,i64 nv),(1,.ptr 0 0 0)] (HM A0 M2 [])
      (Wk.sub (by simp [Tm.get])) ⟨0,M2,rfl,Nat.zero_le _,⟨hS2,hsn2,fun _ _ h=>h,fun y h=>(by omega)⟩,rfl,rfl⟩ ?_
     rintro r T H ⟨x,M3,rfl,hxm,⟨hS3,hsn3,hle3,hcp3⟩,rfl,rfl⟩ KX xx xr xn
     have h0:=g0 M3 []
     have hrv:=gr M3 [] hS3 v hvl
     have hlv2:=gl M3 hS3 v hvl
     have hLu:=outC2_load (B:=2) (w:=m) hul
     have hru:=gr M3 [] hS3 u hul
     have hlu2:=gl M3 hS3 u hul
     by_cases hxl:x<m
     ·have hxnx:=nxt hxl hmA
      have hvv:=rowM_load hS3 hvl hxl
      have hvu:=rowM_load hS3 hul hxl
      have hst:=fun b=>gs M3 [] hS3 v hvl x b
      have nextx:∀ (M4:Mx) (T':Tm),Sh M4 nv m→Snd s.a s.g M4→leM M3 M4→(val M1 u x=true→val M4 v x=true) →
        al (fun q=>T'.get q.1=q.2) [(12,i64 ((x+1:Nat):Int)),(11,i64 w),(9,i64 i),(8,i64 v),(7,i64 k),(5,.loc 1 0 0 nv 1 false),(4,i64 m),(3,i64 nv),(1,.ptr 0 0 0)]→KX .normal T' (HM A0 M4 []):=by
       intro M4 T' q1 q2 q3 q4 hT
       refine xn _ _ (Kl_sub (m - (x+1)) ⟨x+1,M4,rfl,hxl,⟨q1,q2,hle3.trans q3,fun y hy hu=>?_⟩,rfl,rfl⟩ hT (by omega))
       by_cases e:y=x
       ·subst e;exact q4 hu
       ·exact q3 _ _ (hcp3 y (by omega) hu)
      clear xn
      have eput:M3.set v ((rowM M3 v).set x true)=putF M3 v x:=rfl
      cases b1:val M3 v x with
      | true =>
       rw [b1] at hvv
       simp (maxSteps:=3000000) [go_sem,-List.length_flatten,-List.map_drop,-List.map_take,xx,hw1,hxl,hvl,↓h0,g1,hlo,↓hLv,↓hrv,hlv2,↓hvv,↓hst,eput]
       refine ⟨by omega,nextx (putF M3 v x) _ (put_sh hS3 hvl) (put_snd hS3 hvl hxl hsn3 (hsn3 _ _ b1)) (put_le hS3 hvl hxl) (fun _=>?_) (by simp [Tm.get,hxnx])⟩
       rw [val_put hS3 hvl hxl]
       simp
      | false =>
       rw [b1] at hvv
       simp (maxSteps:=3000000) [go_sem,-List.length_flatten,-List.map_drop,-List.map_take,xx,hw1,hxl,hvl,↓h0,g1,hlo,↓hLv,↓hrv,hlv2,↓hvv]
       refine ⟨_,hfnd,?_⟩
       cases b2:val M3 u x with
       | true =>
        rw [b2] at hvu
        simp (maxSteps:=3000000) [go_sem,-List.length_flatten,-List.map_drop,-List.map_take,Kc,hul,↓h0,g1,hlo,hxl,↓hLu,↓hru,hlu2,↓hvu,↓hrv,hlv2,↓hst,eput]
        refine ⟨by omega,nextx (putF M3 v x) _ (put_sh hS3 hvl) (put_snd hS3 hvl hxl hsn3 (hbs hw1 _ (hsn3 _ _ b2))) (put_le hS3 hvl hxl) (fun _=>?_) (by simp [Tm.get,hxnx])⟩
        rw [val_put hS3 hvl hxl]
        simp
       | false =>
        rw [b2] at hvu
        have eput2:M3.set v ((rowM M3 v).set x false)=M3:=by
         show M3.set v ((M3.getD v []).set x false)=M3
         rw [set_false b1,set_getD]
        simp (maxSteps:=3000000) [go_sem,-List.length_flatten,-List.map_drop,-List.map_take,Kc,hul,↓h0,g1,hlo,hxl,↓hLu,↓hru,hlu2,↓hvu,↓hrv,hlv2,↓hst,eput2]
        refine ⟨by omega,nextx M3 _ hS3 hsn3 (fun _ _ h=>h) (fun h=>?_) (by simp [Tm.get,hxnx])⟩
        have:=hle3 _ _ (hle2 _ _ h)
        rw [b2] at this
        cases this
     ·simp (maxSteps:=3000000) [go_sem,-List.length_flatten,-List.map_drop,-List.map_take,xx,hw1,hxl]
      refine next M3 _ hS3 hsn3 hle3 (fun h=>by omega) (fun _ y hy=>?_) (by simp [Tm.get,hinx])
      refine hcp3 y ?_ (by simpa using hy)
      rcases Nat.lt_or_ge y m with h|h
      ·omega
      ·have:=val_out (n:=u) (k:=y) hS1 (.inr h)
       rw [show ((u:Int)).toNat=u by omega] at hy
       rw [hy] at this
       cases this
   ·have ei:P.length=i:=by omega
    simp (maxSteps:=3000000) [go_sem,-List.length_flatten,-List.map_drop,-List.map_take,hil,hvl,hP,hlp,↓h0,hPA,ix']
    refine vn _ _ (Kl_sub (nv - (v+1)) ⟨v+1,M2,rfl,hvl,⟨hS2,hsn2,hle1.trans hle2,fun u hu hp=>?_⟩,rfl,rfl⟩ (by simp [Tm.get,hvnx]) (by omega))
    by_cases e:u=v
    ·subst e
     intro x hx
     have mem_at:∀ z,z∈gi s.g.pre u→∃ j:Nat,j<i∧gi P j=z:=fun z hz=>by
      rw [hP] at hz
      obtain ⟨j,j1,j2⟩:=List.getElem_of_mem hz
      exact ⟨j,by omega,by simp [gi,List.getD,j1,j2]⟩
     cases hx with
     | base h1 h2 =>
      obtain ⟨j,j1,j2⟩:=mem_at _ h1
      have:=(hcp2 j j1).1 (by rw [j2];exact h2)
      rw [j2] at this
      simpa using this
     | @step z _ h1 h2 h3 =>
      obtain ⟨j,j1,j2⟩:=mem_at _ h1
      have hin:=hk.gok.fin (hk.nin (v:=(u:Int)) h2)
      have hlt:=hk.acy u (by omega) z h1 h2
      have hpos:=posR_lt (n:=nv) hin hlt
      obtain ⟨w,hw⟩:∃ w:Nat,fnd s.g.u.v (numOf s.a s.g z)=w:=⟨(fnd s.g.u.v (numOf s.a s.g z)).toNat,by omega⟩
      rw [hw] at h3 hin hpos
      have hc:=hle1 _ _ (hcp w (by omega) (by omega) x h3)
      refine (hcp2 j j1).2 (by rw [j2];exact h2) x ?_
      rw [j2,hw]
      simpa using hc
    ·exact (hcp1 u (by omega) hp).mono hle2
  ·have ev:v=nv:=by omega
   subst ev
   simp (maxSteps:=3000000) [go_sem,-List.length_flatten,-List.map_drop,-List.map_take,vx]
   exact kn _ _ (Kl_sub (v+1 - (k+1)) ⟨k+1,M1,rfl,by omega,⟨hS1,hsn1,fun u hu hp=>hcp1 u hu hp⟩,rfl,rfl⟩ (by simp [Tm.get,hknx]) (by omega))
 ·have hC:∀ v:Nat,v<nv→Cp s.a s.g M v:=fun v hv=>hcp v hv (by have:=posR_le (rk:=s.g.ranks) (n:=nv) (x:=v) (by omega);omega)
  obtain ⟨R,hR⟩:∃ R:Nat→List Int,R=fun v:Nat=>blwW s.a s.g (fnd s.g.u.v v):=⟨_,rfl⟩
  have hQ':Rle 9 (intss ((List.range nv).map R))=Q:=by rw [hR];exact hQ
  have hRl:∀ v,(R v).length≤m:=fun v=>by rw [hR,←hm];exact blwW_len _ _ _
  have hrow:∀ v:Nat,v<nv→∃ u:Nat,u<nv∧fnd s.g.u.v v=u∧trueIn (rowM M u) m=R v:=fun v hv=>by
   have hf:=hk.gok.fin (n:=v) (by omega)
   refine ⟨(fnd s.g.u.v v).toNat,by omega,by omega,?_⟩
   have:=row_blw hk hsn (v:=(fnd s.g.u.v v).toNat) (by omega) (hC _ (by omega))
   rw [hm] at this
   rw [this,hR]
   show blwW s.a s.g ((fnd s.g.u.v v).toNat:Int)=blwW s.a s.g (fnd s.g.u.v v)
   rw [Int.toNat_of_nonneg hf.1]
  clear hQ
  clear hR
  obtain ⟨B,hB⟩:∃ B:Nat→List (List Int),B=fun n=>(List.range n).map R:=⟨_,rfl⟩
  have hB0:B 0=[]:=by rw [hB];rfl
  have hBl:∀ n,(B n).length=n:=fun n=>by rw [hB];simp
  have hBs:∀ n,B (n+1)=B n++[R n]:=fun n=>by rw [hB];simp [List.range_succ]
  have hQB:Rle 9 (intss (B nv))=Q:=by rw [hB];exact hQ'
  clear hB hQ'
  have hMl:=hS.len
  have hlen1:∀ C,(HM A0 M C).length=nv+2+C.length:=fun C=>by rw [HM_len,hAl,hMl];omega
  have hgc:∀ C i,(HM A0 M C)[nv+2+i]?=C[i]?:=fun C i=>by rw [show nv+2+i=A0.length+(M.length+i) by omega,HM_C]
  have hsetc:∀ C i b,(HM A0 M C).set (nv+2+i) b=HM A0 M (C.set i b):=fun C i b=>by
   unfold HM
   rw [show nv+2+i=A0.length+(M.length+i) by omega,List.set_append_right _ _ (by omega),show A0.length+(M.length+i) - A0.length=M.length+i by omega,List.set_append_right _ _ (by simp),List.length_map,show M.length+i - M.length=i by omega]
  have hRLB:∀ C k,nv+2≤k→al (RLB k) C→al (RLB k) (HM A0 M C):=by
   intro C k hk hC
   refine al_of fun b hb=>?_
   unfold HM at hb
   rw [←hA0] at hb
   simp only [List.cons_append,List.nil_append,List.mem_cons,List.mem_append,List.mem_map] at hb
   rcases hb with rfl|rfl|⟨r,_,rfl⟩|hb
   ·exact rlb_sy
   ·simp only [RLB,outC2,List.mem_map]
    rintro _ ⟨q,hq,rfl⟩
    simp at hq
    simp
    omega
   ·intro y hy
    obtain ⟨b,_,rfl⟩:=List.mem_map.1 hy
    simp
   ·exact al_mem hC b hb
  simp (maxSteps:=3000000) [go_sem,-List.length_flatten,-List.map_drop,-List.map_take,kx,hkl]
  refine run_loopK (fun r T H=>∃ n g:Nat,r=nv - n∧n≤nv∧T=[(14,i64 n),(13,.loc (nv+2) g 0 n 1 false),(5,.loc 1 0 0 nv 1 false),(4,i64 m),(3,i64 nv),(1,.ptr 0 0 0)]∧H=HM A0 M [.cells g ((B n).map ints)])
   nv [(14,i64 (0:Nat)),(13,.loc (nv+2) 0 0 0 1 false),(5,.loc 1 0 0 nv 1 false),(4,i64 m),(3,i64 nv),(1,.ptr 0 0 0)] (HM A0 M []++[.cells 0 []])
   ((Wk.nil 13 1 (by simp [Tm.get])).trans (Wk.sub (by simp [Tm.get,hlen1]))) ⟨0,0,rfl,Nat.zero_le _,rfl,by rw [HM_app,hB0];rfl⟩ ?_
  clear kx kr kn hkl hcp
  clear KK
  rintro r T H ⟨n,g,rfl,hnl,rfl,rfl⟩ KK kx kr kn
  by_cases hlt:n<nv
  ·have hinx:=nxt hlt hnA
   obtain ⟨u,hul,hu,hRu⟩:=hrow n hlt
   have hfnd:=find35_PF s.g.u hk.gok.par (n:=n) (by rw [hlv];omega)
   rw [hu] at hfnd
   simp (maxSteps:=3000000) [go_sem,-List.length_flatten,-List.map_drop,-List.map_take,hlt]
   refine run_loopK (fun r T H=>∃ k g':Nat,r=m - k∧k≤m∧T=[(16,i64 k),(15,.loc (nv+2+1) g' 0 (trueIn (rowM M u) k).length 1 false),(14,i64 n),(13,.loc (nv+2) g 0 n 1 false),(5,.loc 1 0 0 nv 1 false),(4,i64 m),(3,i64 nv),(1,.ptr 0 0 0)]∧H=HM A0 M [.cells g ((B n).map ints),.cells g' (i64s (trueIn (rowM M u) k))])
    m [(16,i64 (0:Nat)),(15,.loc (nv+2+1) 0 0 0 1 false),(14,i64 n),(13,.loc (nv+2) g 0 n 1 false),(5,.loc 1 0 0 nv 1 false),(4,i64 m),(3,i64 nv),(1,.ptr 0 0 0)] (HM A0 M [.cells g ((B n).map ints)]++[.cells 0 []])
    ((Wk.nil 15 1 (by simp [Tm.get])).trans (Wk.sub (by simp [Tm.get,hlen1]))) ⟨0,0,rfl,Nat.zero_le _,rfl,by rw [HM_app];rfl⟩ ?_
   rintro r T H ⟨k,g',rfl,hkm,rfl,rfl⟩ KI ix' ir inn
   have hL:=outC2_load (B:=2) (w:=m) hul
   have hrl:=gl M hS u hul
   have hg0:=g0 M [.cells g ((B n).map ints),.cells g' (i64s (trueIn (rowM M u) k))]
   have hg1:=g1 M [.cells g ((B n).map ints),.cells g' (i64s (trueIn (rowM M u) k))]
   have hg2:=gr M [.cells g ((B n).map ints),.cells g' (i64s (trueIn (rowM M u) k))] hS u hul
   have hg3:=hgc [.cells g ((B n).map ints),.cells g' (i64s (trueIn (rowM M u) k))] 1
   by_cases hkw:k<m
   ·have hvl:=rowM_load hS hul hkw
    have hkn:=nxt hkw hmA
    simp (maxSteps:=3000000) [go_sem,-List.length_flatten,-List.map_drop,-List.map_take,hkw,↓hg0]
    refine PF.call hfnd 9 (by simp [lePs,-List.length_flatten,-List.map_drop,-List.map_take,Function.comp_def,len_flat]) ?_
    cases hv:val M u k with
    | true =>
     rw [hv] at hvl
     simp (maxSteps:=3000000) [go_sem,-List.length_flatten,-List.map_drop,-List.map_take,Kc,hul,hkw,↓hg1,hlo,↓hL,↓hg2,hrl,↓hvl,↓hg3,hmA]
     refine fun _ _=>⟨by have:=trueIn_len (rowM M u) k;omega,?_⟩
     rw [hsetc]
     have e:trueIn (rowM M u) (k+1)=trueIn (rowM M u) k++[(k:Int)]:=by
      have:(rowM M u).getD k false=true:=hv
      rw [trueIn,if_pos this]
     refine inn _ _ (Kl_sub (m - (k+1)) ⟨k+1,g'+1,rfl,hkw,rfl,?_⟩ ?_ (by omega))
     ·rw [e,List.take_of_length_le (by simp)]
      simp
     ·rw [e]
      simp [Tm.get,hkn]
    | false =>
     rw [hv] at hvl
     simp (maxSteps:=3000000) [go_sem,-List.length_flatten,-List.map_drop,-List.map_take,Kc,hul,hkw,↓hg1,hlo,↓hL,↓hg2,hrl,↓hvl,hmA]
     have e:trueIn (rowM M u) (k+1)=trueIn (rowM M u) k:=by
      have:¬ (rowM M u).getD k false=true:=by
       have h:(rowM M u).getD k false=false:=hv
       rw [h];simp
      rw [trueIn,if_neg this]
     refine inn _ _ (Kl_sub (m - (k+1)) ⟨k+1,g',rfl,hkw,rfl,?_⟩ ?_ (by omega))
     ·rw [e]
     ·rw [e]
      simp [Tm.get,hkn]
   ·have ek:m=k:=by omega
    subst ek
    simp (maxSteps:=3000000) [go_sem,-List.length_flatten,-List.map_drop,-List.map_take,hkw,ix']
    have hch:=chunk_flI (trueIn (rowM M u) m)
    rw [hRu] at hg3 hch ⊢
    refine run_markT [(15,ints (R n)),(14,i64 n),(13,.loc (nv+2) g 0 n 1 false),(5,.loc 1 0 0 nv 1 false),(4,i64 m),(3,i64 nv),(1,.ptr 0 0 0)] (HM A0 M [.cells g ((B n).map ints)])
     ((Wk.freeze (i:=nv+2+1) (g:=g') (off:=0) (len:=(R n).length) (sz:=1) (c:=false) (cs:=i64s (R n)) 15 (by simp [Tm.get]) hg3 (by simp)).trans (Wk.tell (nv+2+1) (by omega) (by simp [Tm.get,hch]) ?_ ?_ ?_)) ?_
    ·simp
    ·rw [hsetc]
     have e:HM A0 M [.cells g ((B n).map ints),.dead g']=HM A0 M [.cells g ((B n).map ints)]++[.dead g']:=by rw [HM_app];rfl
     have e2:(HM A0 M [.cells g ((B n).map ints)]).length=nv+2+1:=by rw [hlen1];rfl
     show (HM A0 M [.cells g ((B n).map ints),.dead g']).take _=_
     rw [e,←e2,List.take_left]
    ·exact hRLB _ _ (by omega) ⟨pts_RL _ _ _,trivial⟩
    have hg4:=hgc [.cells g ((B n).map ints)] 0
    have hptl:=hBl n
    have htk:((B n).map ints).take n=(B n).map ints:=List.take_of_length_le (by simp [hptl])
    have hnA1:n+1≤maxA:=by omega
    have hs4:=hsetc [.cells g ((B n).map ints)] 0
    simp only [Nat.add_zero] at hg4
    simp only [Nat.add_zero] at hs4
    simp (maxSteps:=3000000) [go_sem,-List.length_flatten,-List.map_drop,-List.map_take,↓hg4,hptl,htk,hnA1]
    refine fun _ _=>?_
    rw [hs4]
    refine kn _ _ (Kl_sub (nv - (n+1)) ⟨n+1,g+1,rfl,hlt,rfl,?_⟩ (by simp [Tm.get,hinx]) (by omega))
    rw [hBs]
    simp
  ·have en:nv=n:=by omega
   subst en
   simp (maxSteps:=3000000) [go_sem,-List.length_flatten,-List.map_drop,-List.map_take,hlt,kx]
   intros
   rw [←hQB]
   have hc1:=hgc [.cells g ((B nv).map ints)] 0
   simp only [Nat.add_zero] at hc1
   unfold Rle
   rw [frzR (k:=5) (B nv) hc1 (hBl nv).symm]
   exact leP_refl _ _
end
theorem Sh.ext {M N:Mx} {h w:Nat} (h1:Sh M h w) (h2:Sh N h w) (hv:∀ n k,n<h→k<w→val M n k=val N n k):M=N:=by
 apply List.ext_getElem (by rw [h1.len,h2.len])
 intro n q1 q2
 have hn:n<h:=by rw [←h1.len];exact q1
 have e1:M.getD n []=M[n]:=by simp [List.getD,q1]
 have e2:N.getD n []=N[n]:=by simp [List.getD,q2]
 have w1:=h1.wid n hn
 have w2:=h2.wid n hn
 rw [←e1,←e2]
 refine row_ext (by rw [w1,w2]) fun k hk=>?_
 exact hv n k hn (by omega)
section
variable {l:List Sg} {a:Kd} {hF:Fine l a} {fs:List (Int×Int)}
open Classical in
noncomputable def clM (hF:Fine l a) (fs:List (Int×Int)):Mx:=(List.range a.keys.length).map fun x:Nat=>(List.range a.keys.length).map fun y:Nat=>decide ((skOf hF).Cl (fun p=>p∈fs) x y)
theorem clM_sh (hF:Fine l a) (fs:List (Int×Int)):Sh (clM hF fs) a.keys.length a.keys.length:=by
 classical
 refine ⟨by simp [clM],fun n hn=>?_⟩
 simp [clM,List.getD,hn]
theorem clM_val {x y:Nat} (hx:x<a.keys.length) (hy:y<a.keys.length):val (clM hF fs) x y=true↔(skOf hF).Cl (fun p=>p∈fs) x y:=by
 classical
 simp [val,clM,List.getD,hx,hy]
structure Bas (hF:Fine l a) (fs:List (Int×Int)) (M:Mx) (all:List (Int×Int)):Prop where
 sh:Sh M a.keys.length a.keys.length
 nd:all.Nodup
 inn:∀ p∈all,Put (fun p=>p∈fs) hF p
 iff:∀ x y:Nat,val M x y=true↔((x:Int),(y:Int))∈all
def addM (M:Mx) (q:Int×Int):Mx:=if val M q.1.toNat q.2.toNat=true then M else putF M q.1.toNat q.2.toNat
def addA (M:Mx) (all:List (Int×Int)) (q:Int×Int):List (Int×Int):=if val M q.1.toNat q.2.toNat=true then all else all++[q]
theorem Bas.zero:Bas hF fs (M0 a.keys.length a.keys.length) []:=⟨M0_sh _ _,.nil,by simp,fun x y=>by rw [M0_val];simp⟩
theorem Bas.few {M:Mx} {all:List (Int×Int)} (h:Bas hF fs M all):all.length≤a.keys.length*a.keys.length:=pairs_len h.nd fun p hp=>(h.inn p hp).inp
theorem Bas.add {M:Mx} {all:List (Int×Int)} (h:Bas hF fs M all) {q:Int×Int} (hq:Put (fun p=>p∈fs) hF q) :
  Bas hF fs (addM M q) (addA M all q)∧(∃ e,addA M all q=all++e)∧q∈addA M all q:=by
 obtain ⟨⟨q1,q2⟩,q3,q4⟩:=hq.inp
 have e:q=((q.1.toNat:Int),(q.2.toNat:Int)):=Prod.ext (by simp;omega) (by simp;omega)
 have hv:=h.iff q.1.toNat q.2.toNat
 rw [←e] at hv
 unfold addM addA
 by_cases c:val M q.1.toNat q.2.toNat=true
 ·rw [if_pos c,if_pos c]
  exact ⟨h,⟨[],by simp⟩,hv.1 c⟩
 ·rw [if_neg c,if_neg c]
  have hx:q.1.toNat<a.keys.length:=by omega
  have hy:q.2.toNat<a.keys.length:=by omega
  refine ⟨⟨put_sh h.sh hx,?_,?_,fun x y=>?_⟩,⟨_,rfl⟩,by simp⟩
  ·rw [List.nodup_append]
   refine ⟨h.nd,by simp,fun u hu w hw=>?_⟩
   rw [List.mem_singleton] at hw
   subst hw
   rintro rfl
   exact c (hv.2 hu)
  ·intro p hp
   rw [List.mem_append,List.mem_singleton] at hp
   rcases hp with hp|rfl
   ·exact h.inn p hp
   ·exact hq
  ·rw [val_put h.sh hx hy,List.mem_append,List.mem_singleton,←h.iff]
   split
   ·rename_i e2
    simp
    right
    obtain ⟨rfl,rfl⟩:=e2
    exact e.symm
   ·rename_i e2
    refine ⟨.inl,fun h2=>h2.elim id fun h2=>absurd ?_ e2⟩
    rw [e] at h2
    have e3:=congrArg Prod.fst h2
    have e4:=congrArg Prod.snd h2
    simp only at e3 e4
    omega
def mvK (l:List Sg) (a:Kd) (M:Mx) (p:Int×Int):Nat→List (Int×Int)
 | 0=>(stepOf l a p.1 p.2).2
 | k+1=>(mvK l a M p k++if (termAt a p.2).1.kind=2∧val M p.2.toNat k=true then [(p.1,(k:Int))] else [])++if (termAt a p.1).1.kind=2∧val M k p.1.toNat=true then [((k:Int),p.2)] else []
theorem mvK_len (l:List Sg) (a:Kd) (M:Mx) (p:Int×Int):∀ k,(mvK l a M p k).length≤(stepOf l a p.1 p.2).2.length+2*k
 | 0=>by simp [mvK]
 | k+1=>by
  have:=mvK_len l a M p k
  unfold mvK
  rw [List.length_append,List.length_append]
  split<;>split<;>simp<;>omega
theorem mem_mvK {M:Mx} {p q:Int×Int}:∀ {n:Nat},q∈mvK l a M p n↔q∈(stepOf l a p.1 p.2).2∨(∃ k:Nat,k<n∧(termAt a p.2).1.kind=2∧val M p.2.toNat k=true∧q=(p.1,(k:Int)))∨∃ k:Nat,k<n∧(termAt a p.1).1.kind=2∧val M k p.1.toNat=true∧q=((k:Int),p.2)
 | 0=>by simp [mvK]
 | n+1=>by
  unfold mvK
  rw [List.mem_append,List.mem_append,mem_mvK]
  constructor
  ·rintro (((h|⟨k,h⟩|⟨k,h⟩)|h)|h)
   ·exact .inl h
   ·exact .inr (.inl ⟨k,by omega,h.2⟩)
   ·exact .inr (.inr ⟨k,by omega,h.2⟩)
   ·split at h
    ·rename_i c
     exact .inr (.inl ⟨n,by omega,c.1,c.2,by simpa using h⟩)
    ·simp at h
   ·split at h
    ·rename_i c
     exact .inr (.inr ⟨n,by omega,c.1,c.2,by simpa using h⟩)
    ·simp at h
  ·rintro (h|⟨k,h0,h1,h2,h3⟩|⟨k,h0,h1,h2,h3⟩)
   ·exact .inl (.inl (.inl h))
   ·by_cases e:k=n
    ·subst e
     exact .inl (.inr (by rw [if_pos ⟨h1,h2⟩,h3];simp))
    ·exact .inl (.inl (.inr (.inl ⟨k,by omega,h1,h2,h3⟩)))
   ·by_cases e:k=n
    ·subst e
     exact .inr (by rw [if_pos ⟨h1,h2⟩,h3];simp)
    ·exact .inl (.inl (.inr (.inr ⟨k,by omega,h1,h2,h3⟩)))
theorem part_put {p q:Int×Int} (hp:Put (fun p=>p∈fs) hF p) (hq:q∈(stepOf l a p.1 p.2).2):Put (fun p=>p∈fs) hF q:=by
 have hl:=(stepOf_law hF p.1 p.2).1 q hq
 have hst:=skOf_step hF hp.inp
 rw [hst] at hq
 refine ⟨.step hp.cl hq,hl.1,hl.2 ?_ ?_⟩
 ·have:=hp.ok.1
  simp only [sided,nside,(hF.fit hp.inp.1).1]
  simpa using this
 ·have:=hp.ok.2
  simp only [sided,nside,(hF.fit hp.inp.2).1]
  simpa using this
theorem Bas.put {M:Mx} {all:List (Int×Int)} (h:Bas hF fs M all) {p q:Int×Int} (hp:p∈all) (hq:q∈mvK l a M p a.keys.length):Put (fun p=>p∈fs) hF q:=by
 have h1:=h.inn p hp
 obtain ⟨⟨a1,a2⟩,a3,a4⟩:=h1.inp
 rcases mem_mvK.1 hq with hq|⟨k,k1,k2,k3,rfl⟩|⟨k,k1,k2,k3,rfl⟩
 ·exact part_put h1 hq
 ·rw [h.iff,show ((p.2.toNat:Nat):Int)=p.2 by omega] at k3
  have h3:=h.inn _ k3
  exact ⟨.trans h1.cl k2 h3.cl,⟨⟨a1,a2⟩,by simp only;omega⟩,h1.ok.1,h3.ok.2⟩
 ·rw [h.iff,show ((p.1.toNat:Nat):Int)=p.1 by omega] at k3
  have h3:=h.inn _ k3
  exact ⟨.trans h3.cl k2 h1.cl,⟨by simp only;omega,a3,a4⟩,h3.ok.1,h1.ok.2⟩
structure Lkd (hF:Fine l a) (fs:List (Int×Int)) (M:Mx) (all:List (Int×Int)) (i:Nat):Prop where
 bas:Bas hF fs M all
 le:i≤all.length
 fst:∀ p∈fs,p∈all
 ps:∀ j:Nat,j<i→∀ q∈(stepOf l a (gi all j).1 (gi all j).2).2,q∈all
 tr:∀ j j':Nat,j<i→j'<i→(termAt a (gi all j).2).1.kind=2→(gi all j).2=(gi all j').1→((gi all j).1,(gi all j').2)∈all
theorem giAppL {α:Type} [Inhabited α] {x y:List α} {j:Nat} (h:j<x.length):gi (x++y) j=gi x j:=by
 simp [gi,List.getD,List.getElem?_append_left h]
theorem Lkd.next {M M':Mx} {all all':List (Int×Int)} {i:Nat} (h:Lkd hF fs M all i) (hi:i<all.length) (hB:Bas hF fs M' all') (he:∃ e,all'=all++e) (hm:∀ q∈mvK l a M (gi all i) a.keys.length,q∈all'):Lkd hF fs M' all' (i+1):=by
 obtain ⟨e,rfl⟩:=he
 have hg:∀ j:Nat,j<i+1→gi (all++e) j=gi all j:=fun j hj=>giAppL (by omega)
 have hpi:gi all i∈all:=gi_mem hi
 obtain ⟨⟨a1,a2⟩,a3,a4⟩:=(h.bas.inn _ hpi).inp
 refine ⟨hB,by simp;omega,fun p hp=>List.mem_append_left _ (h.fst p hp),fun j hj q hq=>?_,fun j j' hj hj' hk hjj=>?_⟩
 ·rw [hg j hj] at hq
  by_cases c:j=i
  ·subst c
   exact hm q (mem_mvK.2 (.inl hq))
  ·exact List.mem_append_left _ (h.ps j (by omega) q hq)
 ·rw [hg j hj] at hk hjj ⊢
  rw [hg j' hj'] at hjj ⊢
  by_cases c:j=i
  ·subst c
   have hm':gi all j'∈all:=gi_mem (by omega)
   obtain ⟨⟨b1,b2⟩,b3,b4⟩:=(h.bas.inn _ hm').inp
   refine hm _ (mem_mvK.2 (.inr (.inl ⟨(gi all j').2.toNat,by omega,hk,?_,Prod.ext rfl (by simp only;omega)⟩)))
   rw [h.bas.iff,hjj]
   have:(((gi all j').1.toNat:Int),((gi all j').2.toNat:Int))=gi all j':=Prod.ext (by simp only;omega) (by simp only;omega)
   rw [this]
   exact hm'
  ·by_cases c':j'=i
   ·subst c'
    have hm':gi all j∈all:=gi_mem (by omega)
    obtain ⟨⟨b1,b2⟩,b3,b4⟩:=(h.bas.inn _ hm').inp
    refine hm _ (mem_mvK.2 (.inr (.inr ⟨(gi all j).1.toNat,by omega,by rw [←hjj];exact hk,?_,Prod.ext (by simp only;omega) rfl⟩)))
    rw [h.bas.iff,←hjj]
    have:(((gi all j).1.toNat:Int),((gi all j).2.toNat:Int))=gi all j:=Prod.ext (by simp only;omega) (by simp only;omega)
    rw [this]
    exact hm'
   ·exact List.mem_append_left _ (h.tr j j' (by omega) (by omega) hk hjj)
theorem at_mem {α:Type} [Inhabited α] {x:List α} {p:α} (h:p∈x):∃ j:Nat,j<x.length∧gi x j=p:=by
 obtain ⟨j,j1,j2⟩:=List.getElem_of_mem h
 exact ⟨j,j1,by simp [gi,List.getD,j1,j2]⟩
theorem Lkd.whole {M:Mx} {all:List (Int×Int)} (h:Lkd hF fs M all all.length) {x y:Int} (hc:(skOf hF).Cl (fun p=>p∈fs) x y):(x,y)∈all:=by
 induction hc with
 | base h1=>exact h.fst _ h1
 | @step x y u v _ h1 ih =>
  obtain ⟨j,j1,j2⟩:=at_mem ih
  refine h.ps j j1 _ ?_
  rw [j2]
  rw [skOf_step hF (h.bas.inn _ ih).inp]
  exact h1
 | @trans x Y z _ hk _ i1 i2 =>
  obtain ⟨j,j1,j2⟩:=at_mem i1
  obtain ⟨j',j1',j2'⟩:=at_mem i2
  have:=h.tr j j' j1 j1' (by rw [j2];exact hk) (by rw [j2,j2'])
  rw [j2,j2'] at this
  exact this
theorem Lkd.end {M:Mx} {all:List (Int×Int)} (h:Lkd hF fs M all all.length):M=clM hF fs:=by
 refine h.bas.sh.ext (clM_sh hF fs) fun x y hx hy=>?_
 rw [Bool.eq_iff_iff,clM_val hx hy,h.bas.iff]
 exact ⟨fun hp=>(h.bas.inn _ hp).cl,fun hc=>h.whole hc⟩
end
def FM (b0:ABlk) (n m:Nat) (M:Mx) (C:AHeap):AHeap:=HM [b0,.cells 0 (outC2 2 n m)] M C
section
variable {b0:ABlk} {n m:Nat} {M:Mx} {C:AHeap}
theorem FM_0:(FM b0 n m M C)[0]?=some b0:=rfl
theorem FM_1:(FM b0 n m M C)[1]?=some (.cells 0 (outC2 2 n m)):=rfl
theorem FM_r (h:Sh M n m) {v:Nat} (hv:v<n):(FM b0 n m M C)[2+v]?=some (.cells 0 (bs (rowM M v))):=by
 unfold FM
 rw [show 2+v=[b0,ABlk.cells 0 (outC2 2 n m)].length+v from rfl,HM_row (by rw [h.len];exact hv)]
 rfl
theorem FM_l (h:Sh M n m) {v:Nat} (hv:v<n):(bs (rowM M v)).length=m:=by
 have:=h.wid v hv
 simpa [rowM] using this
theorem FM_s (h:Sh M n m) {v:Nat} (hv:v<n) (x:Nat) (b:Bool):(FM b0 n m M C).set (2+v) (.cells 0 ((bs (rowM M v)).set x (.bool b)))=FM b0 n m (M.set v ((rowM M v).set x b)) C:=by
 have e:(bs (rowM M v)).set x (.bool b)=bs ((rowM M v).set x b):=List.map_set.symm
 unfold FM
 rw [e,show 2+v=[b0,ABlk.cells 0 (outC2 2 n m)].length+v from rfl]
 exact HM_set (by rw [h.len];exact hv) _
theorem FM_len (h:Sh M n m):(FM b0 n m M C).length=n+2+C.length:=by
 unfold FM
 rw [HM_len,h.len]
 simp
 omega
theorem FM_c (h:Sh M n m) (i:Nat):(FM b0 n m M C)[n+2+i]?=C[i]?:=by
 unfold FM
 have:=HM_C (A:=[b0,ABlk.cells 0 (outC2 2 n m)]) (M:=M) (C:=C) (i:=i)
 rw [h.len] at this
 rw [←this]
 congr 1
 simp
 omega
theorem FM_sc (h:Sh M n m) (i:Nat) (b:ABlk):(FM b0 n m M C).set (n+2+i) b=FM b0 n m M (C.set i b):=by
 unfold FM HM
 have hl:=h.len
 rw [List.set_append_right _ _ (by simp;omega),show n+2+i - [b0,ABlk.cells 0 (outC2 2 n m)].length=n+i by simp;omega,List.set_append_right _ _ (by simp;omega),List.length_map,hl,show n+i - n=i by omega]
theorem FM_app (X:AHeap):FM b0 n m M C++X=FM b0 n m M (C++X):=HM_app X
theorem FM_take (h:Sh M n m) (X:AHeap):(FM b0 n m M (C++X)).take (n+2+C.length)=FM b0 n m M C:=by
 rw [←FM_app,←FM_len (b0:=b0) (C:=C) h,List.take_left]
theorem FM_RLB (h0:∀ k,RLB k b0) (k:Nat) (hk:n+2≤k) (hC:al (RLB k) C):al (RLB k) (FM b0 n m M C):=by
 refine al_of fun b hb=>?_
 unfold FM HM at hb
 simp only [List.cons_append,List.nil_append,List.mem_cons,List.mem_append,List.mem_map] at hb
 rcases hb with rfl|rfl|⟨r,_,rfl⟩|hb
 ·exact h0 k
 ·simp only [RLB,outC2,List.mem_map]
  rintro _ ⟨q,hq,rfl⟩
  simp at hq
  simp
  omega
 ·intro y hy
  obtain ⟨b,_,rfl⟩:=List.mem_map.1 hy
  simp
 ·exact al_mem hC b hb
theorem frzB (X:List Bool) {H:AHeap} {i g n k:Nat} (h:H[i]?=some (.cells g (bs X))) (hn:n=X.length):frz true H (k+2) (.loc i g 0 n 1 false)=bools X:=by
 subst hn
 have hc:=chunk_one (f:=AV.bool) (l:=X)
 simp [frz,h,hc]
theorem frzM (h:Sh M n m) (k:Nat):frz true (FM b0 n m M C) (k+4) (.loc 1 0 0 n 1 false)=boolss M:=by
 have hlo:=outC2_len 2 n m
 have hch:chunk 1 (outC2 2 n m) n=(List.range n).map fun v:Nat=>[AV.loc (2+v) 0 0 m 1 false]:=by
  have:=chunk_one (f:=fun v:Nat=>AV.loc (2+v) 0 0 m 1 false) (l:=List.range n)
  rw [List.length_range] at this
  exact this
 have e:(List.range n).map (fun v:Nat=>[frz true (FM b0 n m M C) (k+3) (AV.loc (2+v) 0 0 m 1 false)])=M.map fun r=>[bools r]:=by
  apply List.ext_getElem (by simp [h.len])
  intro i h1 h2
  simp only [List.length_map,List.length_range] at h1
  have hw:=h.wid i h1
  rw [List.getElem_map,List.getElem_map,List.getElem_range,frzB (k:=k+1) (rowM M i) (FM_r h h1) hw.symm]
  have:rowM M i=M[i]'(by rw [h.len];exact h1):=by simp [rowM,List.getD,h.len,h1]
  rw [this]
 have hmm:((List.range n).map fun v:Nat=>[AV.loc (2+v) 0 0 m 1 false]).map (fun e=>e.map (frz true (FM b0 n m M C) (k+3)))=M.map fun r=>[bools r]:=by
  rw [List.map_map]
  exact e
 generalize hF:frz true (FM b0 n m M C) (k+3)=F at *
 rw [frz,hF,FM_1]
 simp only [hlo,Nat.zero_add,Nat.mul_one,Nat.le_refl,and_self,if_true,List.drop_zero,hch,hmm,Bool.and_false]
theorem mkF {i:Nat}:HM [b0,.cells 0 (mkC n m n)] M C=FM b0 n m M C:=by rw [mkC_full];rfl
end
def c21b:AFn:=lit fun m o w i y z p n s t k q r d c f b e a=>⟨176,q (r [i 4 (.box (t 1)),i 6 (.mov (.lit .nilS))]) (q (r [a 19 0 4,o 20 19,i 21 (.len (t 20)),m 7 21]) (q (r [m 22 7,i 23 (.mksl 1 24 [.nilS] (t 22) (t 22)),m 8 23]) (q (q (r [i 9 (.mov (k 0))]) (b 0 ((q (q (r [m 24 9,m 25 7,i 26 (e .lss 24 25)]) (c 26 .skip (.exit 0))) (q (.block 1 (r [m 29 8,m 30 9,m 31 7,i 32 (.mksl 1 1 [.bool false] (t 31) (t 31)),i 33 (.ia 1 (t 29) (t 30)),s (.store 1 (t 33) (t 32))])) (r [m 27 9,i 28 (.bin .add (t 27) (k 1)),m 9 28])))))) (q (r [i 10 (.mov (.lit .nilS))]) (q (q (r [i 11 (.mov (k 0))]) (b 2 ((q (q (r [m 34 11,m 35 2,i 36 (.len (t 35)),i 37 (e .lss 34 36)]) (c 37 .skip (.exit 2))) (q (.block 3 (q (r [m 40 2,m 41 11,i 42 (.ia 2 (t 40) (t 41)),w 43 2 42,i 12 (.alloc [.int .i64 0,.int .i64 0]),s (.store 2 (t 12) (t 43))]) (q (d [m 44 8,i 45 (.iarr 2 1 (t 12) (k 0)),o 46 45,i 47 (.ia 1 (t 44) (t 46)),o 48 47,i 49 (.iarr 2 1 (t 12) (k 1)),o 50 49,i 51 (.ia 1 (t 48) (t 50)),o 52 51,i 53 (.not (t 52))]) (c 53 (q (d [m 54 8,i 55 (.iarr 2 1 (t 12) (k 0)),o 56 55,i 57 (.ia 1 (t 54) (t 56)),o 58 57,i 59 (.iarr 2 1 (t 12) (k 1)),o 60 59,i 61 (.ia 1 (t 58) (t 60)),s (.store 1 (t 61) (.lit (.bool true)))]) (r [m 62 10,w 63 2 12,i 64 (.bslice 2 1 [.int .i64 0,.int .i64 0] [(0,t 63)]),i 65 (.app 2 16 (t 62) (t 64)),m 10 65])) .skip)))) (r [m 38 11,i 39 (.bin .add (t 38) (k 1)),m 11 39])))))) (q (q (r [i 13 (.mov (k 0))]) (b 4 ((q (q (r [m 66 13,m 67 10,i 68 (.len (t 67)),i 69 (e .lss 66 68)]) (c 69 .skip (.exit 4))) (q (.block 5 (q (r [m 72 10,m 73 13,i 74 (.ia 2 (t 72) (t 73)),w 75 2 74,i 14 (.alloc [.int .i64 0,.int .i64 0]),s (.store 2 (t 14) (t 75))]) (q (r [i 76 (.bsloc 2 0 [.int .i64 0,.int .i64 0] []),m 77 0,w 78 2 4,i 79 (.iarr 2 1 (t 14) (k 0)),o 80 79,i 81 (.iarr 2 1 (t 14) (k 1)),o 82 81,i 83 (f 44 [t 77,t 78,t 80,t 82]),i 84 (.fld 1 1 false (t 83)),i 85 (.app 2 16 (t 76) (t 84)),m 15 85]) (q (q (r [i 16 (.mov (k 0))]) (b 6 ((q (q (r [m 86 16,m 87 7,i 88 (e .lss 86 87)]) (c 88 .skip (.exit 6))) (q (.block 7 (q (q (r [a 91 0 4,o 92 91,i 93 (.iarr 2 1 (t 14) (k 1)),o 94 93,i 95 (.ia 1 (t 92) (t 94)),o 96 95,i 97 (.ia 1 (t 96) (k 0)),o 98 97,i 99 (.bin .eql (t 98) (k 2)),m 100 99,y 101 8 100,p 102 (.iarr 2 1 (t 14) (k 1)) 100,p 103 (.load 1 false (t 102)) 100,p 104 (.ia 1 (t 101) (t 103)) 100,p 105 (.load 1 false (t 104)) 100,y 106 16 100,p 107 (.ia 1 (t 105) (t 106)) 100,p 108 (.load 1 false (t 107)) 100,i 109 (.pick (t 100) (t 108) (.lit (.bool false)))]) (c 109 (r [m 110 15,i 111 (.iarr 2 1 (t 14) (k 0)),o 112 111,m 113 16,i 114 (.build [.int .i64 0,.int .i64 0] [(0,1,t 112),(1,1,t 113)]),i 115 (.bslice 2 1 [.int .i64 0,.int .i64 0] [(0,t 114)]),i 116 (.app 2 16 (t 110) (t 115)),m 15 116]) .skip)) (q (d [a 117 0 4,o 118 117,i 119 (.iarr 2 1 (t 14) (k 0)),o 120 119,i 121 (.ia 1 (t 118) (t 120)),o 122 121,i 123 (.ia 1 (t 122) (k 0)),o 124 123,i 125 (.bin .eql (t 124) (k 2)),m 126 125,y 127 8 126,y 128 16 126,p 129 (.ia 1 (t 127) (t 128)) 126,p 130 (.load 1 false (t 129)) 126,p 131 (.iarr 2 1 (t 14) (k 0)) 126,p 132 (.load 1 false (t 131)) 126,p 133 (.ia 1 (t 130) (t 132)) 126,p 134 (.load 1 false (t 133)) 126,i 135 (.pick (t 126) (t 134) (.lit (.bool false)))]) (c 135 (r [m 136 15,m 137 16,i 138 (.iarr 2 1 (t 14) (k 1)),o 139 138,i 140 (.build [.int .i64 0,.int .i64 0] [(0,1,t 137),(1,1,t 139)]),i 141 (.bslice 2 1 [.int .i64 0,.int .i64 0] [(0,t 140)]),i 142 (.app 2 16 (t 136) (t 141)),m 15 142]) .skip)))) (r [m 89 16,i 90 (.bin .add (t 89) (k 1)),m 16 90])))))) (q (r [i 17 (.mov (k 0))]) (b 8 ((q (q (r [m 143 17,m 144 15,i 145 (.len (t 144)),i 146 (e .lss 143 145)]) (c 146 .skip (.exit 8))) (q (.block 9 (q (r [m 149 15,m 150 17,i 151 (.ia 2 (t 149) (t 150)),w 152 2 151,i 18 (.alloc [.int .i64 0,.int .i64 0]),s (.store 2 (t 18) (t 152))]) (q (d [m 153 8,i 154 (.iarr 2 1 (t 18) (k 0)),o 155 154,i 156 (.ia 1 (t 153) (t 155)),o 157 156,i 158 (.iarr 2 1 (t 18) (k 1)),o 159 158,i 160 (.ia 1 (t 157) (t 159)),o 161 160,i 162 (.not (t 161))]) (c 162 (q (d [m 163 8,i 164 (.iarr 2 1 (t 18) (k 0)),o 165 164,i 166 (.ia 1 (t 163) (t 165)),o 167 166,i 168 (.iarr 2 1 (t 18) (k 1)),o 169 168,i 170 (.ia 1 (t 167) (t 169)),s (.store 1 (t 170) (.lit (.bool true)))]) (r [m 171 10,w 172 2 18,i 173 (.bslice 2 1 [.int .i64 0,.int .i64 0] [(0,t 172)]),i 174 (.app 2 16 (t 171) (t 173)),m 10 174])) .skip)))) (r [m 147 17,i 148 (.bin .add (t 147) (k 1)),m 17 148])))))))))) (r [m 70 13,i 71 (.bin .add (t 70) (k 1)),m 13 71])))))) (q (r [m 175 8,m 6 175]) .ret))))))),[.tmp 6]⟩
def an21:An:=⟨[76],[]⟩
theorem c21b_ok:cFn Tryz.prog an21 Tryz.f21=some c21b:=by kernel_rfl
section
variable {l:List Sg} {a:Kd}
theorem stepOf_few (hF:Fine l a) {x y:Int} (h:inP a (x,y)):(stepOf l a x y).2.length≤100:=by
 have fx:=(hF.fit (x:=x) h.1).2
 have hax:=fx.args hF.short
 unfold stepOf
 split
 ·unfold stepWay
  simp only
  have hv2:∀ p q v:Int,(varied p q v).length≤2:=fun p q v=>(varied_len p q v).2
  split
  ·simp
  split
  ·simp
  split
  ·simp
  split
  ·simp
  split
  ·unfold takesWay
   simp only
   split
   ·simp only;split
    ·simp
    ·split<;>simp
   ·split
    ·have:=hv2 (gi (termAt a x).1.args (termAt a y).1.part) (gi (termAt a y).1.args 0) (byte (gi l (termAt a y).1.sym).args (termAt a y).1.part)
     simp only
     omega
    ·simp
  split
  ·have:=consL_len ⟨l,x,y,(termAt a x).1,(termAt a y).1⟩ (termAt a x).1.args.length
   simp only
   omega
  split<;>simp
 ·simp
set_option maxHeartbeats 4000000 in
theorem close21_PF (hF:Fine l a) (hfew:a.keys.length≤400) (fs:List (Int×Int)) (hfs:∀ p∈fs,Put (fun p=>p∈fs) hF p) (hfl:fs.length≤1000):PF Tryz.prog 21 [sigs l,.agg a.cs,prs fs] (boolss (clM hF fs)):=by
 refine PFk 9 hm Tryz.func21 c21b_ok (Nat.le_of_ble_eq_true rfl) (by simp) (RL_boolss 0 _) ?_
 generalize hQ:Rle 9 (boolss (clM hF fs))=Q
 obtain ⟨N,hN⟩:∃ N,a.keys.length=N:=⟨_,rfl⟩
 rw [hN] at hfew
 have hNA:N≤maxA:=by unfold maxA;omega
 have hfA:fs.length≤maxA:=by unfold maxA;omega
 have hmk:=mk_rows (n:=N) (by omega)
 have hmk2:=mk_row (n:=N) (by omega)
 simp (maxSteps:=3000000) [go_sem,-List.length_flatten,-List.map_drop,-List.map_take,c21b,hN,hmk,hNA]
 refine run_loopK (fun r T H=>∃ i:Nat,r=N - i∧i≤N∧T=[(9,i64 i),(8,.loc 1 0 0 N 1 false),(7,i64 N),(4,.ptr 0 0 0),(2,prs fs),(0,sigs l)]∧H=HM [.cells 0 a.cs,.cells 0 (mkC N N i)] (M0 i N) [])
  N [(9,i64 (0:Nat)),(8,.loc 1 0 0 N 1 false),(7,i64 N),(4,.ptr 0 0 0),(2,prs fs),(0,sigs l)] [.cells 0 a.cs,.cells 0 (List.replicate N .nilS)]
  (Wk.sub (by simp [Tm.get])) ⟨0,rfl,Nat.zero_le _,rfl,by simp [mkC,outC2,HM,M0]⟩ ?_
 rintro r T H ⟨i,rfl,hil,rfl,rfl⟩ KK kx kr kn
 by_cases hlt:i<N
 ·have hml:=mkC_len (w:=N) hil
  have hset:=mkC_set (w:=N) hlt
  have hM0l:(M0 i N).length=i:=by simp [M0]
  have hnx:=nxt hlt hNA
  have g1:=fun x oc M C=>HM_1 (a:=x) (b:=.cells 0 oc) (M:=M) (C:=C)
  simp (maxSteps:=3000000) [go_sem,-List.length_flatten,-List.map_drop,-List.map_take,hlt,hmk2,HM_push,HM_len2,hM0l,↓g1,hml,HM_set1,hset,M0_next]
  refine ⟨by omega,kn _ _ (Kl_sub (N - (i+1)) ⟨i+1,rfl,hlt,rfl,rfl⟩ ?_ (by omega))⟩
  simp [Tm.get,hnx]
 have en:N=i:=by omega
 subst en
 rw [mkF (i:=N)]
 clear kn hlt hil kr
 simp (maxSteps:=3000000) [go_sem,-List.length_flatten,-List.map_drop,-List.map_take,kx]
 clear kx KK
 have hlo:=outC2_len 2 N N
 have hb0:∀ k,RLB k (.cells 0 a.cs):=fun k=>rlb_kd
 have hB0:Bas hF fs (M0 N N) []:=by have:=Bas.zero (hF:=hF) (fs:=fs);rwa [hN] at this
 have hsh:∀ {M all},Bas hF fs M all→Sh M N N:=fun h=>by have:=h.sh;rwa [hN] at this
 have hlen:∀ {M all},Bas hF fs M all→all.length≤160000:=fun h=>by
  have h1:=h.few
  rw [hN] at h1
  have h2:N*N≤400*400:=Nat.mul_le_mul hfew hfew
  omega
 refine run_loopK (fun r T H=>∃ (i g:Nat) (M:Mx) (all:List (Int×Int)),r=fs.length - i∧i≤fs.length∧(Bas hF fs M all∧∀ j:Nat,j<i→gi fs j∈all) ∧
   T=[(11,i64 i),(10,.loc (N+2) g 0 all.length 2 false),(8,.loc 1 0 0 N 1 false),(7,i64 N),(4,.ptr 0 0 0),(2,prs fs),(0,sigs l)]∧H=FM (.cells 0 a.cs) N N M [.cells g (fl prc all)])
  fs.length [(11,i64 (0:Nat)),(10,.loc (N+2) 0 0 0 2 false),(8,.loc 1 0 0 N 1 false),(7,i64 N),(4,.ptr 0 0 0),(2,prs fs),(0,sigs l)] (FM (.cells 0 a.cs) N N (M0 N N) []++[.cells 0 []])
  ((Wk.nil 10 2 (by simp [Tm.get])).trans (Wk.sub (by simp [Tm.get,FM_len (M0_sh N N)]))) ⟨0,0,M0 N N,[],rfl,Nat.zero_le _,⟨hB0,fun j h=>by omega⟩,rfl,by rw [FM_app];rfl⟩ ?_
 rintro r T H ⟨i,g,M,all,rfl,hif,⟨hB,hfi⟩,rfl,rfl⟩ KK kx kr kn
 have hS:=hsh hB
 have hal:=hlen hB
 by_cases hil:i<fs.length
 ·have hnx:=nxt hil hfA
  have hpm:=gi_mem hil
  have hput:=hfs _ hpm
  obtain ⟨⟨a1,a2⟩,a3,a4⟩:=hput.inp
  rw [hN] at a2 a4
  obtain ⟨hB2,⟨e,he⟩,hq⟩:=hB.add hput
  obtain ⟨x,hx⟩:∃ x:Nat,(gi fs i).1=x:=⟨(gi fs i).1.toNat,by omega⟩
  obtain ⟨y,hy⟩:∃ y:Nat,(gi fs i).2=y:=⟨(gi fs i).2.toNat,by omega⟩
  have hxl:x<N:=by omega
  have hyl:y<N:=by omega
  have hpe:gi fs i=((x:Int),(y:Int)):=Prod.ext hx hy
  have hLx:=outC2_load (B:=2) (w:=N) hxl
  have hvv:=rowM_load hS hxl hyl
  have hrl:=FM_l hS hxl
  have hr:=FM_r (b0:=.cells 0 a.cs) (C:=[.cells g (fl prc all),.cells 0 [i64 x,i64 y]]) hS hxl
  have h1:=FM_1 (b0:=.cells 0 a.cs) (n:=N) (m:=N) (M:=M) (C:=[.cells g (fl prc all),.cells 0 [i64 x,i64 y]])
  have hln:=FM_len (b0:=.cells 0 a.cs) (C:=[.cells g (fl prc all)]) hS
  have hap:=FM_app (b0:=.cells 0 a.cs) (n:=N) (m:=N) (M:=M) (C:=[.cells g (fl prc all)])
  have hc1:=fun c b=>FM_c (b0:=.cells 0 a.cs) (C:=[c,b]) hS 1
  have hs1:=fun c b b'=>FM_sc (b0:=.cells 0 a.cs) (C:=[c,b]) hS 1 b'
  have hs:=fun b=>FM_s (b0:=.cells 0 a.cs) (C:=[.cells g (fl prc all),.cells 0 [i64 x,i64 y]]) hS hxl y b
  have next:∀ (M':Mx) (all':List (Int×Int)) (g':Nat) (T':Tm),Bas hF fs M' all'→(∃ e,all'=all++e)→gi fs i∈all' →
    al (fun q=>T'.get q.1=q.2) [(11,i64 ((i+1:Nat):Int)),(10,.loc (N+2) g' 0 all'.length 2 false),(8,.loc 1 0 0 N 1 false),(7,i64 N),(4,.ptr 0 0 0),(2,prs fs),(0,sigs l)] →
    KK .normal T' (FM (.cells 0 a.cs) N N M' [.cells g' (fl prc all'),.cells 0 [i64 x,i64 y]]):=by
   rintro M' all' g' T' q1 ⟨e,rfl⟩ q3 hT
   refine kn _ _ (Kl_next (fs.length - (i+1)) (N+3) (by omega) ⟨i+1,g',M',_,rfl,hil,⟨q1,fun j hj=>?_⟩,rfl,rfl⟩ hT (by simp) (FM_take (C:=[.cells g' (fl prc (all++e))]) (hsh q1) [.cells 0 [i64 x,i64 y]]) (FM_RLB hb0 _ (by omega) ⟨rlb_fl,trivial⟩) (by omega))
   by_cases c:j=i
   ·subst c;exact q3
   ·exact List.mem_append_left _ (hfi j (by omega))
  clear kn
  clear he
  unfold addM addA at hB2
  unfold addA at hq
  rw [hpe] at hB2 hq
  simp only [Int.toNat_natCast] at hB2 hq
  cases hv:val M x y with
  | true =>
   rw [hv] at hvv
   rw [if_pos hv,if_pos hv] at hB2
   rw [if_pos hv] at hq
   simp (maxSteps:=3000000) [go_sem,-List.length_flatten,-List.map_drop,-List.map_take,hil,hfA,hx,hy,hxl,hyl,aIarr,aint,hln,↓hap,↓hc1,↓hs1,↓h1,hlo,↓hLx,↓hr,hrl,↓hvv]
   exact next M all g _ hB2 ⟨[],by simp⟩ (by rw [hpe];exact hq) (by simp [Tm.get,hnx])
  | false =>
   rw [hv] at hvv
   have hvn:¬ val M x y=true:=by rw [hv];simp
   rw [if_neg hvn,if_neg hvn] at hB2
   rw [if_neg hvn] at hq
   have eput:M.set x ((rowM M x).set y true)=putF M x y:=rfl
   have hS2:=hsh hB2
   have hc2:=fun c b=>FM_c (b0:=.cells 0 a.cs) (C:=[c,b]) hS2 1
   have hc0:=fun c b=>FM_c (b0:=.cells 0 a.cs) (C:=[c,b]) hS2 0
   have hs0:=fun c b b'=>FM_sc (b0:=.cells 0 a.cs) (C:=[c,b]) hS2 0 b'
   simp only [Nat.add_zero] at hc0 hs0
   have hA:all.length+1≤maxA:=by unfold maxA;omega
   have hfl:=fl_len (f:=prc) (sz:=2) pr2 all
   have hapP:=fl_appP all x y
   simp (maxSteps:=3000000) [go_sem,-List.length_flatten,-List.map_drop,-List.map_take,hil,hfA,hx,hy,hxl,hyl,aIarr,aint,hln,↓hap,↓hc1,↓hs1,↓h1,hlo,↓hLx,↓hr,hrl,↓hvv,↓hs,eput,↓hc2,↓hc0,↓hs0,hA,hfl,↓hapP]
   refine ⟨by omega,fun _ _=>?_⟩
   exact next (putF M x y) (all++[((x:Int),(y:Int))]) (g+1) _ hB2 ⟨_,rfl⟩ (by rw [hpe];exact hq) (by simp [Tm.get,hnx])
 have ei:fs.length=i:=by omega
 subst ei
 have hfall:∀ p∈fs,p∈all:=fun p hp=>by
  obtain ⟨j,j1,j2⟩:=at_mem hp
  rw [←j2];exact hfi j j1
 have hlen:∀ {M all},Bas hF fs M all→all.length≤160000:=hlen
 simp (maxSteps:=3000000) [go_sem,-List.length_flatten,-List.map_drop,-List.map_take,hil,hfA,kx]
 refine run_loopK (fun r T H=>∃ (i g:Nat) (M:Mx) (all:List (Int×Int)),r=160000 - i∧Lkd hF fs M all i ∧
   T=[(13,i64 i),(10,.loc (N+2) g 0 all.length 2 false),(8,.loc 1 0 0 N 1 false),(7,i64 N),(4,.ptr 0 0 0),(0,sigs l)]∧H=FM (.cells 0 a.cs) N N M [.cells g (fl prc all)])
  160000 [(13,i64 (0:Nat)),(10,.loc (N+2) g 0 all.length 2 false),(8,.loc 1 0 0 N 1 false),(7,i64 N),(4,.ptr 0 0 0),(0,sigs l)] (FM (.cells 0 a.cs) N N M [.cells g (fl prc all)])
  (Wk.sub (by simp [Tm.get])) ⟨0,g,M,all,rfl,⟨hB,Nat.zero_le _,hfall,fun j h=>by omega,fun j j' h=>by omega⟩,rfl,rfl⟩ ?_
 clear hfall hfi hal hS hB hif hil kx kr kn
 clear KK M all g
 rintro r T H ⟨i,g,M,all,rfl,hK,rfl,rfl⟩ KK kx kr kn
 have hB:=hK.bas
 have hS:=hsh hB
 have hal:=hlen hB
 have haA:all.length≤maxA:=by unfold maxA;omega
 have hfl:=fl_len (f:=prc) (sz:=2) pr2 all
 have hq0:=fun M (h:Sh M N N) c=>FM_c (b0:=.cells 0 a.cs) (C:=[c]) h 0
 simp only [Nat.add_zero] at hq0
 have hq1:=hq0 M hS
 by_cases hil:i<all.length
 ·have hnx:=nxt hil haA
  have hpm:gi all i∈all:=gi_mem hil
  have hput:=hB.inn _ hpm
  obtain ⟨⟨a1,a2⟩,a3,a4⟩:=hput.inp
  have hkx:=key_kind hF ⟨a1,a2⟩
  have hky:=key_kind hF ⟨a3,a4⟩
  rw [hN] at a2 a4
  have hld:=pr_load (s:=all) (q:=i) hil
  have hfa:2≤all.length*2 - i*2:=by omega
  have hps:∀ q∈mvK l a M (gi all i) N,Put (fun p=>p∈fs) hF q:=fun q hq=>hB.put hpm (by rw [hN];exact hq)
  have hnext:=fun M' all'=>hK.next (M':=M') (all':=all') hil
  rw [hN] at hnext
  obtain ⟨x,hx⟩:∃ x:Nat,(gi all i).1=x:=⟨(gi all i).1.toNat,by omega⟩
  obtain ⟨y,hy⟩:∃ y:Nat,(gi all i).2=y:=⟨(gi all i).2.toNat,by omega⟩
  have hxl:x<N:=by omega
  have hyl:y<N:=by omega
  have hpe:gi all i=((x:Int),(y:Int)):=Prod.ext hx hy
  rw [hpe] at hld hps hnext hkx hky
  simp only at hld hkx hky
  have hln1:=FM_len (b0:=.cells 0 a.cs) (C:=[.cells g (fl prc all)]) hS
  have hap:=fun C=>FM_app (b0:=.cells 0 a.cs) (n:=N) (m:=N) (M:=M) (C:=C)
  have hc1:=fun c b=>FM_c (b0:=.cells 0 a.cs) (C:=[c,b]) hS 1
  have hs1:=fun c b b'=>FM_sc (b0:=.cells 0 a.cs) (C:=[c,b]) hS 1 b'
  have hln2:=FM_len (b0:=.cells 0 a.cs) (C:=[.cells g (fl prc all),.cells 0 [i64 x,i64 y]]) hS
  have hd:=fun c b e=>FM_c (b0:=.cells 0 a.cs) (C:=[c,b,e]) hS
  have hd1:=fun c b e=>hd c b e 1
  have hd2:=fun c b e=>hd c b e 2
  have hds2:=fun c b e e'=>FM_sc (b0:=.cells 0 a.cs) (C:=[c,b,e]) hS 2 e'
  have hdr:=fun C v hv=>FM_r (b0:=.cells 0 a.cs) (C:=C) hS (v:=v) hv
  have h00:=fun C=>FM_0 (b0:=.cells 0 a.cs) (n:=N) (m:=N) (M:=M) (C:=C)
  have h11:=fun C=>FM_1 (b0:=.cells 0 a.cs) (n:=N) (m:=N) (M:=M) (C:=C)
  have hstep:=rstep_PF hF (x:Int) (y:Int)
  have hm0:mvK l a M ((x:Int),(y:Int)) 0=(stepOf l a x y).2:=rfl
  obtain ⟨P,hP⟩:∃ P,(stepOf l a x y).2=P:=⟨_,rfl⟩
  rw [hP] at hm0 hstep
  have hPl:P.length≤100:=by
   rw [←hP]
   exact stepOf_few hF (by rw [←hpe];exact hput.inp)
  generalize (stepOf l a x y).1=wk at *
  simp (maxSteps:=3000000) [go_sem,-List.length_flatten,-List.map_drop,-List.map_take,hil,haA,↓hq1,↓hld,hfl,hfa,hx,hy,hln1,↓hap,↓hc1,↓hs1,hln2,aIarr,aint,↓h00,↓hd1,↓hd2]
  refine PF.call hstep 9 (by simp [lePs,-List.length_flatten,-List.map_drop,-List.map_take,Function.comp_def,len_flat]) ?_
  have hPA:P.length≤maxA:=by unfold maxA;omega
  have hfP:(P.map fun p=>[i64 p.1,i64 p.2]).flatten=fl prc P:=rfl
  obtain ⟨I,hI⟩:∃ I:Nat→Tm→AHeap→Prop,I=fun r T H=>∃ k g2:Nat,r=N - k∧k≤N ∧
    T=[(16,i64 k),(15,.loc (N+2+2) g2 0 (mvK l a M ((x:Int),(y:Int)) k).length 2 false),(14,.ptr (N+2+1) 0 0),(13,i64 i),(10,.loc (N+2) g 0 all.length 2 false),(8,.loc 1 0 0 N 1 false),(7,i64 N),(4,.ptr 0 0 0),(0,sigs l)] ∧
    H=FM (.cells 0 a.cs) N N M [.cells g (fl prc all),.cells 0 [i64 x,i64 y],.cells g2 (fl prc (mvK l a M ((x:Int),(y:Int)) k))]:=⟨_,rfl⟩
  have hI0:∀ g2,I N [(16,i64 (0:Nat)),(15,.loc (N+2+2) g2 0 P.length 2 false),(14,.ptr (N+2+1) 0 0),(13,i64 i),(10,.loc (N+2) g 0 all.length 2 false),(8,.loc 1 0 0 N 1 false),(7,i64 N),(4,.ptr 0 0 0),(0,sigs l)] (FM (.cells 0 a.cs) N N M [.cells g (fl prc all),.cells 0 [i64 x,i64 y],.cells g2 (fl prc P)]):=fun g2=>by
   rw [hI]
   exact ⟨0,g2,rfl,Nat.zero_le _,by rw [hm0],by rw [hm0]⟩
  refine by_way (A:=?G) (fun key=>?main) ?sub
  case main =>
   by_cases hP0:P=[]
   ·simp (maxSteps:=3000000) [go_sem,-List.length_flatten,-List.map_drop,-List.map_take,Kc,↓hd2,↓hds2,hP0]
    refine run_loopK I N [(16,i64 (0:Nat)),(15,.loc (N+2+2) 0 0 0 2 false),(14,.ptr (N+2+1) 0 0),(13,i64 i),(10,.loc (N+2) g 0 all.length 2 false),(8,.loc 1 0 0 N 1 false),(7,i64 N),(4,.ptr 0 0 0),(0,sigs l)] (FM (.cells 0 a.cs) N N M [.cells g (fl prc all),.cells 0 [i64 x,i64 y],.cells 0 []]) (Wk.sub (by simp [Tm.get])) (by have:=hI0 0;rw [hP0] at this;exact this) ?_
    exact key ()
   ·simp (maxSteps:=3000000) [go_sem,-List.length_flatten,-List.map_drop,-List.map_take,Kc,↓hd2,↓hds2,hP0,hPA,hfP]
    intros
    refine run_loopK I N _ _ (Wk.sub (by simp [Tm.get])) (hI0 1) ?_
    exact key ()
  case sub =>
   intro r T H hh KX kx2 kr2 kn2
   rw [hI] at hh
   obtain ⟨k,g2,rfl,hkN,rfl,rfl⟩:=hh
   have hml:=mvK_len l a M ((x:Int),(y:Int)) k
   rw [show (stepOf l a ((x:Int),(y:Int)).1 ((x:Int),(y:Int)).2).2=P from hP] at hml
   have hfm:=fl_len (f:=prc) (sz:=2) pr2 (mvK l a M ((x:Int),(y:Int)) k)
   by_cases hkl:k<N
   ·have hknx:=nxt hkl hNA
    have hLy:=outC2_load (B:=2) (w:=N) hyl
    have hLk:=outC2_load (B:=2) (w:=N) hkl
    have hry:=fun C=>FM_r (b0:=.cells 0 a.cs) (C:=C) hS hyl
    have hrk:=fun C=>FM_r (b0:=.cells 0 a.cs) (C:=C) hS hkl
    have hrly:=FM_l hS hyl
    have hrlk:=FM_l hS hkl
    have hvy:=rowM_load hS hyl hkl
    have hvk:=rowM_load hS hkl hxl
    have hmk1:mvK l a M ((x:Int),(y:Int)) (k+1)=(mvK l a M ((x:Int),(y:Int)) k++if (termAt a (y:Int)).1.kind=2∧val M y k=true then [((x:Int),(k:Int))] else [])++if (termAt a (x:Int)).1.kind=2∧val M k x=true then [((k:Int),(y:Int))] else []:=rfl
    generalize hL:mvK l a M ((x:Int),(y:Int)) k=L at *
    have next:∀ (g3:Nat) (L':List (Int×Int)) (T':Tm),L'=mvK l a M ((x:Int),(y:Int)) (k+1)→al (fun q=>T'.get q.1=q.2) [(16,i64 ((k+1:Nat):Int)),(15,.loc (N+2+2) g3 0 L'.length 2 false),(14,.ptr (N+2+1) 0 0),(13,i64 i),(10,.loc (N+2) g 0 all.length 2 false),(8,.loc 1 0 0 N 1 false),(7,i64 N),(4,.ptr 0 0 0),(0,sigs l)] →
      KX .normal T' (FM (.cells 0 a.cs) N N M [.cells g (fl prc all),.cells 0 [i64 x,i64 y],.cells g3 (fl prc L')]):=by
     rintro g3 L' T' rfl hT
     exact kn2 _ _ (Kl_sub (N - (k+1)) (by rw [hI];exact ⟨k+1,g3,rfl,hkl,rfl,rfl⟩) hT (by omega))
    clear kn2
    have hA1:L.length+1≤maxA:=by unfold maxA;omega
    have hA2:L.length+1+1≤maxA:=by unfold maxA;omega
    have hap1:=fl_appP L (x:Int) (k:Int)
    have hap2:=fl_appP L (k:Int) (y:Int)
    have hfm1:=fl_len (f:=prc) (sz:=2) pr2 (L++[((x:Int),(k:Int))])
    have hap3:=fl_appP (L++[((x:Int),(k:Int))]) (k:Int) (y:Int)
    have hL1l:(L++[((x:Int),(k:Int))]).length=L.length+1:=by simp
    rw [hL1l] at hfm1 hap3
    obtain ⟨L1,hL1⟩:∃ L1,L++[((x:Int),(k:Int))]=L1:=⟨_,rfl⟩
    rw [hL1] at hap1 hfm1 hap3 hL1l
    by_cases k2:(termAt a (y:Int)).1.kind=2
    ·cases v2:val M y k with
     | true =>
      rw [v2] at hvy
      have e1:(if (termAt a (y:Int)).1.kind=2∧val M y k=true then [((x:Int),(k:Int))] else [])=[((x:Int),(k:Int))]:=if_pos ⟨k2,v2⟩
      by_cases k3:(termAt a (x:Int)).1.kind=2
      ·cases v3:val M k x with
       | true =>
        rw [v3] at hvk
        have e2:(if (termAt a (x:Int)).1.kind=2∧val M k x=true then [((k:Int),(y:Int))] else [])=[((k:Int),(y:Int))]:=if_pos ⟨k3,v3⟩
        simp (maxSteps:=3000000) [go_sem,-List.length_flatten,-List.map_drop,-List.map_take,hkl,↓h00,hN,hyl,hxl,hkx,hky,↓hd1,aIarr,aint,↓h11,hlo,↓hLy,↓hry,hrly,↓hLk,↓hrk,hrlk,k2,↓hvy,k3,↓hvk,hA1,hfm,↓hap1,↓hd2,↓hds2,hA2,hfm1,↓hap3,↓hd2,↓hds2]
        intros
        exact next (g2+1+1) (L1++[((k:Int),(y:Int))]) _ (by rw [hmk1,e1,e2];simp [←hL1]) (by simp [Tm.get,hknx,hL1l])
       | false =>
        rw [v3] at hvk
        have e2:(if (termAt a (x:Int)).1.kind=2∧val M k x=true then [((k:Int),(y:Int))] else [])=[]:=if_neg (fun h=>by rw [v3] at h;cases h.2)
        simp (maxSteps:=3000000) [go_sem,-List.length_flatten,-List.map_drop,-List.map_take,hkl,↓h00,hN,hyl,hxl,hkx,hky,↓hd1,aIarr,aint,↓h11,hlo,↓hLy,↓hry,hrly,↓hLk,↓hrk,hrlk,k2,↓hvy,k3,↓hvk,hA1,hfm,↓hap1,↓hd2,↓hds2]
        intros
        exact next (g2+1) L1 _ (by rw [hmk1,e1,e2];simp [←hL1]) (by simp [Tm.get,hknx,hL1l])
      ·have e2:(if (termAt a (x:Int)).1.kind=2∧val M k x=true then [((k:Int),(y:Int))] else [])=[]:=if_neg (fun h=>k3 h.1)
       simp (maxSteps:=3000000) [go_sem,-List.length_flatten,-List.map_drop,-List.map_take,hkl,↓h00,hN,hyl,hxl,hkx,hky,↓hd1,aIarr,aint,↓h11,hlo,↓hLy,↓hry,hrly,↓hLk,↓hrk,hrlk,k2,↓hvy,k3,hA1,hfm,↓hap1,↓hd2,↓hds2]
       intros
       exact next (g2+1) L1 _ (by rw [hmk1,e1,e2];simp [←hL1]) (by simp [Tm.get,hknx,hL1l])
     | false =>
      rw [v2] at hvy
      have e1:(if (termAt a (y:Int)).1.kind=2∧val M y k=true then [((x:Int),(k:Int))] else [])=[]:=if_neg (fun h=>by rw [v2] at h;cases h.2)
      by_cases k3:(termAt a (x:Int)).1.kind=2
      ·cases v3:val M k x with
       | true =>
        rw [v3] at hvk
        have e2:(if (termAt a (x:Int)).1.kind=2∧val M k x=true then [((k:Int),(y:Int))] else [])=[((k:Int),(y:Int))]:=if_pos ⟨k3,v3⟩
        simp (maxSteps:=3000000) [go_sem,-List.length_flatten,-List.map_drop,-List.map_take,hkl,↓h00,hN,hyl,hxl,hkx,hky,↓hd1,aIarr,aint,↓h11,hlo,↓hLy,↓hry,hrly,↓hLk,↓hrk,hrlk,k2,↓hvy,k3,↓hvk,hA1,hfm,↓hap2,↓hd2,↓hds2]
        intros
        exact next (g2+1) (L++[((k:Int),(y:Int))]) _ (by rw [hmk1,e1,e2];simp [←hL1]) (by simp [Tm.get,hknx,hL1l])
       | false =>
        rw [v3] at hvk
        have e2:(if (termAt a (x:Int)).1.kind=2∧val M k x=true then [((k:Int),(y:Int))] else [])=[]:=if_neg (fun h=>by rw [v3] at h;cases h.2)
        simp (maxSteps:=3000000) [go_sem,-List.length_flatten,-List.map_drop,-List.map_take,hkl,↓h00,hN,hyl,hxl,hkx,hky,↓hd1,aIarr,aint,↓h11,hlo,↓hLy,↓hry,hrly,↓hLk,↓hrk,hrlk,k2,↓hvy,k3,↓hvk]
        intros
        exact next g2 L _ (by rw [hmk1,e1,e2];simp [←hL1]) (by simp [Tm.get,hknx,hL1l])
      ·have e2:(if (termAt a (x:Int)).1.kind=2∧val M k x=true then [((k:Int),(y:Int))] else [])=[]:=if_neg (fun h=>k3 h.1)
       simp (maxSteps:=3000000) [go_sem,-List.length_flatten,-List.map_drop,-List.map_take,hkl,↓h00,hN,hyl,hxl,hkx,hky,↓hd1,aIarr,aint,↓h11,hlo,↓hLy,↓hry,hrly,↓hLk,↓hrk,hrlk,k2,↓hvy,k3]
       intros
       exact next g2 L _ (by rw [hmk1,e1,e2];simp [←hL1]) (by simp [Tm.get,hknx,hL1l])
    ·have e1:(if (termAt a (y:Int)).1.kind=2∧val M y k=true then [((x:Int),(k:Int))] else [])=[]:=if_neg (fun h=>k2 h.1)
     by_cases k3:(termAt a (x:Int)).1.kind=2
     ·cases v3:val M k x with
      | true =>
       rw [v3] at hvk
       have e2:(if (termAt a (x:Int)).1.kind=2∧val M k x=true then [((k:Int),(y:Int))] else [])=[((k:Int),(y:Int))]:=if_pos ⟨k3,v3⟩
       simp (maxSteps:=3000000) [go_sem,-List.length_flatten,-List.map_drop,-List.map_take,hkl,↓h00,hN,hyl,hxl,hkx,hky,↓hd1,aIarr,aint,↓h11,hlo,↓hLy,↓hry,hrly,↓hLk,↓hrk,hrlk,k2,k3,↓hvk,hA1,hfm,↓hap2,↓hd2,↓hds2]
       intros
       exact next (g2+1) (L++[((k:Int),(y:Int))]) _ (by rw [hmk1,e1,e2];simp [←hL1]) (by simp [Tm.get,hknx,hL1l])
      | false =>
       rw [v3] at hvk
       have e2:(if (termAt a (x:Int)).1.kind=2∧val M k x=true then [((k:Int),(y:Int))] else [])=[]:=if_neg (fun h=>by rw [v3] at h;cases h.2)
       simp (maxSteps:=3000000) [go_sem,-List.length_flatten,-List.map_drop,-List.map_take,hkl,↓h00,hN,hyl,hxl,hkx,hky,↓hd1,aIarr,aint,↓h11,hlo,↓hLy,↓hry,hrly,↓hLk,↓hrk,hrlk,k2,k3,↓hvk]
       intros
       exact next g2 L _ (by rw [hmk1,e1,e2];simp [←hL1]) (by simp [Tm.get,hknx,hL1l])
     ·have e2:(if (termAt a (x:Int)).1.kind=2∧val M k x=true then [((k:Int),(y:Int))] else [])=[]:=if_neg (fun h=>k3 h.1)
      simp (maxSteps:=3000000) [go_sem,-List.length_flatten,-List.map_drop,-List.map_take,hkl,↓h00,hN,hyl,hxl,hkx,hky,↓hd1,aIarr,aint,↓h11,hlo,↓hLy,↓hry,hrly,↓hLk,↓hrk,hrlk,k2,k3]
      intros
      exact next g2 L _ (by rw [hmk1,e1,e2];simp [←hL1]) (by simp [Tm.get,hknx,hL1l])
   ·have ek:N=k:=by omega
    subst ek
    clear hkl
    simp (maxSteps:=3000000) [go_sem,-List.length_flatten,-List.map_drop,-List.map_take,kx2]
    clear kx2 kr2 kn2 hkN
    clear KX
    generalize hL:mvK l a M ((x:Int),(y:Int)) N=L at *
    have hLA:L.length≤maxA:=by unfold maxA;omega
    refine run_loopK (fun r T H=>∃ (j g1:Nat) (M1:Mx) (all1:List (Int×Int)),r=L.length - j∧j≤L.length∧(Bas hF fs M1 all1∧(∃ e,all1=all++e)∧∀ t:Nat,t<j→gi L t∈all1) ∧
      T=[(17,i64 j),(15,.loc (N+2+2) g2 0 L.length 2 false),(13,i64 i),(10,.loc (N+2) g1 0 all1.length 2 false),(8,.loc 1 0 0 N 1 false),(7,i64 N),(4,.ptr 0 0 0),(0,sigs l)] ∧
      H=FM (.cells 0 a.cs) N N M1 [.cells g1 (fl prc all1),.cells 0 [i64 x,i64 y],.cells g2 (fl prc L)])
     L.length [(17,i64 (0:Nat)),(15,.loc (N+2+2) g2 0 L.length 2 false),(13,i64 i),(10,.loc (N+2) g 0 all.length 2 false),(8,.loc 1 0 0 N 1 false),(7,i64 N),(4,.ptr 0 0 0),(0,sigs l)]
     (FM (.cells 0 a.cs) N N M [.cells g (fl prc all),.cells 0 [i64 x,i64 y],.cells g2 (fl prc L)])
     (Wk.sub (by simp [Tm.get])) ⟨0,g,M,all,rfl,Nat.zero_le _,⟨hB,⟨[],by simp⟩,fun t h=>by omega⟩,rfl,rfl⟩ ?_
    rintro r T H ⟨j,g1,M1,all1,rfl,hjL,⟨hB1,he1,hj1⟩,rfl,rfl⟩ KJ jx jr jn
    have hS1:=hsh hB1
    have hal1:=hlen hB1
    have hl2:=fun c b e=>FM_c (b0:=.cells 0 a.cs) (C:=[c,b,e]) hS1 2
    by_cases hjl:j<L.length
    ·have hjnx:=nxt hjl hLA
     have hqm:=gi_mem hjl
     have hqput:=hps _ hqm
     obtain ⟨⟨b1,b2⟩,b3,b4⟩:=hqput.inp
     rw [hN] at b2 b4
     obtain ⟨hB2,he2,hq2⟩:=hB1.add hqput
     have hldq:=pr_load (s:=L) (q:=j) hjl
     have hfaq:2≤L.length*2 - j*2:=by omega
     obtain ⟨u,hu⟩:∃ u:Nat,(gi L j).1=u:=⟨(gi L j).1.toNat,by omega⟩
     obtain ⟨v,hv⟩:∃ v:Nat,(gi L j).2=v:=⟨(gi L j).2.toNat,by omega⟩
     have hul:u<N:=by omega
     have hvl:v<N:=by omega
     have hqe:gi L j=((u:Int),(v:Int)):=Prod.ext hu hv
     have hLu:=outC2_load (B:=2) (w:=N) hul
     have hvv:=rowM_load hS1 hul hvl
     have hrl:=FM_l hS1 hul
     have hln3:=FM_len (b0:=.cells 0 a.cs) (C:=[.cells g1 (fl prc all1),.cells 0 [i64 x,i64 y],.cells g2 (fl prc L)]) hS1
     have hap4:=fun C=>FM_app (b0:=.cells 0 a.cs) (n:=N) (m:=N) (M:=M1) (C:=C)
     have h11:=fun C=>FM_1 (b0:=.cells 0 a.cs) (n:=N) (m:=N) (M:=M1) (C:=C)
     have hr:=fun C=>FM_r (b0:=.cells 0 a.cs) (C:=C) hS1 hul
     have hc3:=fun c b e d=>FM_c (b0:=.cells 0 a.cs) (C:=[c,b,e,d]) hS1 3
     have hs3:=fun c b e d d'=>FM_sc (b0:=.cells 0 a.cs) (C:=[c,b,e,d]) hS1 3 d'
     have hs:=fun C b=>FM_s (b0:=.cells 0 a.cs) (C:=C) hS1 hul v b
     have next:∀ (M':Mx) (all':List (Int×Int)) (g':Nat) (T':Tm),Bas hF fs M' all'→(∃ e,all'=all1++e)→gi L j∈all' →
       al (fun q=>T'.get q.1=q.2) [(17,i64 ((j+1:Nat):Int)),(15,.loc (N+2+2) g2 0 L.length 2 false),(13,i64 i),(10,.loc (N+2) g' 0 all'.length 2 false),(8,.loc 1 0 0 N 1 false),(7,i64 N),(4,.ptr 0 0 0),(0,sigs l)] →
       KJ .normal T' (FM (.cells 0 a.cs) N N M' [.cells g' (fl prc all'),.cells 0 [i64 x,i64 y],.cells g2 (fl prc L),.cells 0 [i64 u,i64 v]]):=by
      rintro M' all' g' T' q1 ⟨e,rfl⟩ q3 hT
      obtain ⟨e1,he1⟩:=he1
      refine jn _ _ (Kl_next (L.length - (j+1)) (N+2+3) (by omega) ⟨j+1,g',M',_,rfl,hjl,⟨q1,⟨e1++e,by rw [he1,List.append_assoc]⟩,fun t ht=>?_⟩,rfl,rfl⟩ hT (by simp) (FM_take (C:=[.cells g' (fl prc (all1++e)),.cells 0 [i64 x,i64 y],.cells g2 (fl prc L)]) (hsh q1) [.cells 0 [i64 u,i64 v]]) (FM_RLB hb0 _ (by omega) ⟨rlb_fl,by simp [RLB],rlb_fl,trivial⟩) (by omega))
      by_cases c:t=j
      ·subst c;exact q3
      ·exact List.mem_append_left _ (hj1 t (by omega))
     clear jn
     clear he2
     unfold addM addA at hB2
     unfold addA at hq2
     rw [hqe] at hB2 hq2 hldq
     simp only [Int.toNat_natCast] at hB2 hq2 hldq
     have hfmL:=fl_len (f:=prc) (sz:=2) pr2 L
     cases hvb:val M1 u v with
     | true =>
      rw [hvb] at hvv
      rw [if_pos hvb,if_pos hvb] at hB2
      rw [if_pos hvb] at hq2
      simp (maxSteps:=3000000) [go_sem,-List.length_flatten,-List.map_drop,-List.map_take,hjl,hLA,↓hl2,↓hldq,hfmL,hfaq,hul,hvl,aIarr,aint,hln3,↓hap4,↓hc3,↓hs3,↓h11,hlo,↓hLu,↓hr,hrl,↓hvv]
      exact next M1 all1 g1 _ hB2 ⟨[],by simp⟩ (by rw [hqe];exact hq2) (by simp [Tm.get,hjnx])
     | false =>
      rw [hvb] at hvv
      have hvn:¬ val M1 u v=true:=by rw [hvb];simp
      rw [if_neg hvn,if_neg hvn] at hB2
      rw [if_neg hvn] at hq2
      have eput:M1.set u ((rowM M1 u).set v true)=putF M1 u v:=rfl
      have hS2:=hsh hB2
      have hc5:=fun c b e d=>FM_c (b0:=.cells 0 a.cs) (C:=[c,b,e,d]) hS2 3
      have hc0:=fun c b e d=>FM_c (b0:=.cells 0 a.cs) (C:=[c,b,e,d]) hS2 0
      have hs0:=fun c b e d d'=>FM_sc (b0:=.cells 0 a.cs) (C:=[c,b,e,d]) hS2 0 d'
      simp only [Nat.add_zero] at hc0 hs0
      have hA:all1.length+1≤maxA:=by unfold maxA;omega
      have hfl1:=fl_len (f:=prc) (sz:=2) pr2 all1
      have hapP:=fl_appP all1 u v
      simp (maxSteps:=3000000) [go_sem,-List.length_flatten,-List.map_drop,-List.map_take,hjl,hLA,↓hl2,↓hldq,hfmL,hfaq,hul,hvl,aIarr,aint,hln3,↓hap4,↓hc3,↓hs3,↓h11,hlo,↓hLu,↓hr,hrl,↓hvv,↓hs,eput,↓hc5,↓hc0,↓hs0,hA,hfl1,↓hapP]
      refine ⟨by omega,fun _ _=>?_⟩
      exact next (putF M1 u v) (all1++[((u:Int),(v:Int))]) (g1+1) _ hB2 ⟨_,rfl⟩ (by rw [hqe];exact hq2) (by simp [Tm.get,hjnx])
    ·have ej:L.length=j:=by omega
     simp (maxSteps:=3000000) [go_sem,-List.length_flatten,-List.map_drop,-List.map_take,hjl,hLA,↓hl2,jx]
     refine kn _ _ (Kl_next (160000 - (i+1)) (N+2+1) (by omega) ⟨i+1,g1,M1,all1,rfl,hnext M1 all1 hB1 he1 (fun q hq=>?_),rfl,rfl⟩ (by simp [Tm.get,hnx]) (by simp) (FM_take (C:=[.cells g1 (fl prc all1)]) hS1 [.cells 0 [i64 x,i64 y],.cells g2 (fl prc L)]) (FM_RLB hb0 _ (by omega) ⟨rlb_fl,trivial⟩) (by omega))
     obtain ⟨t,t1,t2⟩:=at_mem hq
     rw [←t2]
     exact hj1 t (by omega)
 ·have ei:i=all.length:=by have:=hK.le;omega
  subst ei
  simp (maxSteps:=3000000) [go_sem,-List.length_flatten,-List.map_drop,-List.map_take,hil,haA,↓hq1,kx]
  rw [←hQ,←hK.end]
  unfold Rle
  rw [frzM (k:=5) hS]
  exact leP_refl _ _
end
end Go.AM
