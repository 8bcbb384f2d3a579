/- Contracts of the program's functions. -/
import Derived.Test.YtpdjffpdanmoeaaGreatL3
import Derived.KernelRfl
namespace Go.AM
open Go.Proofs
set_option maxRecDepth 100000
set_option linter.unusedVariables false
set_option linter.unusedSimpArgs false
attribute [local go_sem] Function.comp_def argsT Opd.ev Tm.get put ares mapMo ares1 snilP bldParts bslParts putAt AV.cells AV.one astore aload loadCs callArgs abin abinInt aapp elems appMore appNone preLen aFa aFld apart aExt aPick aNot aLens aEqa cellsK fitsA LK.fitsA leavesA leafA nilD aNilc aCint aCid alive alen alenOk Rle lePs len_flat lit
@[simp] theorem prsG {l:List (Int×Int)} {n:Nat}:(∀ (x:List AV) (x_1 x_2:Int),(x_1,x_2)∈l→[i64 x_1,i64 x_2]=x→∀ (y:AV),y∈x→RL n y)↔True:=by
 refine iff_true_intro ?_
 rintro _ a b _ rfl y hy
 simp only [List.mem_cons,List.not_mem_nil,or_false] at hy
 rcases hy with rfl|rfl<;>simp
theorem c25_ok:cFn Tryz.prog an0 Tryz.f25=some c25:=by kernel_rfl
theorem c35_ok:cFn Tryz.prog an0 Tryz.f35=some c35:=by kernel_rfl
theorem c24_ok:cFn Tryz.prog an0 Tryz.f24=some c24:=by kernel_rfl
theorem c34_ok:cFn Tryz.prog an0 Tryz.f34=some c34:=by kernel_rfl
theorem c27_ok:cFn Tryz.prog an0 Tryz.f27=some c27:=by kernel_rfl
theorem c135_ok:cFn Tryz.prog an0 Tryz.f135=some c135:=by kernel_rfl
theorem c148_ok:cFn Tryz.prog an0 Tryz.f148=some c148:=by kernel_rfl
theorem c110_ok:cFn Tryz.prog an0 Tryz.f110=some c110:=by kernel_rfl
theorem less25_PF (rk:List Int) (a b:Int):PF Tryz.prog 25 [ints rk,i64 a,i64 b] (.bool (lessR rk a b)):=by
 refine PFk 9 hm Tryz.func25 c25_ok (Nat.le_of_ble_eq_true rfl) (by simp) (by simp) ?_
 generalize hQ:Rle 9 (.bool (lessR rk a b))=Q
 have fin:∀ t:Bool,t=lessR rk a b→Q (.bool t) []:=by
  rintro _ rfl
  rw [←hQ]
  simp [Rle,frz,leP]
 simp (maxSteps:=3000000) [go_sem,-List.length_flatten,-List.map_drop,-List.map_take,c25]
 repeat' (first|omega|apply And.intro|intro _)
 all_goals
  refine fin _ ?_
  unfold lessR rankR
  refine decide_eq_decide.2 ?_
  split<;>split<;>omega
theorem find35_PF {rk:List Int} (u:Ce) (h:Pv rk u.v) {n:Int} (hn:0≤n∧n<u.v.length):PF Tryz.prog 35 [.agg u.cs,i64 n] (i64 (fnd u.v n)):=by
 refine PFk 9 hm Tryz.func35 c35_ok (Nat.le_of_ble_eq_true rfl) (by simp) (by simp) ?_
 simp (maxSteps:=3000000) [go_sem,-List.length_flatten,-List.map_drop,-List.map_take,c35]
 refine run_loopK (fun m T H=>∃ k:Nat,m=u.v.length - k∧k≤u.v.length∧T=[(5,i64 k),(1,i64 (fndN u.v k n)),(2,.ptr 0 0 0)]∧H=[.cells 0 u.cs]) u.v.length [(5,i64 0),(1,i64 n),(2,.ptr 0 0 0)] [.cells 0 u.cs] (Wk.tell 1 (by omega) (by simp [Tm.get]) (by simp) rfl (by simp [RLB])) ⟨0,rfl,Nat.zero_le _,rfl,rfl⟩ ?_
 rintro m T H ⟨k,rfl,hk,rfl,rfl⟩ KK kx kr kn
 have hin:=fndN_in (fun i hi=>(h i hi).1) hn k
 by_cases hl:k<u.v.length
 ·simp (maxSteps:=3000000) [go_sem,-List.length_flatten,-List.map_drop,-List.map_take,hl,hin]
  intros
  exact kn _ _ (Kl_next (u.v.length - (k+1)) 1 (by omega) ⟨k+1,rfl,hl,rfl,rfl⟩ (by simp [Tm.get,fndN,nxt hl ‹_›]) (by simp) rfl (by simp [RLB]) (by omega))
 ·have:k=u.v.length:=by omega
  subst this
  simp (maxSteps:=3000000) [go_sem,-List.length_flatten,-List.map_drop,-List.map_take,kx]
  exact fun _=>rfl
theorem at24_PF (a:Kd) (n:Int):PF Tryz.prog 24 [.agg a.cs,i64 n] (i64 (atV a n)):=by
 refine PFk 9 hm Tryz.func24 c24_ok (Nat.le_of_ble_eq_true rfl) (by simp) (by simp) ?_
 simp (maxSteps:=3000000) [go_sem,-List.length_flatten,-List.map_drop,-List.map_take,c24]
 refine PF.call (at_PF a.keys [2,n,0]) 9 (by simp [lePs,-List.length_flatten,-List.map_drop,-List.map_take,Function.comp_def,len_flat]) ?_
 simp (maxSteps:=3000000) [go_sem,-List.length_flatten,-List.map_drop,-List.map_take,Kc]
 rfl
theorem num34_PF (a:Kd) (g:Gr) (id:Int):PF Tryz.prog 34 [.agg a.cs,.agg g.cs,i64 id] (i64 (numOf a g id)):=by
 refine PFk 9 hm Tryz.func34 c34_ok (Nat.le_of_ble_eq_true rfl) (by simp) (by simp) ?_
 generalize hQ:Rle 9 (i64 (numOf a g id))=Q
 have fin:∀ t:Int,t=numOf a g id→Q (i64 t) [.cells 0 a.cs,.cells 0 g.cs,.cells 0 (termAt a id).1.cs]:=by
  rintro _ rfl
  rw [←hQ]
  simp [Rle,frz,leP]
 simp (maxSteps:=3000000) [go_sem,-List.length_flatten,-List.map_drop,-List.map_take,c34]
 refine PF.call (rof_PF a id) 9 (by simp [lePs,-List.length_flatten,-List.map_drop,-List.map_take,Function.comp_def,len_flat]) ?_
 simp (maxSteps:=3000000) [go_sem,-List.length_flatten,-List.map_drop,-List.map_take,Kc]
 refine ⟨fun h=>fin _ ?_,fun h=>⟨fun h2=>fin _ ?_,fun h2 _=>⟨fun h3=>fin _ ?_,fun h3=>fin _ ?_⟩⟩⟩
 ·simp [numOf,h]
 ·simp [numOf,h2]
 ·unfold numOf;rw [if_neg (by omega)]
 ·simp [numOf,h,h2,h3]
theorem rep27_PF {nv:Nat} {l:List Sg} {a:Kd} {g:Gr} (hv:Vok a nv) (hg:Gok l a nv g) (id:Int):PF Tryz.prog 27 [.agg a.cs,.agg g.cs,i64 id] (i64 (repG a g id)):=by
 refine PFk 9 hm Tryz.func27 c27_ok (Nat.le_of_ble_eq_true rfl) (by simp) (by simp) ?_
 simp (maxSteps:=3000000) [go_sem,-List.length_flatten,-List.map_drop,-List.map_take,c27]
 refine PF.call (num34_PF a g id) 9 (by simp [lePs,-List.length_flatten,-List.map_drop,-List.map_take,Function.comp_def,len_flat]) ?_
 by_cases h:numOf a g id<0
 ·simp (maxSteps:=3000000) [go_sem,-List.length_flatten,-List.map_drop,-List.map_take,Kc,h]
  simp [repG,h]
 ·simp (maxSteps:=3000000) [go_sem,-List.length_flatten,-List.map_drop,-List.map_take,Kc,h]
  refine ⟨_,find35_PF (n:=numOf a g id) g.u hg.par (by rw [hg.lv];exact (at_num hv hg.lv (by omega)).1),_,at24_PF a _,?_⟩
  simp (maxSteps:=3000000) [go_sem,-List.length_flatten,-List.map_drop,-List.map_take,Kc]
  simp [repG,h]
theorem may135_PF (a:Kd) (g:Gr) (id v:Int) (b:Bool):PF Tryz.prog 135 [.agg a.cs,.agg g.cs,i64 id,i64 v,.bool b] (.bool (mayG a g id v b)):=by
 refine PFk 9 hm Tryz.func135 c135_ok (Nat.le_of_ble_eq_true rfl) (by simp) (by simp) ?_
 simp (maxSteps:=3000000) [go_sem,-List.length_flatten,-List.map_drop,-List.map_take,c135]
 refine PF.call (num34_PF a g id) 9 (by simp [lePs,-List.length_flatten,-List.map_drop,-List.map_take,Function.comp_def,len_flat]) ?_
 by_cases h:0≤numOf a g id
 ·simp (maxSteps:=3000000) [go_sem,-List.length_flatten,-List.map_drop,-List.map_take,Kc,h]
  refine PF.call (less25_PF g.ranks (numOf a g id) v) 9 (by simp [lePs,-List.length_flatten,-List.map_drop,-List.map_take,Function.comp_def,len_flat]) ?_
  simp (maxSteps:=3000000) [go_sem,-List.length_flatten,-List.map_drop,-List.map_take,Kc]
  simp [mayG,h]
 ·simp (maxSteps:=3000000) [go_sem,-List.length_flatten,-List.map_drop,-List.map_take,Kc,h]
  refine PF.call (rof_PF a id) 9 (by simp [lePs,-List.length_flatten,-List.map_drop,-List.map_take,Function.comp_def,len_flat]) ?_
  cases ht:(termAt a id).2 with
  | false =>
   simp (maxSteps:=3000000) [go_sem,-List.length_flatten,-List.map_drop,-List.map_take,Kc,ht]
   simp [mayG,h,ht]
  | true =>
   simp (maxSteps:=3000000) [go_sem,-List.length_flatten,-List.map_drop,-List.map_take,Kc,ht]
   cases b with
   | true =>
    by_cases k1:(termAt a id).1.kind=1<;>simp [mayG,h,ht,k1]
   | false =>
    by_cases k1:(termAt a id).1.kind=0<;>by_cases k2:(termAt a id).1.kind=3<;>simp [mayG,h,ht,k1,k2]
theorem first148_PF {nv:Nat} {l:List Sg} {a:Kd} {g:Gr} (hv:Vok a nv) (hg:Gok l a nv g) (id:Int):PF Tryz.prog 148 [.agg a.cs,.agg g.cs,i64 id] (i64 (frG a g id)):=by
 refine PFk 9 hm Tryz.func148 c148_ok (Nat.le_of_ble_eq_true rfl) (by simp) (by simp) ?_
 simp (maxSteps:=3000000) [go_sem,-List.length_flatten,-List.map_drop,-List.map_take,c148]
 refine PF.call (num34_PF a g id) 9 (by simp [lePs,-List.length_flatten,-List.map_drop,-List.map_take,Function.comp_def,len_flat]) ?_
 by_cases h:numOf a g id<0
 ·simp (maxSteps:=3000000) [go_sem,-List.length_flatten,-List.map_drop,-List.map_take,Kc,h]
  simp [frG,h]
 ·simp (maxSteps:=3000000) [go_sem,-List.length_flatten,-List.map_drop,-List.map_take,Kc,h]
  refine PF.call (find35_PF (n:=numOf a g id) g.u hg.par (by rw [hg.lv];exact (at_num hv hg.lv (by omega)).1)) 9 (by simp [lePs,-List.length_flatten,-List.map_drop,-List.map_take,Function.comp_def,len_flat]) ?_
  simp (maxSteps:=3000000) [go_sem,-List.length_flatten,-List.map_drop,-List.map_take,Kc]
  simp [frG,h]
theorem lessP110_PF (p q:Int×Int):PF Tryz.prog 110 [.agg [i64 p.1,i64 p.2],.agg [i64 q.1,i64 q.2]] (.bool (lessP p q)):=by
 refine PFk 9 hm Tryz.func110 c110_ok (Nat.le_of_ble_eq_true rfl) (by simp) (by simp) ?_
 simp (maxSteps:=3000000) [go_sem,-List.length_flatten,-List.map_drop,-List.map_take,c110,aIarr,aindex]
 unfold lessP
 refine ⟨fun h=>?_,fun h=>⟨fun h1=>?_,fun h1=>?_⟩⟩
 ·exact decide_eq_true (.inl h)
 ·exact decide_eq_decide.2 (by omega)
 ·exact decide_eq_false (by omega)
def c109b:AFn:=lit fun m o w i y z p n s t k q r d c f b e a=>⟨31,q (r [i 2 (.box (t 0)),i 4 (.alloc [.nilS,.nilS]),i 5 (.mov (k 0)),i 6 (.mov (.lit (.bool false)))]) (q (r [a 9 0 2,o 10 9,m 11 1,i 12 (f 45 [t 10,t 11]),m 7 12]) (q (q (r [m 13 7,i 14 (.bin .geq (t 13) (k 0))]) (c 14 (q (r [w 15 2 2,m 16 7,s (.store 2 (t 4) (t 15)),m 5 16,i 6 (.mov (.lit (.bool false)))]) .ret) .skip)) (q (r [i 17 (.bslice 1 0 [.nilS] []),a 18 0 2,o 19 18,i 20 (.app 1 24 (t 17) (t 19)),m 21 1,i 22 (.bslice 1 1 [.nilS] [(0,t 21)]),i 23 (.app 1 24 (t 20) (t 22)),m 8 23]) (q (q .mark (.regD [m 24 8,m 25 8,i 26 (f 71 [t 25]),i 27 (.build [.nilS,.nilS] [(0,1,t 24),(1,1,t 26)]),a 28 0 2,o 29 28,i 30 (.len (t 29)),s (.store 2 (t 4) (t 27)),m 5 30,i 6 (.mov (.lit (.bool true)))] [(a 28 0 2,s (.store 2 (t 4) (t 27))),(o 29 28,s (.store 2 (t 4) (t 27))),(i 30 (.len (t 29)),s (.store 2 (t 4) (t 27)))])) .ret)))),[.cell 4 2 true,.tmp 5,.tmp 6]⟩
theorem rlb_kd {n g:Nat} {a:Kd}:RLB n (.cells g a.cs):=by simp [RLB]
def an109:An:=⟨[],[5]⟩
theorem c108_ok:cFn Tryz.prog an0 Tryz.f108=some c108:=by kernel_rfl
theorem c107_ok:cFn Tryz.prog an0 Tryz.f107=some c107:=by kernel_rfl
theorem c76_ok:cFn Tryz.prog an0 Tryz.f76=some c76:=by kernel_rfl
theorem c141_ok:cFn Tryz.prog an0 Tryz.f141=some c141:=by kernel_rfl
theorem c151_ok:cFn Tryz.prog an0 Tryz.f151=some c151:=by kernel_rfl
theorem c115_ok:cFn Tryz.prog an0 Tryz.f115=some c115:=by kernel_rfl
theorem c149_ok:cFn Tryz.prog an0 Tryz.f149=some c149:=by kernel_rfl
theorem c109_ok:cFn Tryz.prog an109 Tryz.f109=some c109b:=by kernel_rfl
theorem flat_i64s:∀ l:List Int,(List.map (fun n=>[AV.int IntKind.i64 n]) l).flatten=i64s l
 | []=>rfl
 | x::l=>by simp [flat_i64s l]
theorem chunk_flI (l:List Int):chunk 1 (i64s l) l.length=l.map fun n=>[i64 n]:=by
 have:=chunk_one (f:=fun n:Int=>AV.int IntKind.i64 n) (l:=l)
 simpa using this
theorem chunk_flP (l:List (Int×Int)):chunk 2 (fl prc l) l.length=l.map fun p=>[i64 p.1,i64 p.2]:=chunk_fl (f:=prc) (sz:=2) (by simp) l
theorem frzI (X:List Int) {H:AHeap} {i g n k:Nat} (h:H[i]?=some (.cells g (i64s X))) (hn:n=X.length):frz true H (k+2) (.loc i g 0 n 1 false)=ints X:=by
 subst hn
 simp [frz,h,chunk_flI]
theorem frzP (X:List (Int×Int)) {H:AHeap} {i g n k:Nat} (h:H[i]?=some (.cells g (fl prc X))) (hn:n=X.length):frz true H (k+2) (.loc i g 0 n 2 false)=prs X:=by
 subst hn
 have h1:=fl_len (f:=prc) (sz:=2) (by simp) X
 simp [frz,h,chunk_flP,h1]
theorem i64s_appT (l:List Int) (x:Int):List.take l.length (l.map fun n=>[i64 n]).flatten++[i64 x]=i64s (l++[x]):=by
 have:=take_flat (f:=fun n:Int=>[i64 n]) (sz:=1) (by simp) l
 simp only [Nat.mul_one] at this
 rw [this,flat_i64s]
 simp
theorem prs_appT (l:List (Int×Int)) (x y:Int):List.take (l.length*2) (l.map fun p=>[i64 p.1,i64 p.2]).flatten++[i64 x,i64 y]=fl prc (l++[(x,y)]):=by
 rw [take_flat (f:=fun p:Int×Int=>[i64 p.1,i64 p.2]) (sz:=2) (by simp) l]
 simp [fl]
theorem rkey_PF (t:Tm0) (h:t.args.length≤1048576):PF Tryz.prog 108 [.agg t.cs] (ints (keyT t)):=by
 refine PFk 9 hm Tryz.func108 c108_ok (Nat.le_of_ble_eq_true rfl) (by simp) (by simp) ?_
 have hm2:t.args.length+3≤maxA:=by unfold maxA;omega
 simp (maxSteps:=3000000) [go_sem,-List.length_flatten,-List.map_drop,-List.map_take,c108,hm2]
 intro _ _
 split
 ·rename_i e
  simp [keyT,e]
 ·refine ⟨by unfold maxA at *;omega,?_⟩
  have hk:(i64 t.kind::i64 t.sym::i64 t.part::(List.map (fun n=>[AV.int IntKind.i64 n]) t.args).flatten)=i64s (keyT t):=by rw [flat_i64s];simp [keyT]
  have hl:3+t.args.length=(keyT t).length:=by simp [keyT];omega
  rw [if_pos (by omega),hk,hl,chunk_one]
  simp [Function.comp_def]
theorem rmay107_PF (l:List Sg) (a:Kd) (t:Tm0) (hl:t.args.length≤maxA):PF Tryz.prog 107 [sigs l,.agg a.cs,.agg t.cs] (.bool (mayBe l a.keys.length t)):=by
 refine PFk 9 hm Tryz.func107 c107_ok (Nat.le_of_ble_eq_true rfl) (by simp) (by simp) ?_
 simp (maxSteps:=3000000) [go_sem,-List.length_flatten,-List.map_drop,-List.map_take,c107]
 intro _
 refine PF.call (may_PF l a.keys.length t hl) 9 (by simp [lePs,-List.length_flatten,-List.map_drop,-List.map_take,Function.comp_def,len_flat]) ?_
 simp (maxSteps:=3000000) [go_sem,-List.length_flatten,-List.map_drop,-List.map_take,Kc]
theorem rput_PF (a:Kd) (hk:a.keys.length<1048576) (key:List Int):PF Tryz.prog 109 [.agg a.cs,ints key] (.tuple [.agg (putK a key).1.cs,i64 (putK a key).2.1,.bool (putK a key).2.2]):=by
 refine PFk 9 hm Tryz.func109 c109_ok (Nat.le_of_ble_eq_true rfl) (by simp) (by simp) ?_
 generalize hQ:Rle 9 (.tuple [.agg (putK a key).1.cs,i64 (putK a key).2.1,.bool (putK a key).2.2])=Q
 simp (maxSteps:=3000000) [go_sem,-List.length_flatten,-List.map_drop,-List.map_take,c109b]
 refine PF.call (at_PF a.keys key) 9 (by simp [lePs,-List.length_flatten,-List.map_drop,-List.map_take,Function.comp_def,len_flat]) ?_
 by_cases hf:0≤fstAt (fun x=>decide (x=key)) a.keys
 ·simp (maxSteps:=3000000) [go_sem,-List.length_flatten,-List.map_drop,-List.map_take,Kc,hf]
  rw [←hQ]
  simp only [putK,if_pos hf]
  simp (maxSteps:=3000000) [go_sem,-List.length_flatten,-List.map_drop,-List.map_take]
 ·have hA:a.keys.length+1≤maxA:=by unfold maxA;omega
  have hA0:a.keys.length≤maxA:=by unfold maxA;omega
  have hsum:(List.map (List.length∘fun k:List Int=>[ints k]) a.keys).sum=a.keys.length:=by
   generalize a.keys=l
   induction l with
   | nil=>rfl
   | cons x l ih=>simp only [List.map_cons,List.sum_cons,ih,Function.comp_apply,List.length_cons,List.length_nil];omega
  have htk:(List.map (fun k=>[ints k]) a.keys).flatten.take a.keys.length=(List.map (fun k=>[ints k]) a.keys).flatten:=by
   have:=take_flat (f:=fun k:List Int=>[ints k]) (sz:=1) (by simp) a.keys
   simpa using this
  have hch:chunk 1 ((List.map (fun k=>[ints k]) a.keys).flatten++[ints key]) (a.keys.length+1)=(a.keys++[key]).map fun k=>[ints k]:=by
   have e:(List.map (fun k=>[ints k]) a.keys).flatten++[ints key]=((a.keys++[key]).map fun k=>[ints k]).flatten:=by simp
   rw [e]
   have:=chunk_flat (sz:=1) (f:=fun k:List Int=>[ints k]) (l:=a.keys++[key]) (by simp)
   simpa using this
  have hlk:=lay_PF (a.keys++[key]) (by simp;omega)
  have hu:putK a key=((⟨a.keys++[key],lay (a.keys++[key])⟩:Kd),(a.keys.length:Int),true):=by unfold putK;rw [if_neg hf]
  rw [hu] at hQ
  simp only at hQ
  generalize hks:a.keys++[key]=ks2 at *
  refine by_run Tryz.prog 0 ?c ?K (fun T H=>T=[(8,intss ks2),(5,i64 0),(6,.bool false),(4,.ptr 1 0 0),(2,.ptr 0 0 0),(0,.agg a.cs),(1,ints key)]∧H=[.cells 0 a.cs,.cells 0 [.nilS,.nilS]]) (fun key'=>?main) ?sub
  case main =>
   simp (maxSteps:=3000000) [go_sem,-List.length_flatten,-List.map_drop,-List.map_take,Kc,hf,hA]
   intro _
   split
   ·rename_i e
    have hk2:ks2=[key]:=by rw [←hks,e];rfl
    intros
    refine ⟨by unfold maxA;omega,?_⟩
    refine run_markT [(8,intss ks2),(5,i64 0),(6,.bool false),(4,.ptr 1 0 0),(2,.ptr 0 0 0),(0,.agg a.cs),(1,ints key)] [.cells 0 a.cs,.cells 0 [.nilS,.nilS]] ((Wk.fz 2 9 rfl).trans (Wk.tell 2 (by omega) (by simp [Tm.get,fzT,fz,hk2,chunk]) (by simp) (by simp [fzB,fz]) ⟨rlb_kd,by simp [RLB],trivial⟩)) ?_
    exact key' _ _ ⟨rfl,rfl⟩
   ·refine ⟨hA0,fun _ _=>?_⟩
    refine run_markT [(8,intss ks2),(5,i64 0),(6,.bool false),(4,.ptr 1 0 0),(2,.ptr 0 0 0),(0,.agg a.cs),(1,ints key)] [.cells 0 a.cs,.cells 0 [.nilS,.nilS]] ((Wk.fz 2 9 rfl).trans (Wk.tell 2 (by omega) (by simp [Tm.get,fzT,fz,hch,hsum,htk]) (by simp) (by simp [fzB,fz]) ⟨rlb_kd,by simp [RLB],trivial⟩)) ?_
    exact key' _ _ ⟨rfl,rfl⟩
  case sub =>
   rintro T H ⟨rfl,rfl⟩
   simp (maxSteps:=3000000) [go_sem,-List.length_flatten,-List.map_drop,-List.map_take]
   intros
   refine ⟨_,hlk,?_⟩
   simp (maxSteps:=3000000) [go_sem,-List.length_flatten,-List.map_drop,-List.map_take,Kc,indB,apartB,apartS,aliveRd,refA]
   intro _
   rw [←hQ]
   simp (maxSteps:=3000000) [go_sem,-List.length_flatten,-List.map_drop,-List.map_take]
theorem rputT_PF (l:List Sg) {a:Kd} (hk:a.keys.length<1048576) (t:Tm0) (hl:t.args.length≤1048576) (limit:Int) :
  PF Tryz.prog 76 [sigs l,.agg a.cs,.agg t.cs,i64 limit] (.tuple [.agg (putT l a t limit).1.cs,i64 (putT l a t limit).2.1,i64 (putT l a t limit).2.2]):=by
 refine PFk 9 hm Tryz.func76 c76_ok (Nat.le_of_ble_eq_true rfl) (by simp) (by simp) ?_
 generalize hQ:Rle 9 (.tuple [.agg (putT l a t limit).1.cs,i64 (putT l a t limit).2.1,i64 (putT l a t limit).2.2])=Q
 simp (maxSteps:=3000000) [go_sem,-List.length_flatten,-List.map_drop,-List.map_take,c76]
 refine PF.call (rmay107_PF l a t (by unfold maxA;omega)) 9 (by simp [lePs,-List.length_flatten,-List.map_drop,-List.map_take,Function.comp_def,len_flat]) ?_
 cases hm1:mayBe l a.keys.length t with
 | false =>
  simp (maxSteps:=3000000) [go_sem,-List.length_flatten,-List.map_drop,-List.map_take,Kc]
  rw [←hQ]
  simp only [putT,hm1,if_true]
  simp (maxSteps:=3000000) [go_sem,-List.length_flatten,-List.map_drop,-List.map_take]
 | true =>
  simp (maxSteps:=3000000) [go_sem,-List.length_flatten,-List.map_drop,-List.map_take,Kc]
  refine ⟨_,rkey_PF t hl,_,at_PF a.keys (keyT t),?_⟩
  have hp:=rput_PF a hk (keyT t)
  have hu:putT l a t limit=if (putK a (keyT t)).2.2=true∧limit≤a.keys.length then (a,0,7) else ((putK a (keyT t)).1,(putK a (keyT t)).2.1,0):=by
   simp [putT,hm1]
  rw [hu] at hQ
  have hnew:(putK a (keyT t)).2.2=decide (fstAt (fun x=>decide (x=keyT t)) a.keys<0):=by
   unfold putK
   split<;>simp<;>omega
  generalize hf:fstAt (fun x=>decide (x=keyT t)) a.keys=f at *
  generalize putK a (keyT t)=p at *
  by_cases h1:f<0
  ·by_cases h2:limit≤a.keys.length
   ·simp (maxSteps:=3000000) [go_sem,-List.length_flatten,-List.map_drop,-List.map_take,Kc,h1,h2]
    intros
    rw [←hQ]
    simp only [hnew,h1,h2,decide_true,and_self,if_true]
    simp (maxSteps:=3000000) [go_sem,-List.length_flatten,-List.map_drop,-List.map_take]
   ·simp (maxSteps:=3000000) [go_sem,-List.length_flatten,-List.map_drop,-List.map_take,Kc,h1,h2]
    intros
    refine ⟨_,rkey_PF t hl,_,hp,?_⟩
    simp (maxSteps:=3000000) [go_sem,-List.length_flatten,-List.map_drop,-List.map_take,Kc]
    rw [←hQ]
    simp only [h2,and_false,if_false]
    simp (maxSteps:=3000000) [go_sem,-List.length_flatten,-List.map_drop,-List.map_take]
  ·simp (maxSteps:=3000000) [go_sem,-List.length_flatten,-List.map_drop,-List.map_take,Kc,h1]
   intros
   refine ⟨_,rkey_PF t hl,_,hp,?_⟩
   simp (maxSteps:=3000000) [go_sem,-List.length_flatten,-List.map_drop,-List.map_take,Kc]
   rw [←hQ]
   simp only [hnew,h1,decide_false,Bool.false_eq_true,false_and,if_false]
   simp (maxSteps:=3000000) [go_sem,-List.length_flatten,-List.map_drop,-List.map_take]
theorem grow141_PF (u:Ce) (x:Int) (h1:u.v.length≤1000000) (h2:u.notes.length≤1000000):PF Tryz.prog 141 [.agg u.cs,i64 x] (.agg (growU u x).cs):=by
 refine PFk 9 hm Tryz.func141 c141_ok (Nat.le_of_ble_eq_true rfl) (by simp) (by simp) ?_
 have a1:u.v.length+1≤maxA:=by unfold maxA;omega
 have a2:u.notes.length+1≤maxA:=by unfold maxA;omega
 have a3:u.v.length≤maxA:=by unfold maxA;omega
 have a4:u.notes.length≤maxA:=by unfold maxA;omega
 have hv:=i64s_appT u.v x
 have hn:=prs_appT u.notes (-1) 0
 have h1A:1≤maxA:=by unfold maxA;omega
 generalize hQ:Rle 9 (.agg (growU u x).cs)=Q
 have fin:∀ {H:AHeap} {g1 g2 n m:Nat},H[3]?=some (.cells g1 (i64s (u.v++[x])))→H[2]?=some (.cells g2 (fl prc (u.notes++[(-1,0)])))→n=(u.v++[x]).length→m=(u.notes++[(-1,0)]).length→Q (.agg [.loc 3 g1 0 n 1 false,.loc 2 g2 0 m 2 false,ints u.marks]) H:=by
  intro H g1 g2 n m e1 e2 e3 e4
  rw [←hQ]
  unfold Rle
  rw [show frz true H 9 (.agg [.loc 3 g1 0 n 1 false,.loc 2 g2 0 m 2 false,ints u.marks])=.agg (growU u x).cs by
   rw [frz_agg]
   simp only [List.map_cons,List.map_nil]
   rw [frzI (k:=6) _ e1 e3,frzP (k:=6) _ e2 e4]
   simp [growU]]
  exact leP_refl _ _
 by_cases n0:u.notes=[]
 ·by_cases v0:u.v=[]
  ·simp (maxSteps:=3000000) [go_sem,-List.length_flatten,-List.map_drop,-List.map_take,c141,a1,a2,a3,a4,h1A,indB,apartB,apartS,aliveRd,refA,n0,v0]
   refine fin ?_ ?_ ?_ ?_<;>simp [n0,v0,fl]
  ·simp (maxSteps:=3000000) [go_sem,-List.length_flatten,-List.map_drop,-List.map_take,c141,a1,a2,a3,a4,h1A,indB,apartB,apartS,aliveRd,refA,n0,v0]
   refine fin ?_ ?_ ?_ ?_<;>simp [n0,fl,↓hv]
 ·by_cases v0:u.v=[]
  ·simp (maxSteps:=3000000) [go_sem,-List.length_flatten,-List.map_drop,-List.map_take,c141,a1,a2,a3,a4,h1A,indB,apartB,apartS,aliveRd,refA,n0,v0]
   refine fin ?_ ?_ ?_ ?_<;>simp [v0,↓hn]
  ·simp (maxSteps:=3000000) [go_sem,-List.length_flatten,-List.map_drop,-List.map_take,c141,a1,a2,a3,a4,h1A,indB,apartB,apartS,aliveRd,refA,n0,v0]
   refine fin ?_ ?_ ?_ ?_<;>simp [↓hv,↓hn]
theorem add115_PF (u:Ce) (h1:u.v.length≤1000000) (h2:u.notes.length≤1000000):PF Tryz.prog 115 [.agg u.cs] (.agg (growU u u.v.length).cs):=by
 refine PFk 9 hm Tryz.func115 c115_ok (Nat.le_of_ble_eq_true rfl) (by simp) (by simp) ?_
 simp (maxSteps:=3000000) [go_sem,-List.length_flatten,-List.map_drop,-List.map_take,c115]
 intro _
 refine PF.call (grow141_PF u u.v.length h1 h2) 9 (by simp [lePs,-List.length_flatten,-List.map_drop,-List.map_take,Function.comp_def,len_flat]) ?_
 simp (maxSteps:=3000000) [go_sem,-List.length_flatten,-List.map_drop,-List.map_take,Kc]
theorem set151_PF (u:Ce) {i:Int} (x:Int) (hi:0≤i∧i<u.v.length) (h1:u.v.length≤1000000) (h2:u.notes.length≤1000000):PF Tryz.prog 151 [.agg u.cs,i64 i,i64 x] (.tuple [.agg (setU u i x).cs,i64 0]):=by
 refine PFk 9 hm Tryz.func151 c151_ok (Nat.le_of_ble_eq_true rfl) (by simp) (by simp) ?_
 have a1:u.v.length≤maxA:=by unfold maxA;omega
 have a2:u.notes.length+1≤maxA:=by unfold maxA;omega
 have h0:¬ i<0:=by omega
 have h3:¬ (u.v.length:Int)≤i:=by omega
 generalize hQ:Rle 9 (.tuple [.agg (setU u i x).cs,i64 0])=Q
 have a4:u.notes.length≤maxA:=by unfold maxA;omega
 have v0:u.v≠[]:=by rintro e;rw [e] at hi;simp at hi;omega
 have hn:=prs_appT u.notes i (gi u.v i)
 have h1A:1≤maxA:=by unfold maxA;omega
 have hset:(u.v.map fun n=>[i64 n]).flatten.set i.toNat (i64 x)=i64s (u.v.set i.toNat x):=by
  rw [flat_i64s]
  unfold i64s
  rw [List.map_set]
 have fin:∀ {H:AHeap} {g1 g2 n m:Nat},H[2]?=some (.cells g1 (i64s (u.v.set i.toNat x)))→H[3]?=some (.cells g2 (fl prc (u.notes++[(i,gi u.v i)])))→n=(u.v.set i.toNat x).length→m=(u.notes++[(i,gi u.v i)]).length→Q (.tuple [.agg [.loc 2 g1 0 n 1 false,.loc 3 g2 0 m 2 false,ints u.marks],i64 0]) H:=by
  intro H g1 g2 n m e1 e2 e3 e4
  rw [←hQ]
  unfold Rle
  rw [show frz true H 9 (.tuple [.agg [.loc 2 g1 0 n 1 false,.loc 3 g2 0 m 2 false,ints u.marks],i64 0])=.tuple [.agg (setU u i x).cs,i64 0] by
   rw [frz_tuple]
   simp only [List.map_cons,List.map_nil]
   rw [frz_agg]
   simp only [List.map_cons,List.map_nil]
   rw [frzI (k:=5) _ e1 e3,frzP (k:=5) _ e2 e4]
   simp [setU]]
  exact leP_refl _ _
 by_cases n0:u.notes=[]
 ·simp (maxSteps:=3000000) [go_sem,-List.length_flatten,-List.map_drop,-List.map_take,c151,a1,a2,a4,h1A,h0,h3,hi,v0,n0,indB,apartB,apartS,aliveRd,refA]
  refine ⟨by omega,fin ?_ ?_ ?_ ?_⟩<;>simp [n0,fl,↓hset]
 ·simp (maxSteps:=3000000) [go_sem,-List.length_flatten,-List.map_drop,-List.map_take,c151,a1,a2,a4,h1A,h0,h3,hi,v0,n0,indB,apartB,apartS,aliveRd,refA]
  refine ⟨by omega,fin ?_ ?_ ?_ ?_⟩<;>simp [↓hset,↓hn]
theorem join149_PF {rk:List Int} (u:Ce) (h:Pv rk u.v) {a b:Int} (ha:0≤a∧a<u.v.length) (hb:0≤b∧b<u.v.length) (h1:u.v.length≤1000000) (h2:u.notes.length≤1000000):PF Tryz.prog 149 [.agg u.cs,ints rk,i64 a,i64 b] (.agg (joinU rk u a b).cs):=by
 refine PFk 9 hm Tryz.func149 c149_ok (Nat.le_of_ble_eq_true rfl) (by simp) (by simp) ?_
 generalize hQ:Rle 9 (.agg (joinU rk u a b).cs)=Q
 simp (maxSteps:=3000000) [go_sem,-List.length_flatten,-List.map_drop,-List.map_take,c149]
 refine PF.call (find35_PF u h ha) 9 (by simp [lePs,-List.length_flatten,-List.map_drop,-List.map_take,Function.comp_def,len_flat]) ?_
 simp (maxSteps:=3000000) [go_sem,-List.length_flatten,-List.map_drop,-List.map_take,Kc]
 refine PF.call (find35_PF u h hb) 9 (by simp [lePs,-List.length_flatten,-List.map_drop,-List.map_take,Function.comp_def,len_flat]) ?_
 have ia:=h.fin ha
 have ib:=h.fin hb
 unfold joinU at hQ
 generalize fnd u.v a=x at *
 generalize fnd u.v b=y at *
 by_cases e:x=y
 ·simp (maxSteps:=3000000) [go_sem,-List.length_flatten,-List.map_drop,-List.map_take,Kc,e]
  rw [←hQ,if_pos e]
  simp (maxSteps:=3000000) [go_sem,-List.length_flatten,-List.map_drop,-List.map_take]
 ·rw [if_neg e] at hQ
  simp (maxSteps:=3000000) [go_sem,-List.length_flatten,-List.map_drop,-List.map_take,Kc,e]
  refine PF.call (less25_PF rk x y) 9 (by simp [lePs,-List.length_flatten,-List.map_drop,-List.map_take,Function.comp_def,len_flat]) ?_
  cases hl:lessR rk x y with
  | true =>
   simp (maxSteps:=3000000) [go_sem,-List.length_flatten,-List.map_drop,-List.map_take,Kc]
   refine PF.call (set151_PF u x ib h1 h2) 9 (by simp [lePs,-List.length_flatten,-List.map_drop,-List.map_take,Function.comp_def,len_flat]) ?_
   simp (maxSteps:=3000000) [go_sem,-List.length_flatten,-List.map_drop,-List.map_take,Kc]
   rw [←hQ,if_pos hl]
   simp (maxSteps:=3000000) [go_sem,-List.length_flatten,-List.map_drop,-List.map_take]
  | false =>
   simp (maxSteps:=3000000) [go_sem,-List.length_flatten,-List.map_drop,-List.map_take,Kc]
   refine PF.call (set151_PF u y ia h1 h2) 9 (by simp [lePs,-List.length_flatten,-List.map_drop,-List.map_take,Function.comp_def,len_flat]) ?_
   simp (maxSteps:=3000000) [go_sem,-List.length_flatten,-List.map_drop,-List.map_take,Kc]
   rw [←hQ,if_neg (by rw [hl];simp)]
   simp (maxSteps:=3000000) [go_sem,-List.length_flatten,-List.map_drop,-List.map_take]
theorem gi_memG {α:Type} [Inhabited α] {l:List α} {i:Nat} (h:i<l.length):gi l i∈l:=by
 have e:gi l i=l[i]:=by simp [gi,List.getD,h]
 rw [e]
 exact List.getElem_mem h
theorem mem_gi {α:Type} [Inhabited α] {l:List α} {x:α}:x∈l↔∃ i:Nat,i<l.length∧gi l i=x:=by
 constructor
 ·intro h
  obtain ⟨j,h1,h2⟩:=List.getElem_of_mem h
  exact ⟨j,h1,by simpa [gi,List.getD,h1] using h2⟩
 ·rintro ⟨i,h1,rfl⟩
  exact gi_memG h1
theorem none_next {p:Nat→Prop} {i:Nat} (h:∀ j:Nat,j<i→¬ p j) (hi:¬ p i):∀ j:Nat,j<i+1→¬ p j:=fun j hj=>by
 rcases Nat.lt_or_ge j i with h3|h3
 ·exact h j h3
 ·have:j=i:=by omega
  subst this
  exact hi
theorem rlb_gr {n g:Nat} {x:Gr}:RLB n (.cells g x.cs):=by simp [RLB]
theorem c139_ok:cFn Tryz.prog an0 Tryz.f139=some c139:=by kernel_rfl
theorem c147_ok:cFn Tryz.prog an0 Tryz.f147=some c147:=by kernel_rfl
theorem c138_ok:cFn Tryz.prog an0 Tryz.f138=some c138:=by kernel_rfl
theorem c112_ok:cFn Tryz.prog an0 Tryz.f112=some c112:=by kernel_rfl
theorem c26_ok:cFn Tryz.prog an0 Tryz.f26=some c26:=by kernel_rfl
theorem c136_ok:cFn Tryz.prog an0 Tryz.f136=some c136:=by kernel_rfl
theorem c137_ok:cFn Tryz.prog an0 Tryz.f137=some c137:=by kernel_rfl
section
variable {nv:Nat} {l:List Sg} {a:Kd} {g:Gr}
theorem edge139_PF (hv:Vok a nv) (hg:Gok l a nv g) {v w:Int} (h1:0≤v∧v<nv) (h2:0≤w∧w<nv):PF Tryz.prog 139 [.agg a.cs,.agg g.cs,i64 v,i64 w] (.bool (edgeG a g v w)):=by
 refine PFk 9 hm Tryz.func139 c139_ok (Nat.le_of_ble_eq_true rfl) (by simp) (by simp) ?_
 by_cases e:v=w
 ·simp (maxSteps:=3000000) [go_sem,-List.length_flatten,-List.map_drop,-List.map_take,c139,e]
  simp [edgeG]
 have hvs:v<g.suc.length:=by rw [hg.ls];exact h1.2
 have hwp:w<g.pre.length:=by rw [hg.lp];exact h2.2
 simp (maxSteps:=3000000) [go_sem,-List.length_flatten,-List.map_drop,-List.map_take,c139,e]
 refine run_countK (gi g.suc v).length 9 [(2,i64 v),(3,i64 w),(4,.ptr 0 0 0),(5,.ptr 1 0 0)] [.cells 0 a.cs,.cells 0 g.cs] (fun i=>∀ j:Nat,j<i→¬ frG a g (gi (gi g.suc v) j)=w) (Wk.sub (by simp [Tm.get])) (fun j hj=>by omega) ?_
 intro i hi hj KK kx kr kn
 by_cases hl:i<(gi g.suc v).length
 ·simp (maxSteps:=3000000) [go_sem,-List.length_flatten,-List.map_drop,-List.map_take,h1,hvs,hl]
  intros
  refine ⟨_,first148_PF hv hg _,?_⟩
  by_cases he:frG a g (gi (gi g.suc v) i)=w
  ·have hm:w∈(gi g.suc v).map (frG a g):=List.mem_map.2 ⟨_,gi_memG hl,he⟩
   simp (maxSteps:=3000000) [go_sem,-List.length_flatten,-List.map_drop,-List.map_take,Kc,he,kr,edgeG,e,hm]
  ·simp (maxSteps:=3000000) [go_sem,-List.length_flatten,-List.map_drop,-List.map_take,Kc,he]
   exact kn _ _ (Kn_next 2 (by omega) (by omega) (none_next hj he) (by simp [Tm.get,nxt hl ‹_›]) (by simp) rfl ⟨rlb_kd,rlb_gr,trivial⟩)
 ·have:i=(gi g.suc v).length:=by omega
  subst this
  have hn1:w∉(gi g.suc v).map (frG a g):=fun hm=>by
   obtain ⟨z,hz,hz2⟩:=List.mem_map.1 hm
   obtain ⟨k,k1,k2⟩:=mem_gi.1 hz
   exact hj k k1 (by rw [k2];exact hz2)
  simp (maxSteps:=3000000) [go_sem,-List.length_flatten,-List.map_drop,-List.map_take,h1,hvs,kx]
  intros
  refine run_countK (gi g.pre w).length 10 [(2,i64 v),(3,i64 w),(4,.ptr 0 0 0),(5,.ptr 1 0 0)] [.cells 0 a.cs,.cells 0 g.cs] (fun i=>∀ j:Nat,j<i→¬ frG a g (gi (gi g.pre w) j)=v) (Wk.sub (by simp [Tm.get])) (fun j hj=>by omega) ?_
  intro i hi hj2 KK2 kx2 kr2 kn2
  by_cases hl:i<(gi g.pre w).length
  ·simp (maxSteps:=3000000) [go_sem,-List.length_flatten,-List.map_drop,-List.map_take,h2,hwp,hl]
   intros
   refine ⟨_,first148_PF hv hg _,?_⟩
   by_cases he:frG a g (gi (gi g.pre w) i)=v
   ·have hm:v∈(gi g.pre w).map (frG a g):=List.mem_map.2 ⟨_,gi_memG hl,he⟩
    simp (maxSteps:=3000000) [go_sem,-List.length_flatten,-List.map_drop,-List.map_take,Kc,he,kr2,edgeG,e,hm]
   ·simp (maxSteps:=3000000) [go_sem,-List.length_flatten,-List.map_drop,-List.map_take,Kc,he]
    exact kn2 _ _ (Kn_next 2 (by omega) (by omega) (none_next hj2 he) (by simp [Tm.get,nxt hl ‹_›]) (by simp) rfl ⟨rlb_kd,rlb_gr,trivial⟩)
  ·have:i=(gi g.pre w).length:=by omega
   subst this
   have hn2:v∉(gi g.pre w).map (frG a g):=fun hm=>by
    obtain ⟨z,hz,hz2⟩:=List.mem_map.1 hm
    obtain ⟨k,k1,k2⟩:=mem_gi.1 hz
    exact hj2 k k1 (by rw [k2];exact hz2)
   simp (maxSteps:=3000000) [go_sem,-List.length_flatten,-List.map_drop,-List.map_take,h2,hwp,kx2]
   intros
   simp [edgeG,hn1,hn2]
theorem nextTo_succ (x:Int) (n:Nat):nextTo a g x (n+1)=nextTo a g x n++(if gi g.u.v n=n∧edgeG a g x n=true then [(n:Int)] else []):=by
 unfold nextTo
 rw [List.range_succ,List.map_append,List.filter_append]
 congr 1
 by_cases h1:gi g.u.v n=n<;>by_cases h2:edgeG a g x n=true<;>simp [h1,h2]
theorem nextTo_len (x:Int) (n:Nat):(nextTo a g x n).length≤n:=by
 unfold nextTo
 have:=List.length_filter_le (fun w:Int=>decide (gi g.u.v w=w)&&edgeG a g x w) ((List.range n).map fun (k:Nat)=>(k:Int))
 simpa using this
theorem next147_PF (hv:Vok a nv) (hg:Gok l a nv g) (hn:nv≤1000000) {v:Int} (h1:0≤v∧v<nv):PF Tryz.prog 147 [.agg a.cs,.agg g.cs,i64 v] (ints (nextG a g v)):=by
 refine PFk 9 hm Tryz.func147 c147_ok (Nat.le_of_ble_eq_true rfl) (by simp) (by simp) ?_
 generalize hQ:Rle 9 (ints (nextG a g v))=Q
 simp (maxSteps:=3000000) [go_sem,-List.length_flatten,-List.map_drop,-List.map_take,c147]
 refine PF.call (find35_PF g.u hg.par (by rw [hg.lv];exact h1)) 9 (by simp [lePs,-List.length_flatten,-List.map_drop,-List.map_take,Function.comp_def,len_flat]) ?_
 have hf:=hg.fin h1
 unfold nextG at hQ
 rw [hg.lv] at hQ
 generalize fnd g.u.v v=x at *
 simp (maxSteps:=3000000) [go_sem,-List.length_flatten,-List.map_drop,-List.map_take,Kc]
 refine run_loopK (fun m T H=>∃ k q:Nat,m=nv - k∧k≤nv∧T=[(9,i64 k),(8,.loc 2 q 0 (nextTo a g x k).length 1 false),(7,i64 x),(3,.ptr 0 0 0),(4,.ptr 1 0 0)]∧H=[.cells 0 a.cs,.cells 0 g.cs,.cells q (i64s (nextTo a g x k))])
  nv [(9,i64 0),(8,.loc 2 0 0 0 1 false),(7,i64 x),(3,.ptr 0 0 0),(4,.ptr 1 0 0)] [.cells 0 a.cs,.cells 0 g.cs,.cells 0 []]
  ((Wk.nil 8 1 (by simp [Tm.get])).trans (Wk.tell 3 (by omega) (by simp [Tm.get]) (by simp) rfl ⟨rlb_kd,rlb_gr,by simp [RLB],trivial⟩)) ⟨0,0,rfl,Nat.zero_le _,rfl,rfl⟩ ?_
 rintro m T H ⟨k,q,rfl,hk,rfl,rfl⟩ KK kx kr kn
 by_cases hl:k<nv
 ·have hl1:k<g.u.v.length:=by rw [hg.lv];exact hl
  have hsucc:=nextTo_succ (a:=a) (g:=g) x k
  have hlen:=nextTo_len (a:=a) (g:=g) x k
  have hA:(nextTo a g x k).length+1≤maxA:=by unfold maxA;omega
  have hap:=i64s_app (nextTo a g x k) (k:Int)
  by_cases e1:gi g.u.v k=k
  ·simp (maxSteps:=3000000) [go_sem,-List.length_flatten,-List.map_drop,-List.map_take,hl1,e1]
   intros
   refine PF.call (edge139_PF (v:=x) (w:=(k:Int)) hv hg hf (by omega)) 9 (by simp [lePs,-List.length_flatten,-List.map_drop,-List.map_take,Function.comp_def,len_flat]) ?_
   cases e2:edgeG a g x k with
   | true =>
    rw [if_pos ⟨e1,e2⟩] at hsucc
    simp (maxSteps:=3000000) [go_sem,-List.length_flatten,-List.map_drop,-List.map_take,Kc,hA,hap]
    intros
    refine kn _ _ (Kl_next (nv - (k+1)) 3 (by omega) ⟨k+1,q+1,rfl,by omega,rfl,rfl⟩ (by simp [Tm.get,hsucc,nxt hl1 ‹_›]) (by simp) (by simp [hsucc]) ⟨rlb_kd,rlb_gr,rlb_i64s,trivial⟩ (by omega))
   | false =>
    rw [if_neg (by simp [e2])] at hsucc
    rw [List.append_nil] at hsucc
    simp (maxSteps:=3000000) [go_sem,-List.length_flatten,-List.map_drop,-List.map_take,Kc]
    intros
    refine kn _ _ (Kl_next (nv - (k+1)) 3 (by omega) ⟨k+1,q,rfl,by omega,rfl,rfl⟩ (by simp [Tm.get,hsucc,nxt hl1 ‹_›]) (by simp) (by simp [hsucc]) ⟨rlb_kd,rlb_gr,rlb_i64s,trivial⟩ (by omega))
  ·rw [if_neg (fun h=>e1 h.1),List.append_nil] at hsucc
   simp (maxSteps:=3000000) [go_sem,-List.length_flatten,-List.map_drop,-List.map_take,hl1,e1]
   intros
   refine kn _ _ (Kl_next (nv - (k+1)) 3 (by omega) ⟨k+1,q,rfl,by omega,rfl,rfl⟩ (by simp [Tm.get,hsucc,nxt hl1 ‹_›]) (by simp) (by simp [hsucc]) ⟨rlb_kd,rlb_gr,rlb_i64s,trivial⟩ (by omega))
 ·have:k=nv:=by omega
  subst this
  have hl1:¬ k<g.u.v.length:=by rw [hg.lv];exact hl
  simp (maxSteps:=3000000) [go_sem,-List.length_flatten,-List.map_drop,-List.map_take,hl1,kx]
  intros
  rw [←hQ]
  unfold Rle
  rw [frzI (k:=7) (nextTo a g x k) rfl rfl]
  exact leP_refl _ _
end
theorem i64_load {d:List Int} {w:Int} (h:0≤w∧w<d.length):loadCs 1 false ((i64s d).drop w.toNat)=some (i64 (gi d w)):=by
 have h1:w.toNat<d.length:=by omega
 have h2:=loadCs_drop (f:=fun n:Int=>AV.int IntKind.i64 n) h1
 rw [Int.toNat_of_nonneg h.1] at h2
 exact h2
theorem i64s_set (d:List Int) (k:Nat) (x:Int):(i64s d).set k (i64 x)=i64s (d.set k x):=by
 unfold i64s
 rw [List.map_set]
theorem relax_len (k:Int):∀ (ws:List Int) (d:List Int),(relax d k ws).length=d.length
 | [],_=>rfl
 | w::ws,d=>by
  show (relax (if gi d w<0 then d.set w.toNat (k+1) else d) k ws).length=_
  rw [relax_len k ws]
  split<;>simp
theorem steps0_succ (n:Nat) (x:Int):steps0 (n+1) x=steps0 n x++[if (n:Int)=x then 0 else -1]:=by
 unfold steps0
 rw [List.range_succ,List.map_append]
 rfl
theorem steps0_len (n:Nat) (x:Int):(steps0 n x).length=n:=by simp [steps0]
section
variable {nv:Nat} {l:List Sg} {a:Kd} {g:Gr}
set_option maxHeartbeats 1000000 in
theorem steps138_PF (hv:Vok a nv) (hg:Gok l a nv g) (hn:nv≤1000000) {x:Int} (hx:0≤x∧x<nv) (hf:gi g.u.v x=x):PF Tryz.prog 138 [.agg a.cs,.agg g.cs,i64 x] (ints (stepsG a g x)):=by
 refine PFk 9 hm Tryz.func138 c138_ok (Nat.le_of_ble_eq_true rfl) (by simp) (by simp) ?_
 generalize hQ:Rle 9 (ints (stepsG a g x))=Q
 have hlv:=hg.lv
 simp (maxSteps:=3000000) [go_sem,-List.length_flatten,-List.map_drop,-List.map_take,c138]
 refine run_loopK (fun m T H=>∃ k q:Nat,m=nv - k∧k≤nv∧T=[(8,i64 k),(7,.loc 2 q 0 k 1 false),(2,i64 x),(3,.ptr 0 0 0),(4,.ptr 1 0 0)]∧H=[.cells 0 a.cs,.cells 0 g.cs,.cells q (i64s (steps0 k x))])
  nv [(8,i64 0),(7,.loc 2 0 0 0 1 false),(2,i64 x),(3,.ptr 0 0 0),(4,.ptr 1 0 0)] [.cells 0 a.cs,.cells 0 g.cs,.cells 0 []]
  ((Wk.nil 7 1 (by simp [Tm.get])).trans (Wk.tell 3 (by omega) (by simp [Tm.get]) (by simp) rfl ⟨rlb_kd,rlb_gr,by simp [RLB],trivial⟩)) ⟨0,0,rfl,Nat.zero_le _,rfl,rfl⟩ ?_
 rintro m T H ⟨k,q,rfl,hk,rfl,rfl⟩ KK kx kr kn
 by_cases hl:k<nv
 ·have hl1:k<g.u.v.length:=by omega
  have hsucc:=steps0_succ k x
  have hlen:=steps0_len k x
  have hA:k+1≤maxA:=by unfold maxA;omega
  have hap:∀ z,List.take k (i64s (steps0 k x))++[i64 z]=i64s (steps0 k x++[z]):=fun z=>by
   have:=i64s_app (steps0 k x) z
   rwa [hlen] at this
  by_cases e1:(k:Int)=x
  ·rw [if_pos e1] at hsucc
   have e1':=eq_true e1
   simp (maxSteps:=3000000) [go_sem,-List.length_flatten,-List.map_drop,-List.map_take,hl1,e1',hA,hap,hlen]
   intros
   refine kn _ _ (Kl_next (nv - (k+1)) 3 (by omega) ⟨k+1,q+1,rfl,by omega,rfl,rfl⟩ (by simp [Tm.get,nxt hl1 ‹_›]) (by simp) (by simp [hsucc]) ⟨rlb_kd,rlb_gr,rlb_i64s,trivial⟩ (by omega))
  ·rw [if_neg e1] at hsucc
   simp (maxSteps:=3000000) [go_sem,-List.length_flatten,-List.map_drop,-List.map_take,hl1,e1,hA,hap,hlen]
   intros
   refine kn _ _ (Kl_next (nv - (k+1)) 3 (by omega) ⟨k+1,q+1,rfl,by omega,rfl,rfl⟩ (by simp [Tm.get,nxt hl1 ‹_›]) (by simp) (by simp [hsucc]) ⟨rlb_kd,rlb_gr,rlb_i64s,trivial⟩ (by omega))
 ·have:k=nv:=by omega
  subst this
  have hl1:¬ k<g.u.v.length:=by omega
  simp (maxSteps:=3000000) [go_sem,-List.length_flatten,-List.map_drop,-List.map_take,hl1,kx]
  intros
  have hD0:=Dok.start (a:=a) (g:=g) hx hf
  have hS:stepsG a g x=stepsN a g (steps0 k x) k:=by unfold stepsG;rw [hlv]
  rw [hS] at hQ
  clear hS
  have hDn:=fun n=>hD0.steps hg n
  generalize steps0 k x=d0 at *
  refine run_loopK (fun m T H=>∃ i:Nat,m=k - i∧i≤k∧T=[(9,i64 i),(7,.loc 2 q 0 k 1 false),(3,.ptr 0 0 0),(4,.ptr 1 0 0)]∧H=[.cells 0 a.cs,.cells 0 g.cs,.cells q (i64s (stepsN a g d0 i))])
   k [(9,i64 0),(7,.loc 2 q 0 k 1 false),(3,.ptr 0 0 0),(4,.ptr 1 0 0)] [.cells 0 a.cs,.cells 0 g.cs,.cells q (i64s d0)]
   (Wk.tell 3 (by omega) (by simp [Tm.get]) (by simp) rfl ⟨rlb_kd,rlb_gr,rlb_i64s,trivial⟩) ⟨0,rfl,Nat.zero_le _,rfl,rfl⟩ ?_
  rintro m T H ⟨i,rfl,hi,rfl,rfl⟩ KK2 kx2 kr2 kn2
  have hDi:=hDn i
  by_cases hil:i<k
  ·have hil':(i:Int)<k:=by omega
   simp (maxSteps:=3000000) [go_sem,-List.length_flatten,-List.map_drop,-List.map_take,hil']
   intros
   refine run_loopK (fun m T H=>∃ v:Nat,m=k - v∧v≤k∧T=[(10,i64 v),(9,i64 i),(7,.loc 2 q 0 k 1 false),(3,.ptr 0 0 0),(4,.ptr 1 0 0)]∧H=[.cells 0 a.cs,.cells 0 g.cs,.cells q (i64s (sweepN a g i (stepsN a g d0 i) v))])
    k [(10,i64 0),(9,i64 i),(7,.loc 2 q 0 k 1 false),(3,.ptr 0 0 0),(4,.ptr 1 0 0)] [.cells 0 a.cs,.cells 0 g.cs,.cells q (i64s (stepsN a g d0 i))]
    (Wk.tell 3 (by omega) (by simp [Tm.get]) (by simp) rfl ⟨rlb_kd,rlb_gr,rlb_i64s,trivial⟩) ⟨0,rfl,Nat.zero_le _,rfl,rfl⟩ ?_
   rintro m T H ⟨v,rfl,hvk,rfl,rfl⟩ KK3 kx3 kr3 kn3
   have hDv:=hDi.sweep hg (k:=(i:Int)) (by omega) v hvk
   have hSv:sweepN a g i (stepsN a g d0 i) (v+1)=if gi (sweepN a g i (stepsN a g d0 i) v) v=i then relax (sweepN a g i (stepsN a g d0 i) v) i (nextG a g v) else sweepN a g i (stepsN a g d0 i) v:=rfl
   have hend:v=k→sweepN a g i (stepsN a g d0 i) v=stepsN a g d0 (i+1):=fun e=>by
    rw [stepsN,hD0.len,e]
   generalize sweepN a g i (stepsN a g d0 i) v=d at *
   have hdl:d.length=k:=hDv.len
   by_cases hvl:v<k
   ·have hvl':(v:Int)<k:=by omega
    have hld:=i64_load (d:=d) (w:=v) (by rw [hdl];omega)
    simp only [Int.toNat_natCast] at hld
    by_cases e1:gi d v=i
    ·rw [if_pos e1] at hSv
     have hvf:=hDv.fix v (by omega) (by omega)
     have hws:∀ w∈nextG a g v,0≤w∧w<k:=fun w hw=>by
      unfold nextG at hw
      rw [hlv,mem_nextTo] at hw
      exact hw.1
     simp (maxSteps:=3000000) [go_sem,-List.length_flatten,-List.map_drop,-List.map_take,hvl,hvl',↓hld,e1,hdl]
     intros
     refine PF.call (next147_PF (v:=(v:Int)) hv hg hn (by omega)) 9 (by simp [lePs,-List.length_flatten,-List.map_drop,-List.map_take,Function.comp_def,len_flat]) ?_
     generalize nextG a g v=ws at *
     simp (maxSteps:=3000000) [go_sem,-List.length_flatten,-List.map_drop,-List.map_take,Kc]
     refine run_loopK (fun m T H=>∃ j:Nat,m=ws.length - j∧j≤ws.length∧T=[(12,i64 j),(11,ints ws),(10,i64 v),(9,i64 i),(7,.loc 2 q 0 k 1 false),(3,.ptr 0 0 0),(4,.ptr 1 0 0)]∧H=[.cells 0 a.cs,.cells 0 g.cs,.cells q (i64s (relax d i (ws.take j)))])
      ws.length [(12,i64 0),(11,ints ws),(10,i64 v),(9,i64 i),(7,.loc 2 q 0 k 1 false),(3,.ptr 0 0 0),(4,.ptr 1 0 0)] [.cells 0 a.cs,.cells 0 g.cs,.cells q (i64s d)]
      (Wk.tell 3 (by omega) (by simp [Tm.get]) (by simp) rfl ⟨rlb_kd,rlb_gr,rlb_i64s,trivial⟩) ⟨0,rfl,Nat.zero_le _,rfl,rfl⟩ ?_
     rintro m T H ⟨j,rfl,hj,rfl,rfl⟩ KK4 kx4 kr4 kn4
     have hrl:=relax_len (i:Int) (ws.take j) d
     rw [hdl] at hrl
     by_cases hjl:j<ws.length
     ·have hw:=hws (gi ws j) (gi_memG hjl)
      have hnx:relax d i (ws.take (j+1))=if gi (relax d i (ws.take j)) (gi ws j)<0 then (relax d i (ws.take j)).set (gi ws j).toNat (i+1) else relax d i (ws.take j):=foldl_take _ _ _ _ hjl
      generalize relax d i (ws.take j)=d' at *
      have hld':=i64_load (d:=d') (w:=gi ws j) (by rw [hrl];exact hw)
      have hi1:IntKind.i64.wrap ((i:Int)+1)=i+1:=w64 (by omega) (by omega)
      by_cases hneg:gi d' (gi ws j)<0
      ·rw [if_pos hneg] at hnx
       simp (maxSteps:=3000000) [go_sem,-List.length_flatten,-List.map_drop,-List.map_take,hjl,hw,↓hld',hneg,hrl,hi1]
       intros
       refine ⟨by omega,kn4 _ _ (Kl_next (ws.length - (j+1)) 3 (by omega) ⟨j+1,rfl,by omega,rfl,rfl⟩ (by simp [Tm.get,nxt hjl ‹_›]) (by simp) (by simp [hnx,List.map_set]) ⟨rlb_kd,rlb_gr,rlb_i64s,trivial⟩ (by omega))⟩
      ·rw [if_neg hneg] at hnx
       simp (maxSteps:=3000000) [go_sem,-List.length_flatten,-List.map_drop,-List.map_take,hjl,hw,↓hld',hneg,hrl]
       intros
       refine kn4 _ _ (Kl_next (ws.length - (j+1)) 3 (by omega) ⟨j+1,rfl,by omega,rfl,rfl⟩ (by simp [Tm.get,nxt hjl ‹_›]) (by simp) (by simp [hnx]) ⟨rlb_kd,rlb_gr,rlb_i64s,trivial⟩ (by omega))
     ·have:j=ws.length:=by omega
      subst this
      rw [List.take_length] at *
      simp (maxSteps:=3000000) [go_sem,-List.length_flatten,-List.map_drop,-List.map_take,kx4]
      intros
      have hvk1:IntKind.i64.wrap ((v:Int)+1)=((v+1:Nat):Int):=by rw [w64 (by omega) (by omega)];omega
      refine kn3 _ _ (Kl_next (k - (v+1)) 3 (by omega) ⟨v+1,rfl,by omega,rfl,rfl⟩ (by simp [Tm.get,hvk1]) (by simp) (by simp [hSv]) ⟨rlb_kd,rlb_gr,rlb_i64s,trivial⟩ (by omega))
    ·rw [if_neg e1] at hSv
     have hvk1:IntKind.i64.wrap ((v:Int)+1)=((v+1:Nat):Int):=by rw [w64 (by omega) (by omega)];omega
     simp (maxSteps:=3000000) [go_sem,-List.length_flatten,-List.map_drop,-List.map_take,hvl,hvl',↓hld,e1,hdl]
     intros
     refine kn3 _ _ (Kl_next (k - (v+1)) 3 (by omega) ⟨v+1,rfl,by omega,rfl,rfl⟩ (by simp [Tm.get,hvk1]) (by simp) (by simp [hSv]) ⟨rlb_kd,rlb_gr,rlb_i64s,trivial⟩ (by omega))
   ·have hvk':v=k:=by omega
    have hvl':¬ (v:Int)<k:=by omega
    have he:=hend hvk'
    simp (maxSteps:=3000000) [go_sem,-List.length_flatten,-List.map_drop,-List.map_take,hvl',kx3]
    intros
    have hik1:IntKind.i64.wrap ((i:Int)+1)=((i+1:Nat):Int):=by rw [w64 (by omega) (by omega)];omega
    refine kn2 _ _ (Kl_next (k - (i+1)) 3 (by omega) ⟨i+1,rfl,by omega,rfl,rfl⟩ (by simp [Tm.get,hik1]) (by simp) (by simp [he]) ⟨rlb_kd,rlb_gr,rlb_i64s,trivial⟩ (by omega))
  ·have:i=k:=by omega
   subst this
   have hil':¬ (i:Int)<i:=by omega
   simp (maxSteps:=3000000) [go_sem,-List.length_flatten,-List.map_drop,-List.map_take,kx2]
   intros
   rw [←hQ]
   unfold Rle
   rw [frzI (k:=7) (stepsN a g d0 i) rfl hDi.len.symm]
   exact leP_refl _ _
end
section
variable {nv:Nat} {l:List Sg} {a:Kd} {g:Gr}
def okB (a:Kd) (g:Gr) (d:List Int) (k w j:Int):Prop:=gi d j=k∧gi g.u.v j=j∧edgeG a g j w=true
theorem backG_min {d:List Int} {k w:Int}:∀ n:Nat,(backG a g d k w n=-1∧∀ j:Int,0≤j∧j<n→¬ okB a g d k w j)∨((0≤backG a g d k w n∧backG a g d k w n<n)∧okB a g d k w (backG a g d k w n)∧∀ j:Int,0≤j∧j<backG a g d k w n→¬ okB a g d k w j)
 | 0=>.inl ⟨rfl,fun j hj=>by omega⟩
 | n+1=>by
  unfold backG
  rcases backG_min (d:=d) (k:=k) (w:=w) n with ⟨h1,h2⟩|⟨h1,h2,h3⟩
  ·rw [h1,if_neg (by decide)]
   split
   ·rename_i q
    exact .inr ⟨by omega,q,h2⟩
   ·rename_i q
    refine .inl ⟨rfl,fun j hj=>?_⟩
    by_cases e:j=n
    ·rw [e];exact q
    ·exact h2 j (by omega)
  ·rw [if_pos h1.1]
   exact .inr ⟨by omega,h2,h3⟩
def LeastB (a:Kd) (g:Gr) (d:List Int) (k w:Int) (N n:Nat) (m:Int):Prop :=
 (m=-1∧∀ j:Int,(n:Int)≤j∧j<N→¬ okB a g d k w j)∨(((n:Int)≤m∧m<N)∧okB a g d k w m∧∀ j:Int,(n:Int)≤j∧j<m→¬ okB a g d k w j)
theorem LeastB.fin {d:List Int} {k w m:Int} {N:Nat} (h:LeastB a g d k w N 0 m):m=backG a g d k w N:=by
 rcases backG_min (a:=a) (g:=g) (d:=d) (k:=k) (w:=w) N with ⟨h1,h2⟩|⟨h1,h2,h3⟩
 ·rcases h with ⟨q1,_⟩|⟨q1,q2,_⟩
  ·rw [q1,h1]
  ·exact absurd q2 (h2 m (by omega))
 ·rcases h with ⟨_,q2⟩|⟨q1,q2,q3⟩
  ·exact absurd h2 (q2 _ (by omega))
  ·rcases Int.lt_trichotomy m (backG a g d k w N) with e|e|e
   ·exact absurd q2 (h3 m (by omega))
   ·exact e
   ·exact absurd h2 (q3 _ (by omega))
theorem LeastB.yes {d:List Int} {k w m:Int} {N n:Nat} (h:LeastB a g d k w N (n+1) m) (hn:n<N) (ho:okB a g d k w n):LeastB a g d k w N n n:=.inr ⟨by omega,ho,fun j hj=>by omega⟩
theorem LeastB.no {d:List Int} {k w m:Int} {N n:Nat} (h:LeastB a g d k w N (n+1) m) (ho:¬ okB a g d k w n):LeastB a g d k w N n m:=by
 rcases h with ⟨q1,q2⟩|⟨q1,q2,q3⟩
 ·refine .inl ⟨q1,fun j hj=>?_⟩
  by_cases e:j=n
  ·rw [e];exact ho
  ·exact q2 j (by omega)
 ·refine .inr ⟨by omega,q2,fun j hj=>?_⟩
  by_cases e:j=n
  ·rw [e];exact ho
  ·exact q3 j (by omega)
theorem set_ub {d:List Int} {B x:Int} {n:Nat} (h:∀ i:Int,gi d i≤B) (hx:x≤B) (i:Int):gi (d.set n x) i≤B:=by
 by_cases e:n=i.toNat
 ·by_cases hl:n<d.length
  ·have:gi (d.set n x) i=x:=by simp [gi,List.getD,←e,hl]
   rw [this];exact hx
  ·rw [List.set_eq_of_length_le (by omega)];exact h i
 ·have:gi (d.set n x) i=gi d i:=by simp [gi,List.getD,e]
  rw [this];exact h i
theorem relax_ub {B k:Int} (hk:k+1≤B):∀ (ws:List Int) {d:List Int},(∀ i:Int,gi d i≤B)→∀ i:Int,gi (relax d k ws) i≤B
 | [],_,h=>h
 | w::ws,d,h=>by
  show ∀ i:Int,gi (relax (if gi d w<0 then d.set w.toNat (k+1) else d) k ws) i≤B
  refine relax_ub hk ws ?_
  split
  ·exact set_ub h hk
  ·exact h
theorem sweep_ub {B k:Int} (hk:k+1≤B) {d:List Int} (h:∀ i:Int,gi d i≤B):∀ n,∀ i:Int,gi (sweepN a g k d n) i≤B
 | 0=>h
 | n+1=>by
  unfold sweepN
  split
  ·exact relax_ub hk _ (sweep_ub hk h n)
  ·exact sweep_ub hk h n
theorem steps_ub {d:List Int} (h:∀ i:Int,gi d i≤0):∀ n:Nat,∀ i:Int,gi (stepsN a g d n) i≤n
 | 0=>h
 | n+1=>by
  unfold stepsN
  exact sweep_ub (by omega) (fun i=>by have:=steps_ub h n i;omega) _
theorem stepsG_ub (x i:Int):gi (stepsG a g x) i≤g.u.v.length:=by
 refine steps_ub (fun i=>?_) _ i
 by_cases h:0≤i∧i<(g.u.v.length:Int)
 ·unfold steps0
  rw [gi_map_range h]
  split<;>decide
 ·by_cases h0:i<0
  ·have e:i.toNat=0:=by omega
   have e2:gi (steps0 g.u.v.length x) i=gi (steps0 g.u.v.length x) 0:=by simp [gi,e]
   rw [e2]
   by_cases hl:(0:Int)<g.u.v.length
   ·unfold steps0
    rw [gi_map_range (by omega)]
    split<;>decide
   ·have:(steps0 g.u.v.length x).length≤0:=by rw [steps0_len];omega
    have e3:steps0 g.u.v.length x=[]:=List.length_eq_zero_iff.1 (by omega)
    rw [e3];decide
  ·have:gi (steps0 g.u.v.length x) i=0:=by
    have hlen:=steps0_len g.u.v.length x
    have:(steps0 g.u.v.length x)[i.toNat]?=none:=List.getElem?_eq_none (by omega)
    unfold gi
    rw [List.getD_eq_getElem?_getD,this]
    rfl
   omega
set_option maxHeartbeats 1000000 in
theorem path112_PF (hv:Vok a nv) (hg:Gok l a nv g) (hn:nv≤1000000) {x y dep:Int} (hx:0≤x∧x<nv) (hy:0≤y∧y<nv):PF Tryz.prog 112 [.agg a.cs,.agg g.cs,i64 x,i64 y,i64 dep] (ints (pathG a g x y dep)):=by
 refine PFk 9 hm Tryz.func112 c112_ok (Nat.le_of_ble_eq_true rfl) (by simp) (by simp) ?_
 generalize hQ:Rle 9 (ints (pathG a g x y dep))=Q
 have hlv:=hg.lv
 have hxf:=hg.par.fix (n:=x) (by rw [hg.lv];exact hx)
 have hyf:=hg.par.fix (n:=y) (by rw [hg.lv];exact hy)
 have ix:=hg.fin hx
 have iy:=hg.fin hy
 simp (maxSteps:=3000000) [go_sem,-List.length_flatten,-List.map_drop,-List.map_take,c112]
 refine PF.call (find35_PF (n:=x) g.u hg.par (by rw [hg.lv];exact hx)) 9 (by simp [lePs,-List.length_flatten,-List.map_drop,-List.map_take,Function.comp_def,len_flat]) ?_
 simp (maxSteps:=3000000) [go_sem,-List.length_flatten,-List.map_drop,-List.map_take,Kc]
 refine PF.call (find35_PF (n:=y) g.u hg.par (by rw [hg.lv];exact hy)) 9 (by simp [lePs,-List.length_flatten,-List.map_drop,-List.map_take,Function.comp_def,len_flat]) ?_
 simp (maxSteps:=3000000) [go_sem,-List.length_flatten,-List.map_drop,-List.map_take,Kc]
 refine PF.call (steps138_PF hv hg hn ix hxf) 9 (by simp [lePs,-List.length_flatten,-List.map_drop,-List.map_take,Function.comp_def,len_flat]) ?_
 have hD:=Dok.all (a:=a) hg ix hxf
 have hub:=stepsG_ub (a:=a) (g:=g) (fnd g.u.v x) (fnd g.u.v y)
 unfold pathG at hQ
 generalize stepsG a g (fnd g.u.v x)=d at *
 generalize fnd g.u.v x=from_ at *
 generalize fnd g.u.v y=to_ at *
 have hdl:=hD.len
 have hto:0≤to_∧to_<d.length:=by rw [hdl];exact iy
 have fin0:(gi d to_<0∨gi d to_>(if 0>dep then 0 else dep))→∀ H,Q .nilS H:=fun h H=>by
  rw [←hQ,if_pos h]
  simp [Rle,frz,leP]
 by_cases h1:gi d to_<0
 ·simp (maxSteps:=3000000) [go_sem,-List.length_flatten,-List.map_drop,-List.map_take,Kc,hto,h1]
  intros
  exact fin0 (.inl h1) _
 by_cases h2:gi d to_>(if 0>dep then 0 else dep)
 ·have h2':(if dep<0 then 0 else dep)<gi d to_:=h2
  simp (maxSteps:=3000000) [go_sem,-List.length_flatten,-List.map_drop,-List.map_take,Kc,hto,h1,aMx,h2']
  intros
  exact fin0 (.inr h2) _
 ·rw [if_neg (by omega)] at hQ
  have h2':¬ (if dep<0 then 0 else dep)<gi d to_:=h2
  obtain ⟨K,hK⟩:∃ K:Nat,gi d to_=K:=⟨(gi d to_).toNat,by omega⟩
  rw [hK] at h1 h2' hQ hub
  have hKw:IntKind.i64.wrap ((K:Int)+1)=((K+1:Nat):Int):=by rw [w64 (by omega) (by omega)];omega
  have hKA:K+1≤maxA:=by unfold maxA;omega
  simp (maxSteps:=3000000) [go_sem,-List.length_flatten,-List.map_drop,-List.map_take,Kc,hto,hK,h1,aMx,h2',aMksl,hKw,hKA]
  refine ⟨⟨by omega,by unfold limB;omega,by unfold maxA;omega⟩,?_⟩
  refine run_loopK (fun m T H=>∃ (k:Nat) (w:Int) (R:List Int),k=m∧(0≤w∧w<nv)∧gi d w=k∧pathL a g d K to_=pathL a g d k w++R∧k+R.length=K∧T=[(16,i64 k),(15,i64 w),(14,.loc 2 0 0 (K+1) 1 false),(13,ints d),(5,.ptr 0 0 0),(6,.ptr 1 0 0)]∧H=[.cells 0 a.cs,.cells 0 g.cs,.cells 0 (i64s (List.replicate (k+1) 0++R))])
   K [(16,i64 K),(15,i64 to_),(14,.loc 2 0 0 (K+1) 1 false),(13,ints d),(5,.ptr 0 0 0),(6,.ptr 1 0 0)] [.cells 0 a.cs,.cells 0 g.cs,.cells 0 (i64s (List.replicate (K+1) 0))]
   (Wk.tell 3 (by omega) (by simp [Tm.get]) (by simp) (by simp) ⟨rlb_kd,rlb_gr,rlb_i64s,trivial⟩) ⟨K,to_,[],rfl,iy,hK,by simp,by simp,rfl,by simp⟩ ?_
  rintro m T H ⟨k,w,R,rfl,hw,hdw,hP,hkR,rfl,rfl⟩ KK kx kr kn
  have hset:(i64s (List.replicate (k+1) 0++R)).set k (i64 w)=i64s (List.replicate k 0++w::R):=by
   rw [i64s_set,List.replicate_succ',List.append_assoc,List.set_append_right k w (by simp)]
   simp
  have hsl:(i64s (List.replicate (k+1) 0++R)).length=K+1:=by simp;omega
  generalize hC:i64s (List.replicate (k+1) 0++R)=C at *
  have hkK:k+1≤K+1:=by omega
  have hkK2:(k:Int)<K+1:=by omega
  cases k with
  | zero =>
   simp (maxSteps:=3000000) [go_sem,-List.length_flatten,-List.map_drop,-List.map_take,hsl,hset,kx,hkK2]
   intros
   rw [←hQ,Int.toNat_natCast,hP]
   unfold Rle
   rw [frzI (k:=7) (w::R) rfl (by simp;omega)]
   exact leP_refl _ _
  | succ k =>
   have k0:0≤(k:Int)+1:=by omega
   have k1:¬ (k:Int)+1=0:=by omega
   have kK:k<K:=by omega
   have kK2:k+1≤K:=by omega
   have hdA:IntKind.i64.wrap ((d.length:Int) - 1)=(d.length:Int) - 1:=w64 (by omega) (by omega)
   simp (maxSteps:=3000000) [go_sem,-List.length_flatten,-List.map_drop,-List.map_take,hsl,hset,hkK2,k0,k1,kK,kK2,hdA]
   intros
   refine run_loopK (fun m T H=>∃ (n:Nat) (lm:Int),n=m∧n≤nv∧LeastB a g d k w nv n lm∧T=[(18,i64 ((n:Int) - 1)),(17,i64 lm),(16,i64 ((k:Int)+1)),(15,i64 w),(14,.loc 2 0 0 (K+1) 1 false),(13,ints d),(5,.ptr 0 0 0),(6,.ptr 1 0 0)]∧H=[.cells 0 a.cs,.cells 0 g.cs,.cells 0 (i64s (List.replicate (k+1) 0++w::R))])
    nv [(18,i64 ((nv:Int) - 1)),(17,i64 (-1)),(16,i64 ((k:Int)+1)),(15,i64 w),(14,.loc 2 0 0 (K+1) 1 false),(13,ints d),(5,.ptr 0 0 0),(6,.ptr 1 0 0)] [.cells 0 a.cs,.cells 0 g.cs,.cells 0 (i64s (List.replicate (k+1) 0++w::R))]
    (Wk.tell 3 (by omega) (by simp [Tm.get,hdl]) (by simp) (by simp) ⟨rlb_kd,rlb_gr,rlb_i64s,trivial⟩) ⟨nv,-1,rfl,Nat.le_refl _,.inl ⟨rfl,fun j hj=>by omega⟩,rfl,rfl⟩ ?_
   rintro m T H ⟨n,lm,rfl,hnn,hL,rfl,rfl⟩ KK2 kx2 kr2 kn2
   generalize hC2:i64s (List.replicate (k+1) 0++w::R)=C2 at *
   cases n with
   | zero =>
    have hlm:=hL.fin
    have hprev:=hD.prev hw (k:=k) hdw
    rw [hdl] at hprev
    rw [←hlm] at hprev
    have hwk:IntKind.i64.wrap (k:Int)=k:=w64 (by omega) (by omega)
    simp (maxSteps:=3000000) [go_sem,-List.length_flatten,-List.map_drop,-List.map_take,kx2]
    intros
    refine kn _ _ (Kl_next k 3 (by omega) ⟨k,lm,w::R,rfl,hprev.1,hprev.2.1,?_,by simp;omega,rfl,rfl⟩ (by simp [Tm.get,hwk]) (by simp) (by simp [←hC2]) ⟨rlb_kd,rlb_gr,rlb_i64s,trivial⟩ (by omega))
    rw [hP,pathL,hdl,←hlm]
    simp
   | succ n =>
    have n0:0≤(n:Int):=by omega
    have n1:n<d.length:=by omega
    have hwn:IntKind.i64.wrap ((n:Int) - 1)=(n:Int) - 1:=w64 (by omega) (by omega)
    have hwk:IntKind.i64.wrap (k:Int)=k:=w64 (by omega) (by omega)
    have hnc:(((n+1:Nat):Int) - 1)=(n:Int):=by omega
    simp only [hnc]
    have nxt1:∀ lm':Int,LeastB a g d k w nv n lm'→∀ T',al (fun q=>Tm.get T' q.1=q.2) [(18,i64 ((n:Int) - 1)),(17,i64 lm'),(16,i64 ((k:Int)+1)),(15,i64 w),(14,.loc 2 0 0 (K+1) 1 false),(13,ints d),(5,.ptr 0 0 0),(6,.ptr 1 0 0)]→KK2 .normal T' [.cells 0 a.cs,.cells 0 g.cs,.cells 0 C2]:=fun lm' hL' T' hT' =>
     kn2 _ _ (Kl_next n 3 (by omega) ⟨n,lm',rfl,by omega,hL',rfl,rfl⟩ hT' (by simp) (by simp [←hC2]) ⟨rlb_kd,rlb_gr,by rw [←hC2];exact rlb_i64s,trivial⟩ (by omega))
    by_cases e1:gi d n=k
    ·by_cases e2:gi g.u.v n=n
     ·simp (maxSteps:=3000000) [go_sem,-List.length_flatten,-List.map_drop,-List.map_take,n0,n1,hwk,hlv,e1,e2]
      refine ⟨by omega,?_⟩
      refine PF.call (edge139_PF (v:=(n:Int)) (w:=w) hv hg (by omega) hw) 9 (by simp [lePs,-List.length_flatten,-List.map_drop,-List.map_take,Function.comp_def,len_flat]) ?_
      cases e3:edgeG a g n w with
      | true =>
       simp (maxSteps:=3000000) [go_sem,-List.length_flatten,-List.map_drop,-List.map_take,Kc]
       refine nxt1 n (hL.yes (by omega) ⟨e1,e2,e3⟩) _ (by simp [Tm.get,hwn])
      | false =>
       simp (maxSteps:=3000000) [go_sem,-List.length_flatten,-List.map_drop,-List.map_take,Kc]
       refine nxt1 lm (hL.no fun h=>by rw [h.2.2] at e3;cases e3) _ (by simp [Tm.get,hwn])
     ·simp (maxSteps:=3000000) [go_sem,-List.length_flatten,-List.map_drop,-List.map_take,n0,n1,hwk,hlv,e1,e2]
      refine ⟨by omega,nxt1 lm (hL.no fun h=>e2 h.2.1) _ (by simp [Tm.get,hwn])⟩
    ·simp (maxSteps:=3000000) [go_sem,-List.length_flatten,-List.map_drop,-List.map_take,n0,n1,hwk,hlv,e1]
     intros
     refine nxt1 lm (hL.no fun h=>e1 h.1) _ (by simp [Tm.get,hwn])
end
section
def firstsK (v:List Int) (n:Nat):List Int:=((List.range n).map fun (k:Nat)=>(k:Int)).filter fun k=>decide (gi v k=k)
theorem firstsK_succ (v:List Int) (n:Nat):firstsK v (n+1)=firstsK v n++(if gi v n=n then [(n:Int)] else []):=by
 unfold firstsK
 rw [List.range_succ,List.map_append,List.filter_append]
 congr 1
 by_cases h1:gi v n=n<;>simp [h1]
theorem firstsK_len (v:List Int) (n:Nat):(firstsK v n).length≤n:=by
 unfold firstsK
 have:=List.length_filter_le (fun w:Int=>decide (gi v w=w)) ((List.range n).map fun (k:Nat)=>(k:Int))
 simpa using this
theorem firsts26_PF (u:Ce) (hn:u.v.length≤1000000):PF Tryz.prog 26 [.agg u.cs] (ints (firstsU u.v)):=by
 refine PFk 9 hm Tryz.func26 c26_ok (Nat.le_of_ble_eq_true rfl) (by simp) (by simp) ?_
 generalize hQ:Rle 9 (ints (firstsU u.v))=Q
 change Rle 9 (ints (firstsK u.v u.v.length))=Q at hQ
 simp (maxSteps:=3000000) [go_sem,-List.length_flatten,-List.map_drop,-List.map_take,c26]
 refine run_loopK (fun m T H=>∃ k q:Nat,m=u.v.length - k∧k≤u.v.length∧T=[(4,i64 k),(3,.loc 1 q 0 (firstsK u.v k).length 1 false),(1,.ptr 0 0 0)]∧H=[.cells 0 u.cs,.cells q (i64s (firstsK u.v k))])
  u.v.length [(4,i64 0),(3,.loc 1 0 0 0 1 false),(1,.ptr 0 0 0)] [.cells 0 u.cs,.cells 0 []]
  ((Wk.nil 3 1 (by simp [Tm.get])).trans (Wk.tell 2 (by omega) (by simp [Tm.get]) (by simp) rfl ⟨by simp [RLB],by simp [RLB],trivial⟩)) ⟨0,0,rfl,Nat.zero_le _,rfl,rfl⟩ ?_
 rintro m T H ⟨k,q,rfl,hk,rfl,rfl⟩ KK kx kr kn
 by_cases hl:k<u.v.length
 ·have hsucc:=firstsK_succ u.v k
  have hlen:=firstsK_len u.v k
  have hA:(firstsK u.v k).length+1≤maxA:=by unfold maxA;omega
  have hap:=i64s_app (firstsK u.v k) (k:Int)
  by_cases e1:gi u.v k=k
  ·rw [if_pos e1] at hsucc
   simp (maxSteps:=3000000) [go_sem,-List.length_flatten,-List.map_drop,-List.map_take,hl,e1,hA,hap]
   intros
   refine kn _ _ (Kl_next (u.v.length - (k+1)) 2 (by omega) ⟨k+1,q+1,rfl,by omega,rfl,rfl⟩ (by simp [Tm.get,hsucc,nxt hl ‹_›]) (by simp) (by simp [hsucc]) ⟨by simp [RLB],rlb_i64s,trivial⟩ (by omega))
  ·rw [if_neg e1,List.append_nil] at hsucc
   simp (maxSteps:=3000000) [go_sem,-List.length_flatten,-List.map_drop,-List.map_take,hl,e1]
   intros
   refine kn _ _ (Kl_next (u.v.length - (k+1)) 2 (by omega) ⟨k+1,q,rfl,by omega,rfl,rfl⟩ (by simp [Tm.get,hsucc,nxt hl ‹_›]) (by simp) (by simp [hsucc]) ⟨by simp [RLB],rlb_i64s,trivial⟩ (by omega))
 ·have:k=u.v.length:=by omega
  subst this
  simp (maxSteps:=3000000) [go_sem,-List.length_flatten,-List.map_drop,-List.map_take,kx]
  intros
  rw [←hQ]
  unfold Rle
  rw [frzI (k:=7) (firstsK u.v u.v.length) rfl rfl]
  exact leP_refl _ _
theorem layI_split:∀ (l:List Int) (p:Int) (k:Nat),k≤l.length→(∀ i:Nat,i<k→gi l i<p)→(k<l.length→¬ gi l k<p) →
  layI l p=l.take k++((if k=l.length∨gi l k≠p then [p] else [])++l.drop k)
 | [],p,k,hk,_,_=>by
  have:k=0:=by simpa using hk
  subst this
  simp [layI]
 | q::l,p,0,_,_,h=>by
  have h0:¬ q<p:=h (by simp)
  have e0:gi (q::l) ((0:Nat):Int)=q:=rfl
  unfold layI
  rw [if_neg h0,e0]
  by_cases e:q=p
  ·simp [e]
  ·simp [e]
 | q::l,p,k+1,hk,h1,h2=>by
  have h0:q<p:=h1 0 (by omega)
  have eg:∀ i:Nat,gi (q::l) ((i+1:Nat):Int)=gi l i:=fun i=>by simp [gi,show ((i:Int)+1).toNat=i+1 by omega]
  unfold layI
  rw [if_pos h0,layI_split l p k (by simpa using hk) (fun i hi=>by rw [←eg];exact h1 (i+1) (by omega)) (fun hl=>by rw [←eg];exact h2 (by simpa using hl))]
  rw [eg]
  simp
theorem lay136_PF (l:List Int) (hs:l.Pairwise (·<·)) (p:Int) (hl:l.length≤1000000):PF Tryz.prog 136 [ints l,i64 p] (.tuple [ints (layI l p),.bool (decide (p∉l))]):=by
 refine PFk 9 hm Tryz.func136 c136_ok (Nat.le_of_ble_eq_true rfl) (by simp) (by simp) ?_
 generalize hQ:Rle 9 (.tuple [ints (layI l p),.bool (decide (p∉l))])=Q
 have fin:∀ {H:AHeap} {g n:Nat},p∉l→H[0]?=some (.cells g (i64s (layI l p)))→n=(layI l p).length→Q (.tuple [.loc 0 g 0 n 1 false,.bool true]) H:=by
  intro H g n hm e1 e2
  rw [←hQ]
  unfold Rle
  rw [show frz true H 9 (.tuple [.loc 0 g 0 n 1 false,.bool true])=.tuple [ints (layI l p),.bool (decide (p∉l))] by
   rw [frz_tuple]
   simp only [List.map_cons,List.map_nil]
   rw [frzI (k:=6) _ e1 e2]
   simp [hm]]
  exact leP_refl _ _
 simp (maxSteps:=3000000) [go_sem,-List.length_flatten,-List.map_drop,-List.map_take,c136]
 refine run_loopK (fun m T H=>∃ k q:Nat,m=l.length - k∧k≤l.length∧(∀ i:Nat,i<k→gi l i<p)∧T=[(7,i64 k),(6,.loc 0 q 0 k 1 false),(1,i64 p),(0,ints l)]∧H=[.cells q (i64s (l.take k))])
  l.length [(7,i64 0),(6,.loc 0 0 0 0 1 false),(1,i64 p),(0,ints l)] [.cells 0 []]
  ((Wk.nil 6 1 (by simp [Tm.get])).trans (Wk.tell 1 (by omega) (by simp [Tm.get]) (by simp) rfl ⟨by simp [RLB],trivial⟩)) ⟨0,0,rfl,Nat.zero_le _,fun i hi=>by omega,rfl,by simp⟩ ?_
 rintro m T H ⟨k,q,rfl,hk,hlt,rfl,rfl⟩ KK kx kr kn
 have hA:k+1≤maxA:=by unfold maxA;omega
 have hA0:k≤maxA:=by unfold maxA;omega
 have htl:(l.take k).length=k:=by rw [List.length_take];omega
 have hap:∀ z,List.take k (i64s (l.take k))++[i64 z]=i64s (l.take k++[z]):=fun z=>by
  have:=i64s_app (l.take k) z
  rwa [htl] at this
 have hap':=hap (gi l k)
 have happ:=hap p
 have hmin:k≤min k l.length:=by omega
 by_cases h1:k<l.length
 ·have et:l.take (k+1)=l.take k++[gi l k]:=by
   have e:gi l k=l[k]:=by simp [gi,List.getD,h1]
   rw [List.take_add_one,List.getElem?_eq_getElem h1,e]
   rfl
  by_cases h2:gi l k<p
  ·simp (maxSteps:=3000000) [go_sem,-List.length_flatten,-List.map_drop,-List.map_take,h1,h2,hA,↓hap',hmin,hk]
   intros
   refine kn _ _ (Kl_next (l.length - (k+1)) 1 (by omega) ⟨k+1,q+1,rfl,by omega,fun i hi=>?_,rfl,rfl⟩ (by simp [Tm.get,nxt h1 ‹_›]) (by simp) (by simp [et]) ⟨rlb_i64s,trivial⟩ (by omega))
   rcases Nat.lt_or_ge i k with h3|h3
   ·exact hlt i h3
   ·have:i=k:=by omega
    subst this
    exact h2
  ·have hsp:=layI_split l p k hk hlt (fun _=>h2)
   by_cases h3:gi l k=p
   ·have hm:p∈l:=h3▸gi_memG h1
    rw [if_neg (by rintro (e|e);omega;exact e h3),List.nil_append,List.take_append_drop] at hsp
    simp (maxSteps:=3000000) [go_sem,-List.length_flatten,-List.map_drop,-List.map_take,h1,h2,h3,kx]
    intros
    rw [←hQ,hsp]
    simp (maxSteps:=3000000) [go_sem,-List.length_flatten,-List.map_drop,-List.map_take,hm]
   ·have hm:p∉l:=fun hm=>by
     obtain ⟨j,j1,j2⟩:=mem_gi.1 hm
     rcases Nat.lt_or_ge j k with h4|h4
     ·have:=hlt j h4;omega
     ·have hjk:j≠k:=by rintro rfl;exact h3 j2
      have:=List.pairwise_iff_getElem.1 hs k j h1 j1 (by omega)
      have e1:gi l k=l[k]:=by simp [gi,List.getD,h1]
      have e2:gi l j=l[j]:=by simp [gi,List.getD,j1]
      omega
    rw [if_pos (.inr h3)] at hsp
    have hlk:¬ l.length≤k:=by omega
    have hA3:k+1+(l.length - k)≤maxA:=by unfold maxA;omega
    have hC:List.take (k+1) (List.map (fun n=>i64 n) (List.take k l)++[i64 p])++(List.map (fun n=>[i64 n]) (List.drop k l)).flatten=i64s (layI l p):=by
     rw [flat_i64s,List.take_of_length_le (by simp;omega),hsp]
     simp
    simp (maxSteps:=3000000) [go_sem,-List.length_flatten,-List.map_drop,-List.map_take,h1,h2,h3,kx,hA,↓happ,hmin,hk,hlk,hA3]
    intros
    refine fin hm (by rw [hC];rfl) ?_
    rw [hsp]
    simp
    omega
 ·have:k=l.length:=by omega
  subst this
  have hsp:=layI_split l p l.length hk hlt (fun h=>absurd h h1)
  rw [if_pos (.inl rfl)] at hsp
  have hm:p∉l:=fun hm=>by
   obtain ⟨j,j1,j2⟩:=mem_gi.1 hm
   have:=hlt j j1
   omega
  have hC:List.map (fun n=>i64 n) l++[i64 p]=i64s (layI l p):=by
   rw [hsp]
   simp
  simp (maxSteps:=3000000) [go_sem,-List.length_flatten,-List.map_drop,-List.map_take,h1,kx,hA,↓happ]
  intros
  refine fin hm (by rw [←hC];simp [List.take_of_length_le]) ?_
  rw [hsp]
  simp
end
theorem fl_appP (L:List (Int×Int)) (x y:Int):List.take (L.length*2) (fl prc L)++[i64 x,i64 y]=fl prc (L++[(x,y)]):=prs_appT L x y
theorem rlb_fl {n g:Nat} {L:List (Int×Int)}:RLB n (.cells g (fl prc L)):=fl_RL (fun x y hy=>by
 simp only [prc,List.mem_cons,List.not_mem_nil,or_false] at hy
 rcases hy with rfl|rfl<;>simp) L
theorem map_take1 {α β:Type} [Inhabited α] (f:α→β) {l:List α} {i:Nat} (h:i<l.length):(l.take (i+1)).map f=(l.take i).map f++[f (gi l i)]:=by
 rw [List.take_succ_eq_append_getElem h,List.map_append]
 simp [gi,List.getD,h]
theorem c84_ok:cFn Tryz.prog an0 Tryz.f84=some c84:=by kernel_rfl
theorem c113_ok:cFn Tryz.prog an0 Tryz.f113=some c113:=by kernel_rfl
theorem flat_rows:∀ l:List (List Int),(l.map fun k=>[ints k]).flatten=l.map ints
 | []=>rfl
 | x::l=>by simp [flat_rows l]
theorem intss_RL (n:Nat) (l:List (List Int)):RL n (intss l):=by simp
theorem chunk_flR (l:List (List Int)):chunk 1 (l.map ints) l.length=l.map fun k=>[ints k]:=by
 have:=chunk_one (f:=ints) (l:=l)
 simpa using this
theorem frzR (X:List (List Int)) {H:AHeap} {i g n k:Nat} (h:H[i]?=some (.cells g (X.map ints))) (hn:n=X.length):frz true H (k+4) (.loc i g 0 n 1 false)=intss X:=by
 subst hn
 simp [frz,h,chunk_flR]
theorem with137_PF (l:List (List Int)) {n:Int} (h:0≤n∧n<l.length) (r:List Int) (hl:l.length≤1000000):PF Tryz.prog 137 [intss l,i64 n,ints r] (intss (l.set n.toNat r)):=by
 refine PFk 9 hm Tryz.func137 c137_ok (Nat.le_of_ble_eq_true rfl) (by simp) (intss_RL 0 _) ?_
 generalize hQ:Rle 9 (intss (l.set n.toNat r))=Q
 have hA:l.length≤maxA:=by unfold maxA;omega
 have hne:l≠[]:=by rintro rfl;simp at h;omega
 have hfl:=flat_rows l
 simp (maxSteps:=3000000) [go_sem,-List.length_flatten,-List.map_drop,-List.map_take,c137,hA,hne,h,↓hfl]
 refine ⟨by omega,?_⟩
 rw [←hQ]
 unfold Rle
 rw [frzR (k:=5) (l.set n.toNat r) (by simp [List.map_set]) (by simp)]
 exact leP_refl _ _
theorem with137n_PF (l:List (List Int)) {n:Int} (h:0≤n∧n<l.length) (hl:l.length≤1000000):PF Tryz.prog 137 [intss l,i64 n,.nilS] (intss (l.set n.toNat [])) :=
 (with137_PF l h [] hl).le 9 (by simp [lePs,leP]) (by simp)
def gr0 (rk:List Int):Gr:=⟨rk,⟨[],[],[]⟩,[],[]⟩
theorem moreN_0 (rk:List Int):∀ k:Nat,(moreN (gr0 rk) k).ranks=rk∧(moreN (gr0 rk) k).u.v.length=k∧(moreN (gr0 rk) k).u.notes.length=k∧(moreN (gr0 rk) k).pre=List.replicate k []∧(moreN (gr0 rk) k).suc=List.replicate k []
 | 0=>⟨rfl,rfl,rfl,rfl,rfl⟩
 | k+1=>by
  obtain ⟨h1,h2,h3,h4,h5⟩:=moreN_0 rk k
  refine ⟨h1,?_,?_,?_,?_⟩
  ·simp [moreN,growU,h2]
  ·simp [moreN,growU,h3]
  ·simp only [moreN,h4,List.replicate_succ']
  ·simp only [moreN,h5,List.replicate_succ']
def rowT (k i:Nat):AV:=match k with
 | 0=>.rows true 1 []
 | k+1=>.loc i k 0 (k+1) 1 false
def rowH (k:Nat):AHeap:=match k with
 | 0=>[]
 | k+1=>[.cells k (List.replicate (k+1) (ints [])),.cells k (List.replicate (k+1) (ints []))]
theorem lePs_nilE:∀ k:Nat,lePs (leP 9) (List.replicate k (ints [])++[.nilS]) (List.replicate (k+1) (ints []))
 | 0=>by simp [lePs,leP]
 | k+1=>by
  rw [List.replicate_succ,List.cons_append,List.replicate_succ]
  exact ⟨leP_refl _ _,lePs_nilE k⟩
theorem rlb_repl {n g k:Nat}:RLB n (.cells g (List.replicate k (ints []))):=by
 intro y hy
 rw [List.eq_of_mem_replicate hy]
 simp
set_option maxHeartbeats 1000000 in
theorem more84_PF (rk:List Int) (n:Int) (hn:n≤2000):PF Tryz.prog 84 [.agg (gr0 rk).cs,i64 n] (.agg (moreG (gr0 rk) n).cs):=by
 refine PFk 9 hm Tryz.func84 c84_ok (Nat.le_of_ble_eq_true rfl) (by simp) (by simp) ?_
 generalize hQ:Rle 9 (.agg (moreG (gr0 rk) n).cs)=Q
 unfold moreG at hQ
 have e0:(gr0 rk).u.v.length=0:=rfl
 rw [e0,Nat.sub_zero] at hQ
 have hcs:(gr0 rk).cs=[ints rk,ints [],prs [],ints [],intss [],intss []]:=rfl
 rw [hcs]
 simp (maxSteps:=3000000) [go_sem,-List.length_flatten,-List.map_drop,-List.map_take,c84]
 refine run_loopK (fun m T H=>∃ k:Nat,m=n.toNat - k∧k≤n.toNat∧T=[(6,rowT k 3),(7,rowT k 4),(5,.ptr 2 0 0),(4,.ptr 1 0 0),(2,.ptr 0 0 0),(1,i64 n)]∧H=[.cells 0 (gr0 rk).cs,.cells 0 [.nilS,.nilS,.nilS,.nilS,.nilS,.nilS],.cells 0 (moreN (gr0 rk) k).u.cs]++rowH k)
  n.toNat [(6,rowT 0 3),(7,rowT 0 4),(5,.ptr 2 0 0),(4,.ptr 1 0 0),(2,.ptr 0 0 0),(1,i64 n)] [.cells 0 (gr0 rk).cs,.cells 0 [.nilS,.nilS,.nilS,.nilS,.nilS,.nilS],.cells 0 [ints [],prs [],ints []]]
  (Wk.tell 3 (by omega) (by simp [Tm.get,rowT]) (by simp [rowT]) (by simp [gr0]) ⟨by simp [RLB,gr0],by simp [RLB],by simp [RLB],trivial⟩) ⟨0,rfl,by omega,rfl,rfl⟩ ?_
 rintro m T H ⟨k,rfl,hk,rfl,rfl⟩ KK kx kr kn
 obtain ⟨f1,f2,f3,f4,f5⟩:=moreN_0 rk k
 have hu:(moreN (gr0 rk) (k+1)).u=growU (moreN (gr0 rk) k).u (moreN (gr0 rk) k).u.v.length:=rfl
 have h1A:1≤maxA:=by unfold maxA;omega
 have nxt1:∀ T':Tm,k<n.toNat→al (fun q=>Tm.get T' q.1=q.2) [(6,rowT (k+1) 3),(7,rowT (k+1) 4),(5,.ptr 2 0 0),(4,.ptr 1 0 0),(2,.ptr 0 0 0),(1,i64 n)]→KK .normal T' [.cells 0 (gr0 rk).cs,.cells 0 [.nilS,.nilS,.nilS,.nilS,.nilS,.nilS],.cells 0 (moreN (gr0 rk) (k+1)).u.cs,.cells k (List.replicate k (ints [])++[.nilS]),.cells k (List.replicate k (ints [])++[.nilS])]:=fun T' hk' hT' =>
  kn _ _ ⟨n.toNat - (k+1),_,_,by omega,((Wk.leH 9 3 rfl (lePs_nilE k)).trans (Wk.leH 9 4 rfl (lePs_nilE k))).trans (Wk.tell 5 (by omega) hT' (by simp [rowT]) rfl ⟨by simp [RLB,gr0],by simp [RLB],by simp [RLB],rlb_repl,rlb_repl,trivial⟩),k+1,rfl,by omega,rfl,rfl⟩
 by_cases hl:(k:Int)<n
 ·have hlA:((moreN (gr0 rk) k).u.v.length:Int)<n:=by omega
  have hadd:=add115_PF (moreN (gr0 rk) k).u (by omega) (by omega)
  rw [←hu] at hadd
  cases k with
  | zero =>
   simp (maxSteps:=3000000) [go_sem,-List.length_flatten,-List.map_drop,-List.map_take,rowT,rowH,hlA]
   intros
   refine PF.call hadd 9 (by simp [lePs,-List.length_flatten,-List.map_drop,-List.map_take,Function.comp_def,len_flat]) ?_
   simp (maxSteps:=3000000) [go_sem,-List.length_flatten,-List.map_drop,-List.map_take,Kc,h1A]
   intros
   exact nxt1 _ (by omega) (by simp [Tm.get,rowT])
  | succ k =>
   have hA:k+1+1≤maxA:=by unfold maxA;omega
   simp (maxSteps:=3000000) [go_sem,-List.length_flatten,-List.map_drop,-List.map_take,rowT,rowH,hlA]
   intros
   refine PF.call hadd 9 (by simp [lePs,-List.length_flatten,-List.map_drop,-List.map_take,Function.comp_def,len_flat]) ?_
   simp (maxSteps:=3000000) [go_sem,-List.length_flatten,-List.map_drop,-List.map_take,Kc,hA]
   intros
   exact nxt1 _ (by omega) (by simp [Tm.get,rowT])
 ·have hlA:¬ ((moreN (gr0 rk) k).u.v.length:Int)<n:=by omega
  have hkn:k=n.toNat:=by omega
  subst hkn
  have hgoal:∀ r1 r2:AV,∀ H,leP 8 (frz true H 8 r1) (intss (List.replicate n.toNat []))→leP 8 (frz true H 8 r2) (intss (List.replicate n.toNat []))→Q (.agg [ints rk,ints (moreN (gr0 rk) n.toNat).u.v,prs (moreN (gr0 rk) n.toNat).u.notes,ints (moreN (gr0 rk) n.toNat).u.marks,r1,r2]) H:=by
   intro r1 r2 H e1 e2
   rw [←hQ]
   unfold Rle
   rw [frz_agg,leP_agg]
   rw [←f4] at e1
   rw [←f5] at e2
   refine ⟨?_,?_,?_,?_,e1,e2,trivial⟩
   ·simp [f1]
   ·simp
   ·simp
   ·simp
  cases hn0:n.toNat with
  | zero =>
   simp only [hn0] at hgoal hlA
   simp (maxSteps:=3000000) [go_sem,-List.length_flatten,-List.map_drop,-List.map_take,rowT,rowH,hlA,kx]
   intros
   refine hgoal _ _ _ ?_ ?_<;>simp
  | succ k =>
   simp only [hn0] at hgoal hlA
   simp (maxSteps:=3000000) [go_sem,-List.length_flatten,-List.map_drop,-List.map_take,rowT,rowH,hlA,kx]
   intros
   refine hgoal _ _ _ ?_ ?_
   ·rw [frzR (k:=4) (List.replicate (k+1) []) (by simp [List.map_replicate,List.replicate_succ]) (by simp)]
    exact leP_refl _ _
   ·rw [frzR (k:=4) (List.replicate (k+1) []) (by simp [List.map_replicate,List.replicate_succ]) (by simp)]
    exact leP_refl _ _
def c140b:AFn:=lit fun m o w i y z p n s t k q r d c f b e a=>⟨118,q (r [i 4 (.box (t 0)),i 5 (.box (t 1)),i 8 (.alloc [.nilS,.nilS,.nilS,.nilS,.nilS,.nilS]),i 9 (.mov (.lit .nilS))]) (q (r [a 19 1 5,w 20 3 19,m 21 2,i 22 (f 35 [t 20,t 21]),m 10 22]) (q (r [a 23 1 5,w 24 3 23,m 25 3,i 26 (f 35 [t 24,t 25]),m 11 26]) (q (q (r [m 27 10,m 28 11,i 29 (e .eql 27 28)]) (c 29 (q (r [w 30 6 5,s (.store 6 (t 8) (t 30)),i 9 (.mov (.lit .nilS))]) .ret) .skip)) (q (r [m 31 10,m 12 31]) (q (r [m 32 11,m 13 32]) (q (r [a 33 0 5,o 34 33,m 35 10,m 36 11,i 37 (f 25 [t 34,t 35,t 36]),m 14 37]) (q (q (r [m 38 14,i 39 (.not (t 38))]) (c 39 (q (r [m 40 11,m 12 40]) (r [m 41 10,m 13 41])) .skip)) (q (q .mark (d [a 42 0 5,o 43 42,a 44 1 5,w 45 3 44,a 46 0 5,o 47 46,m 48 2,m 49 3,i 50 (f 149 [t 45,t 47,t 48,t 49]),a 51 4 5,o 52 51,m 53 13,i 54 (f 137 [t 52,t 53,.lit .nilS]),a 55 5 5,o 56 55,m 57 13,i 58 (f 137 [t 56,t 57,.lit .nilS]),i 59 (.build [.nilS,.nilS,.nilS,.nilS,.nilS,.nilS] [(0,1,t 43),(1,3,t 50),(4,1,t 54),(5,1,t 58)]),i 15 (.alloc [.nilS,.nilS,.nilS,.nilS,.nilS,.nilS]),s (.store 6 (t 15) (t 59))])) (q (r [i 16 (.mov (.lit .nilS))]) (q (q (r [i 17 (.mov (k 0))]) (b 0 ((q (q (r [m 60 17,a 61 4 5,o 62 61,m 63 13,i 64 (.ia 1 (t 62) (t 63)),o 65 64,i 66 (.len (t 65)),i 67 (e .lss 60 66)]) (c 67 .skip (.exit 0))) (q (.block 1 (d [m 70 16,w 71 2 4,w 72 6 15,a 73 4 5,o 74 73,m 75 13,i 76 (.ia 1 (t 74) (t 75)),o 77 76,m 78 17,i 79 (.ia 1 (t 77) (t 78)),o 80 79,i 81 (f 27 [t 71,t 72,t 80]),w 82 2 4,m 83 12,i 84 (f 24 [t 82,t 83]),i 85 (.build [.int .i64 0,.int .i64 0] [(0,1,t 81),(1,1,t 84)]),i 86 (.bslice 2 1 [.int .i64 0,.int .i64 0] [(0,t 85)]),i 87 (.app 2 16 (t 70) (t 86)),m 16 87])) (r [m 68 17,i 69 (.bin .add (t 68) (k 1)),m 17 69])))))) (q (q (r [i 18 (.mov (k 0))]) (b 2 ((q (q (r [m 88 18,a 89 5 5,o 90 89,m 91 13,i 92 (.ia 1 (t 90) (t 91)),o 93 92,i 94 (.len (t 93)),i 95 (e .lss 88 94)]) (c 95 .skip (.exit 2))) (q (.block 3 (d [m 98 16,w 99 2 4,m 100 12,i 101 (f 24 [t 99,t 100]),w 102 2 4,w 103 6 15,a 104 5 5,o 105 104,m 106 13,i 107 (.ia 1 (t 105) (t 106)),o 108 107,m 109 18,i 110 (.ia 1 (t 108) (t 109)),o 111 110,i 112 (f 27 [t 102,t 103,t 111]),i 113 (.build [.int .i64 0,.int .i64 0] [(0,1,t 101),(1,1,t 112)]),i 114 (.bslice 2 1 [.int .i64 0,.int .i64 0] [(0,t 113)]),i 115 (.app 2 16 (t 98) (t 114)),m 16 115])) (r [m 96 18,i 97 (.bin .add (t 96) (k 1)),m 18 97])))))) (q (r [w 116 6 15,m 117 16,s (.store 6 (t 8) (t 116)),m 9 117]) .ret)))))))))))),[.cell 8 6 true,.tmp 9]⟩
def an140:An:=⟨[],[11]⟩
theorem c140b_ok:cFn Tryz.prog an140 Tryz.f140=some c140b:=by kernel_rfl
section
variable {nv:Nat} {l:List Sg} {a:Kd} {g:Gr}
theorem rlb_nil6 {n:Nat}:RLB n (.cells 0 [.nilS,.nilS,.nilS,.nilS,.nilS,.nilS]):=by simp [RLB]
theorem Rle_grp {x:Gr} {H:AHeap} {i q n:Nat} {L:List (Int×Int)} (h:H[i]?=some (.cells q (fl prc L))) (hn:n=L.length):Rle 9 (.tuple [.agg x.cs,prs L]) (.tuple [.agg x.cs,.loc i q 0 n 2 false]) H:=by
 unfold Rle
 rw [frz_tuple]
 simp only [List.map_cons,List.map_nil]
 rw [frzP (k:=6) _ h hn,show frz true H 8 (.agg x.cs)=.agg x.cs by simp]
 exact leP_refl _ _
set_option maxHeartbeats 2000000 in
theorem one140_PF (hv:Vok a nv) (hg:Gok l a nv g) (hn:nv≤1000000) (hno:g.u.notes.length≤1000000) (hP:∀ n:Int,(gi g.pre n).length≤1000000) (hS:∀ n:Int,(gi g.suc n).length≤1000000) {x y:Int} (hx:0≤x∧x<nv) (hy:0≤y∧y<nv) :
  PF Tryz.prog 140 [.agg a.cs,.agg g.cs,i64 x,i64 y] (.tuple [.agg (oneG a g x y).1.cs,prs (oneG a g x y).2]):=by
 refine PFk 9 hm Tryz.func140 c140b_ok (Nat.le_of_ble_eq_true rfl) (by simp) (by simp) ?_
 generalize hQ:Rle 9 (.tuple [.agg (oneG a g x y).1.cs,prs (oneG a g x y).2])=Q
 have hxl:0≤x∧x<g.u.v.length:=by rw [hg.lv];exact hx
 have hyl:0≤y∧y<g.u.v.length:=by rw [hg.lv];exact hy
 simp (maxSteps:=3000000) [go_sem,-List.length_flatten,-List.map_drop,-List.map_take,c140b]
 refine PF.call (find35_PF (n:=x) g.u hg.par hxl) 9 (by simp [lePs,-List.length_flatten,-List.map_drop,-List.map_take,Function.comp_def,len_flat]) ?_
 simp (maxSteps:=3000000) [go_sem,-List.length_flatten,-List.map_drop,-List.map_take,Kc]
 refine PF.call (find35_PF (n:=y) g.u hg.par hyl) 9 (by simp [lePs,-List.length_flatten,-List.map_drop,-List.map_take,Function.comp_def,len_flat]) ?_
 by_cases e:fnd g.u.v x=fnd g.u.v y
 ·have:oneG a g x y=(g,[]):=by unfold oneG;rw [if_pos e]
  rw [this] at hQ
  simp (maxSteps:=3000000) [go_sem,-List.length_flatten,-List.map_drop,-List.map_take,Kc,e]
  rw [←hQ]
  simp (maxSteps:=3000000) [go_sem,-List.length_flatten,-List.map_drop,-List.map_take]
 have h1:oneG a g x y=(oneGr g x y,onePs a g x y):=by unfold oneG;rw [if_neg e]
 rw [h1] at hQ
 obtain ⟨hgo,iF,iG⟩:=oneGr_ok hg hx hy e
 have hjoin:=join149_PF g.u hg.par hxl hyl (by rw [hg.lv];exact hn) hno
 have hw1:=with137n_PF g.pre (n:=goneG g x y) (by rw [hg.lp];exact iG) (by rw [hg.lp];exact hn)
 have hw2:=with137n_PF g.suc (n:=goneG g x y) (by rw [hg.ls];exact iG) (by rw [hg.ls];exact hn)
 have hps:onePs a g x y=((gi g.pre (goneG g x y)).map fun z=>(repG a (oneGr g x y) z,atV a (fstG g x y)))++((gi g.suc (goneG g x y)).map fun z=>(atV a (fstG g x y),repG a (oneGr g x y) z)):=rfl
 have hcs:(oneGr g x y).cs=[ints g.ranks]++(joinU g.ranks g.u x y).cs++[intss (g.pre.set (goneG g x y).toNat []),intss (g.suc.set (goneG g x y).toNat [])]:=rfl
 have hPg:=hP (goneG g x y)
 have hSg:=hS (goneG g x y)
 have hF:fstG g x y=if lessR g.ranks (fnd g.u.v x) (fnd g.u.v y) then fnd g.u.v x else fnd g.u.v y:=rfl
 have hG:goneG g x y=if lessR g.ranks (fnd g.u.v x) (fnd g.u.v y) then fnd g.u.v y else fnd g.u.v x:=rfl
 simp (maxSteps:=3000000) [go_sem,-List.length_flatten,-List.map_drop,-List.map_take,Kc,e]
 refine PF.call (less25_PF g.ranks (fnd g.u.v x) (fnd g.u.v y)) 9 (by simp [lePs,-List.length_flatten,-List.map_drop,-List.map_take,Function.comp_def,len_flat]) ?_
 refine by_way (A:=?G) (fun key=>?main) ?sub
 case main =>
  cases hl:lessR g.ranks (fnd g.u.v x) (fnd g.u.v y) with
  | true =>
   rw [hl] at hF hG
   simp (maxSteps:=3000000) [go_sem,-List.length_flatten,-List.map_drop,-List.map_take,Kc]
   refine run_markT [(12,i64 (fstG g x y)),(13,i64 (goneG g x y)),(2,i64 x),(3,i64 y),(8,.ptr 2 0 0),(5,.ptr 1 0 0),(4,.ptr 0 0 0)] [.cells 0 a.cs,.cells 0 g.cs,.cells 0 [.nilS,.nilS,.nilS,.nilS,.nilS,.nilS]] (Wk.sub (by simp [Tm.get,hF,hG])) ?_
   exact key ()
  | false =>
   rw [hl] at hF hG
   simp (maxSteps:=3000000) [go_sem,-List.length_flatten,-List.map_drop,-List.map_take,Kc]
   refine run_markT [(12,i64 (fstG g x y)),(13,i64 (goneG g x y)),(2,i64 x),(3,i64 y),(8,.ptr 2 0 0),(5,.ptr 1 0 0),(4,.ptr 0 0 0)] [.cells 0 a.cs,.cells 0 g.cs,.cells 0 [.nilS,.nilS,.nilS,.nilS,.nilS,.nilS]] (Wk.sub (by simp [Tm.get,hF,hG])) ?_
   exact key ()
 case sub =>
  clear hF hG
  simp (maxSteps:=3000000) [go_sem,-List.length_flatten,-List.map_drop,-List.map_take]
  refine ⟨_,hjoin,?_⟩
  simp (maxSteps:=3000000) [go_sem,-List.length_flatten,-List.map_drop,-List.map_take,Kc]
  refine ⟨_,hw1,?_⟩
  simp (maxSteps:=3000000) [go_sem,-List.length_flatten,-List.map_drop,-List.map_take,Kc]
  refine ⟨_,hw2,?_⟩
  simp (maxSteps:=3000000) [go_sem,-List.length_flatten,-List.map_drop,-List.map_take,Kc]
  generalize hg':oneGr g x y=g' at *
  have hG0p:goneG g x y<g.pre.length:=by rw [hg.lp];exact iG.2
  have hG0s:goneG g x y<g.suc.length:=by rw [hg.ls];exact iG.2
  generalize hpl:onePs a g x y=L at *
  generalize fstG g x y=F at *
  generalize goneG g x y=G0 at *
  refine run_loopK (fun m T H=>∃ k q:Nat,m=(gi g.pre G0).length - k∧k≤(gi g.pre G0).length∧T=[(17,i64 k),(16,.loc 4 q 0 k 2 false),(15,.ptr 3 0 0),(13,i64 G0),(12,i64 F),(8,.ptr 2 0 0),(5,.ptr 1 0 0),(4,.ptr 0 0 0)]∧H=[.cells 0 a.cs,.cells 0 g.cs,.cells 0 [.nilS,.nilS,.nilS,.nilS,.nilS,.nilS],.cells 0 g'.cs,.cells q (fl prc (((gi g.pre G0).take k).map fun z=>(repG a g' z,atV a F)))])
   (gi g.pre G0).length [(17,i64 0),(16,.loc 4 0 0 0 2 false),(15,.ptr 3 0 0),(13,i64 G0),(12,i64 F),(8,.ptr 2 0 0),(5,.ptr 1 0 0),(4,.ptr 0 0 0)] [.cells 0 a.cs,.cells 0 g.cs,.cells 0 [.nilS,.nilS,.nilS,.nilS,.nilS,.nilS],.cells 0 g'.cs,.cells 0 []]
   ((Wk.nil 16 2 (by simp [Tm.get])).trans (Wk.tell 5 (by omega) (by simp [Tm.get]) (by simp) (by simp [hcs]) ⟨rlb_kd,rlb_gr,rlb_nil6,rlb_gr,by simp [RLB],trivial⟩)) ⟨0,0,rfl,Nat.zero_le _,rfl,by simp [fl]⟩ ?_
  rintro m T H ⟨k,q,rfl,hk,rfl,rfl⟩ KK kx kr kn
  by_cases hl:k<(gi g.pre G0).length
  ·have hA:k+1≤maxA:=by unfold maxA;omega
   have hmt:=map_take1 (fun z=>(repG a g' z,atV a F)) hl
   have hlen:(((gi g.pre G0).take k).map fun z=>(repG a g' z,atV a F)).length=k:=by simp;omega
   have hap:=fl_appP (((gi g.pre G0).take k).map fun z=>(repG a g' z,atV a F)) (repG a g' (gi (gi g.pre G0) k)) (atV a F)
   rw [hlen,←hmt] at hap
   have hfl2:=fl_len (f:=prc) (sz:=2) (by simp) (((gi g.pre G0).take k).map fun z=>(repG a g' z,atV a F))
   rw [hlen] at hfl2
   generalize hC:fl prc (((gi g.pre G0).take k).map fun z=>(repG a g' z,atV a F))=C at *
   simp (maxSteps:=3000000) [go_sem,-List.length_flatten,-List.map_drop,-List.map_take,iG,hG0p,hl]
   intros
   refine ⟨_,rep27_PF hv hgo (gi (gi g.pre G0) k),?_⟩
   simp (maxSteps:=3000000) [go_sem,-List.length_flatten,-List.map_drop,-List.map_take,Kc]
   refine ⟨_,at24_PF a F,?_⟩
   simp (maxSteps:=3000000) [go_sem,-List.length_flatten,-List.map_drop,-List.map_take,Kc,hA,hfl2,↓hap]
   intros
   refine kn _ _ (Kl_next ((gi g.pre G0).length - (k+1)) 5 (by omega) ⟨k+1,q+1,rfl,by omega,rfl,rfl⟩ (by simp [Tm.get,nxt hl ‹_›]) (by simp) rfl ⟨rlb_kd,rlb_gr,rlb_nil6,rlb_gr,rlb_fl,trivial⟩ (by omega))
  ·have:k=(gi g.pre G0).length:=by omega
   subst this
   rw [List.take_length]
   simp (maxSteps:=3000000) [go_sem,-List.length_flatten,-List.map_drop,-List.map_take,iG,hG0p,kx]
   intros
   generalize hM:((gi g.pre G0).map fun z=>(repG a g' z,atV a F))=M at *
   have hMl:M.length=(gi g.pre G0).length:=by rw [←hM];simp
   refine run_loopK (fun m T H=>∃ k q:Nat,m=(gi g.suc G0).length - k∧k≤(gi g.suc G0).length∧T=[(18,i64 k),(16,.loc 4 q 0 (M.length+k) 2 false),(15,.ptr 3 0 0),(13,i64 G0),(12,i64 F),(8,.ptr 2 0 0),(5,.ptr 1 0 0),(4,.ptr 0 0 0)]∧H=[.cells 0 a.cs,.cells 0 g.cs,.cells 0 [.nilS,.nilS,.nilS,.nilS,.nilS,.nilS],.cells 0 g'.cs,.cells q (fl prc (M++((gi g.suc G0).take k).map fun z=>(atV a F,repG a g' z)))])
    (gi g.suc G0).length [(18,i64 0),(16,.loc 4 q 0 M.length 2 false),(15,.ptr 3 0 0),(13,i64 G0),(12,i64 F),(8,.ptr 2 0 0),(5,.ptr 1 0 0),(4,.ptr 0 0 0)] [.cells 0 a.cs,.cells 0 g.cs,.cells 0 [.nilS,.nilS,.nilS,.nilS,.nilS,.nilS],.cells 0 g'.cs,.cells q (fl prc M)]
    (Wk.tell 5 (by omega) (by simp [Tm.get,hMl]) (by simp) rfl ⟨rlb_kd,rlb_gr,rlb_nil6,rlb_gr,rlb_fl,trivial⟩) ⟨0,q,rfl,Nat.zero_le _,rfl,by simp⟩ ?_
   rintro m T H ⟨k,q,rfl,hk,rfl,rfl⟩ KK2 kx2 kr2 kn2
   by_cases hl:k<(gi g.suc G0).length
   ·have hA:M.length+k+1≤maxA:=by unfold maxA;omega
    have hmt:=map_take1 (fun z=>(atV a F,repG a g' z)) hl
    have hlen:(M++((gi g.suc G0).take k).map fun z=>(atV a F,repG a g' z)).length=M.length+k:=by simp;omega
    have hap:=fl_appP (M++((gi g.suc G0).take k).map fun z=>(atV a F,repG a g' z)) (atV a F) (repG a g' (gi (gi g.suc G0) k))
    rw [hlen,List.append_assoc,←hmt] at hap
    have hfl2:=fl_len (f:=prc) (sz:=2) (by simp) (M++((gi g.suc G0).take k).map fun z=>(atV a F,repG a g' z))
    rw [hlen] at hfl2
    generalize hC:fl prc (M++((gi g.suc G0).take k).map fun z=>(atV a F,repG a g' z))=C at *
    simp (maxSteps:=3000000) [go_sem,-List.length_flatten,-List.map_drop,-List.map_take,iG,hG0s,hl]
    intros
    refine ⟨_,at24_PF a F,?_⟩
    simp (maxSteps:=3000000) [go_sem,-List.length_flatten,-List.map_drop,-List.map_take,Kc,iG,hG0s,hl]
    refine ⟨_,rep27_PF hv hgo (gi (gi g.suc G0) k),?_⟩
    simp (maxSteps:=3000000) [go_sem,-List.length_flatten,-List.map_drop,-List.map_take,Kc,hA,hfl2,↓hap]
    intros
    refine kn2 _ _ (Kl_next ((gi g.suc G0).length - (k+1)) 5 (by omega) ⟨k+1,q+1,rfl,by omega,rfl,rfl⟩ (by simp [Tm.get,nxt hl ‹_›,Nat.add_assoc]) (by simp) rfl ⟨rlb_kd,rlb_gr,rlb_nil6,rlb_gr,rlb_fl,trivial⟩ (by omega))
   ·have:k=(gi g.suc G0).length:=by omega
    subst this
    rw [List.take_length]
    simp (maxSteps:=3000000) [go_sem,-List.length_flatten,-List.map_drop,-List.map_take,iG,hG0s,kx2]
    intros
    rw [←hQ,hps]
    exact Rle_grp rfl (by simp)
end
section
variable {nv:Nat} {l:List Sg} {a:Kd} {g:Gr}
theorem asc_len {r:List Int} {N:Nat} (h:r.Pairwise (·<·)) (hr:∀ z∈r,0≤z∧z<N):r.length≤N:=by
 have hn:r.Nodup:=h.imp (fun h=>by omega)
 have:=pigeon N (r.map Int.toNat) (nodup_map hn fun x hx y hy e=>by
  have:=hr x hx
  have:=hr y hy
  omega) (fun m hm=>by
  obtain ⟨x,hx,rfl⟩:=List.mem_map.1 hm
  have:=hr x hx
  omega)
 simpa using this
theorem gi_cases {α:Type} [Inhabited α] (l:List α) (n:Int):(∃ k:Int,(0≤k∧k<l.length)∧gi l n=gi l k)∨gi l n=default:=by
 by_cases h:n.toNat<l.length
 ·exact .inl ⟨(n.toNat:Int),by omega,by unfold gi;rw [Int.toNat_natCast]⟩
 ·refine .inr ?_
  unfold gi
  rw [List.getD_eq_getElem?_getD,List.getElem?_eq_none (by omega)]
  rfl
theorem Gok.preLen (hg:Gok l a nv g) (n:Int):(gi g.pre n).length≤a.keys.length:=by
 rcases gi_cases g.pre n with ⟨k,hk,e⟩|e
 ·rw [hg.lp] at hk
  rw [e]
  exact asc_len (hg.sp k hk) fun z hz=>termAt_range (hg.inp k hk z hz).1
 ·rw [e];exact Nat.zero_le _
theorem Gok.sucLen (hg:Gok l a nv g) (n:Int):(gi g.suc n).length≤a.keys.length:=by
 rcases gi_cases g.suc n with ⟨k,hk,e⟩|e
 ·rw [hg.ls] at hk
  rw [e]
  exact asc_len (hg.ss k hk) fun z hz=>termAt_range (hg.ins k hk z hz).1
 ·rw [e];exact Nat.zero_le _
theorem oneG_ok (hg:Gok l a nv g) {x y:Int} (hx:0≤x∧x<nv) (hy:0≤y∧y<nv):Gok l a nv (oneG a g x y).1∧(oneG a g x y).2.length≤2*a.keys.length:=by
 unfold oneG
 split
 ·exact ⟨hg,Nat.zero_le _⟩
 ·rename_i e
  refine ⟨(oneGr_ok hg hx hy e).1,?_⟩
  have h1:=hg.preLen (goneG g x y)
  have h2:=hg.sucLen (goneG g x y)
  simp [onePs]
  omega
theorem joinL_ok {x:Int} (hx:0≤x∧x<nv):∀ (r:List Int) {g:Gr} (out:List (Int×Int)),Gok l a nv g→(∀ y∈r,0≤y∧y<nv)→Gok l a nv (joinL a x r (g,out)).1∧(joinL a x r (g,out)).2.length≤out.length+r.length*(2*a.keys.length)
 | [],_,_,h,_=>⟨h,by simp [joinL]⟩
 | y::r,g,out,h,hr=>by
  obtain ⟨h1,h2⟩:=oneG_ok h hx (hr y (by simp))
  obtain ⟨h3,h4⟩:=joinL_ok hx r (out++(oneG a g x y).2) h1 (fun z hz=>hr z (by simp [hz]))
  refine ⟨h3,?_⟩
  show (joinL a x r ((oneG a g x y).1,out++(oneG a g x y).2)).2.length≤_
  rw [List.length_append] at h4
  rw [List.length_cons,Nat.add_mul,Nat.one_mul]
  omega
theorem joinL_take {x:Int} {r:List Int} {i:Nat} (h:i<r.length) (s:Gr×List (Int×Int)):joinL a x (r.take (i+1)) s=((oneG a (joinL a x (r.take i) s).1 x (gi r i)).1,(joinL a x (r.take i) s).2++(oneG a (joinL a x (r.take i) s).1 x (gi r i)).2):=foldl_take _ _ _ _ h
theorem fl_appL (A B:List (Int×Int)):List.take (A.length*2) (fl prc A)++fl prc B=fl prc (A++B):=by
 rw [List.take_of_length_le (by rw [fl_len (f:=prc) (sz:=2) (by simp)];exact Nat.le_refl _),fl_app]
set_option maxHeartbeats 2000000 in
theorem join113_PF (hv:Vok a nv) (hg:Gok l a nv g) (hn:nv≤1000) (hk:a.keys.length≤2000) (r:List Int) (hr:∀ y∈r,0≤y∧y<nv) (hrl:r.length≤2000):PF Tryz.prog 113 [.agg a.cs,.agg g.cs,ints r] (.tuple [.agg (joinG a g r).1.cs,prs (joinG a g r).2]):=by
 refine PFk 9 hm Tryz.func113 c113_ok (Nat.le_of_ble_eq_true rfl) (by simp) (by simp) ?_
 generalize hQ:Rle 9 (.tuple [.agg (joinG a g r).1.cs,prs (joinG a g r).2])=Q
 unfold joinG at hQ
 have hA0:r.length≤maxA:=by unfold maxA;omega
 simp (maxSteps:=3000000) [go_sem,-List.length_flatten,-List.map_drop,-List.map_take,c113,hA0]
 refine run_loopK (fun m T H=>∃ k q:Nat,m=r.tail.length - k∧k≤r.tail.length∧T=[(9,i64 ((k:Int)+1)),(8,.loc 3 q 0 (joinL a (gi r 0) (r.tail.take k) (g,[])).2.length 2 false),(6,.ptr 2 0 0),(4,.ptr 1 0 0),(3,.ptr 0 0 0),(2,ints r)]∧H=[.cells 0 a.cs,.cells 0 (joinL a (gi r 0) (r.tail.take k) (g,[])).1.cs,.cells 0 [.nilS,.nilS,.nilS,.nilS,.nilS,.nilS],.cells q (fl prc (joinL a (gi r 0) (r.tail.take k) (g,[])).2)])
  r.tail.length [(9,i64 1),(8,.loc 3 0 0 0 2 false),(6,.ptr 2 0 0),(4,.ptr 1 0 0),(3,.ptr 0 0 0),(2,ints r)] [.cells 0 a.cs,.cells 0 g.cs,.cells 0 [.nilS,.nilS,.nilS,.nilS,.nilS,.nilS],.cells 0 []]
  ((Wk.nil 8 2 (by simp [Tm.get])).trans (Wk.tell 4 (by omega) (by simp [Tm.get]) (by simp) rfl ⟨rlb_kd,rlb_gr,rlb_nil6,by simp [RLB],trivial⟩)) ⟨0,0,rfl,Nat.zero_le _,rfl,rfl⟩ ?_
 rintro m T H ⟨k,q,rfl,hkr,rfl,rfl⟩ KK kx kr kn
 have htl:r.tail.length=r.length - 1:=List.length_tail
 by_cases hl:k<r.tail.length
 ·have hl1:(k:Int)+1<r.length:=by omega
  have hr0:0<r.length:=by omega
  have hx:=hr (gi r 0) (gi_memG (i:=0) hr0)
  have hyy:gi r ((k:Int)+1)=gi r.tail k:=by
   cases r with
   | nil=>simp at hr0
   | cons z r=>simp [gi,show ((k:Int)+1).toNat=k+1 by omega]
  have hy:=hr (gi r ((k:Int)+1)) (by rw [hyy];exact List.mem_of_mem_tail (gi_memG hl))
  obtain ⟨j1,j2⟩:=joinL_ok (l:=l) (a:=a) hx (r.tail.take k) [] hg (fun z hz=>hr z (List.mem_of_mem_tail (List.mem_of_mem_take hz)))
  have hjt:=joinL_take (a:=a) (x:=gi r 0) hl (g,[])
  have hjl:(r.tail.take k).length≤2000:=by rw [List.length_take];omega
  generalize joinL a (gi r 0) (r.tail.take k) (g,[])=J at *
  have hnt:=j1.nt
  have hone:=one140_PF hv j1 (by omega) (by omega) (fun n=>by have:=j1.preLen n;omega) (fun n=>by have:=j1.sucLen n;omega) hx hy
  have hol:=(oneG_ok j1 hx hy).2
  rw [←hyy] at hjt
  generalize oneG a J.1 (gi r 0) (gi r ((k:Int)+1))=O at *
  have hw:IntKind.i64.wrap ((k:Int)+1+1)=((k+1:Nat):Int)+1:=by rw [w64 (by omega) (by omega)];omega
  have hJl:J.2.length+O.2.length≤maxA:=by
   have:(r.tail.take k).length*(2*a.keys.length)≤2000*(2*2000):=Nat.mul_le_mul hjl (by omega)
   simp only [List.length_nil,Nat.zero_add] at j2
   unfold maxA;omega
  have hap:List.take (J.2.length*2) (fl prc J.2)++(O.2.map fun p=>[i64 p.1,i64 p.2]).flatten=fl prc (J.2++O.2):=fl_appL J.2 O.2
  have hfJ:J.2.length*2≤(fl prc J.2).length:=by rw [fl_len (f:=prc) (sz:=2) (by simp)];exact Nat.le_refl _
  have hk0:0≤(k:Int)+1:=by omega
  have hgoal:∀ q':Nat,∀ T',al (fun p=>Tm.get T' p.1=p.2) [(9,i64 (((k+1:Nat):Int)+1)),(8,.loc 3 q' 0 (J.2.length+O.2.length) 2 false),(6,.ptr 2 0 0),(4,.ptr 1 0 0),(3,.ptr 0 0 0),(2,ints r)]→∀ X:AHeap,KK .normal T' ([.cells 0 a.cs,.cells 0 O.1.cs,.cells 0 [.nilS,.nilS,.nilS,.nilS,.nilS,.nilS],.cells q' (fl prc (J.2++O.2))]++X):=fun q' T' hT' X =>
   kn _ _ (Kl_next (r.tail.length - (k+1)) 4 (by omega) ⟨k+1,q',rfl,by omega,rfl,rfl⟩ (by rw [hjt];simpa using hT') (by simp) (by rw [hjt];simp) ⟨rlb_kd,rlb_gr,rlb_nil6,rlb_fl,trivial⟩ (by omega))
  simp (maxSteps:=3000000) [go_sem,-List.length_flatten,-List.map_drop,-List.map_take,hl1,hr0,hk0]
  intros
  refine ⟨_,hone,?_⟩
  by_cases ho:O.2=[]
  ·simp (maxSteps:=3000000) [go_sem,-List.length_flatten,-List.map_drop,-List.map_take,Kc,ho,hw]
   intros
   have h:=hgoal q
   rw [ho,List.append_nil,List.length_nil,Nat.add_zero] at h
   exact h _ (by simp [Tm.get]) [_]
  ·simp (maxSteps:=3000000) [go_sem,-List.length_flatten,-List.map_drop,-List.map_take,Kc,ho,hw,hJl,hfJ,↓hap]
   intros
   exact hgoal (q+1) _ (by simp [Tm.get]) [_]
 ·have:k=r.tail.length:=by omega
  subst this
  rw [List.take_length]
  have hl1:¬ ((r.length - 1:Nat):Int)+1<r.length:=by omega
  generalize joinL a (gi r 0) r.tail (g,[])=J at *
  simp (maxSteps:=3000000) [go_sem,-List.length_flatten,-List.map_drop,-List.map_take,hl1,kx]
  intros
  rw [←hQ]
  exact Rle_grp rfl rfl
end
def c111b:AFn:=lit fun m o w i y z p n s t k q r d c f b e a=>⟨179,q (r [i 3 (.box (t 0)),i 4 (.box (t 1)),i 5 (.box (t 2)),i 6 (.alloc [.nilS,.nilS,.nilS,.nilS,.nilS,.nilS]),i 7 (.mov (.lit .nilS)),i 8 (.mov (.lit (.bool false)))]) (q (r [w 22 2 3,w 23 6 4,i 24 (.iarr 2 1 (t 5) (k 0)),o 25 24,i 26 (f 27 [t 22,t 23,t 25]),m 9 26]) (q (r [w 27 2 3,w 28 6 4,i 29 (.iarr 2 1 (t 5) (k 1)),o 30 29,i 31 (f 27 [t 27,t 28,t 30]),m 10 31]) (q (r [w 32 2 3,w 33 6 4,m 34 9,i 35 (f 34 [t 32,t 33,t 34]),m 11 35]) (q (r [w 36 2 3,w 37 6 4,m 38 10,i 39 (f 34 [t 36,t 37,t 38]),m 12 39]) (q (q (r [m 40 11,m 41 12,i 42 (e .eql 40 41)]) (c 42 (q (r [w 43 6 4,s (.store 6 (t 6) (t 43)),i 7 (.mov (.lit .nilS)),i 8 (.mov (.lit (.bool false)))]) .ret) .skip)) (q (r [i 13 (.mov (.lit .nilS))]) (q (q (r [m 44 11,i 45 (.bin .geq (t 44) (k 0)),m 46 45,y 47 12 46,p 48 (.bin .lss (t 47) (k 0)) 46,y 49 48 46,n 50 (.fa 0 (t 4)) 49,n 51 (.load 1 false (t 50)) 49,z 52 12 49,z 53 11 49,n 54 (f 25 [t 51,t 52,t 53]) 49,p 55 (.pick (t 49) (.lit (.bool true)) (t 54)) 46,i 56 (.pick (t 46) (t 55) (.lit (.bool false)))]) (c 56 (q (q .mark (r [w 57 2 3,w 58 6 4,m 59 10,m 60 11,i 61 (f 135 [t 57,t 58,t 59,t 60,.lit (.bool false)]),m 14 61])) (q (r [a 63 5 4,o 64 63,m 65 11,i 66 (.ia 1 (t 64) (t 65)),o 67 66,m 68 10,i 69 (f 136 [t 67,t 68]),m 62 69,i 70 (.ext (t 62) 0),i 71 (.ext (t 62) 1),m 15 70,m 16 71]) (q (q (r [m 72 14,i 73 (.not (t 72)),m 74 73,z 75 16 74,n 76 (.not (t 75)) 74,i 77 (.pick (t 74) (.lit (.bool true)) (t 76))]) (c 77 (q (r [w 78 6 4,s (.store 6 (t 6) (t 78)),i 7 (.mov (.lit .nilS)),i 8 (.mov (.lit (.bool false)))]) .ret) .skip)) (q (q (r [i 17 (.mov (k 0))]) (b 0 ((q (q (r [m 79 17,a 80 4 4,o 81 80,m 82 11,i 83 (.ia 1 (t 81) (t 82)),o 84 83,i 85 (.len (t 84)),i 86 (e .lss 79 85)]) (c 86 .skip (.exit 0))) (q (.block 1 (d [m 89 13,w 90 2 3,w 91 6 4,a 92 4 4,o 93 92,m 94 11,i 95 (.ia 1 (t 93) (t 94)),o 96 95,m 97 17,i 98 (.ia 1 (t 96) (t 97)),o 99 98,i 100 (f 27 [t 90,t 91,t 99]),m 101 10,i 102 (.build [.int .i64 0,.int .i64 0] [(0,1,t 100),(1,1,t 101)]),i 103 (.bslice 2 1 [.int .i64 0,.int .i64 0] [(0,t 102)]),i 104 (.app 2 16 (t 89) (t 103)),m 13 104])) (r [m 87 17,i 88 (.bin .add (t 87) (k 1)),m 17 88])))))) (q (d [a 105 0 4,o 106 105,a 107 1 4,w 108 3 107,a 109 4 4,o 110 109,a 111 5 4,o 112 111,m 113 11,m 114 15,i 115 (f 137 [t 112,t 113,t 114]),i 116 (.build [.nilS,.nilS,.nilS,.nilS,.nilS,.nilS] [(0,1,t 106),(1,3,t 108),(4,1,t 110),(5,1,t 115)]),m 117 13,s (.store 6 (t 6) (t 116)),m 7 117,i 8 (.mov (.lit (.bool true)))]) .ret))))) .skip)) (q (q .mark (r [w 118 2 3,w 119 6 4,m 120 9,m 121 12,i 122 (f 135 [t 118,t 119,t 120,t 121,.lit (.bool true)]),m 18 122])) (q (r [a 124 4 4,o 125 124,m 126 12,i 127 (.ia 1 (t 125) (t 126)),o 128 127,m 129 9,i 130 (f 136 [t 128,t 129]),m 123 130,i 131 (.ext (t 123) 0),i 132 (.ext (t 123) 1),m 19 131,m 20 132]) (q (q (r [m 133 18,i 134 (.not (t 133)),m 135 134,z 136 20 135,n 137 (.not (t 136)) 135,i 138 (.pick (t 135) (.lit (.bool true)) (t 137))]) (c 138 (q (r [w 139 6 4,s (.store 6 (t 6) (t 139)),i 7 (.mov (.lit .nilS)),i 8 (.mov (.lit (.bool false)))]) .ret) .skip)) (q (q (r [i 21 (.mov (k 0))]) (b 2 ((q (q (r [m 140 21,a 141 5 4,o 142 141,m 143 12,i 144 (.ia 1 (t 142) (t 143)),o 145 144,i 146 (.len (t 145)),i 147 (e .lss 140 146)]) (c 147 .skip (.exit 2))) (q (.block 3 (d [m 150 13,m 151 9,w 152 2 3,w 153 6 4,a 154 5 4,o 155 154,m 156 12,i 157 (.ia 1 (t 155) (t 156)),o 158 157,m 159 21,i 160 (.ia 1 (t 158) (t 159)),o 161 160,i 162 (f 27 [t 152,t 153,t 161]),i 163 (.build [.int .i64 0,.int .i64 0] [(0,1,t 151),(1,1,t 162)]),i 164 (.bslice 2 1 [.int .i64 0,.int .i64 0] [(0,t 163)]),i 165 (.app 2 16 (t 150) (t 164)),m 13 165])) (r [m 148 21,i 149 (.bin .add (t 148) (k 1)),m 21 149])))))) (q (d [a 166 0 4,o 167 166,a 168 1 4,w 169 3 168,a 170 4 4,o 171 170,m 172 12,m 173 19,i 174 (f 137 [t 171,t 172,t 173]),a 175 5 4,o 176 175,i 177 (.build [.nilS,.nilS,.nilS,.nilS,.nilS,.nilS] [(0,1,t 167),(1,3,t 169),(4,1,t 174),(5,1,t 176)]),m 178 13,s (.store 6 (t 6) (t 177)),m 7 178,i 8 (.mov (.lit (.bool true)))]) .ret)))))))))))),[.cell 6 6 true,.tmp 7,.tmp 8]⟩
def c79b:AFn:=lit fun m o w i y z p n s t k q r d c f b e a=>⟨91,q (r [i 1 (.box (t 0)),i 2 (.alloc [.nilS,.nilS,.nilS]),i 3 (.alloc [.int .i64 0,.int .i64 0]),i 4 (.mov (.lit (.bool false)))]) (q (q (r [a 11 0 1,o 12 11,i 13 (.len (t 12)),i 14 (.bin .eql (t 13) (k 0))]) (c 14 (q (r [w 15 3 1,i 16 (.build [.int .i64 0,.int .i64 0] []),s (.store 3 (t 2) (t 15)),s (.store 2 (t 3) (t 16)),i 4 (.mov (.lit (.bool false)))]) .ret) .skip)) (q (r [a 17 0 1,o 18 17,i 19 (.len (t 18)),i 20 (.bin .sub (t 19) (k 1)),m 5 20]) (q (r [a 21 0 1,o 22 21,m 23 5,i 24 (.ia 2 (t 22) (t 23)),w 25 2 24,i 6 (.alloc [.int .i64 0,.int .i64 0]),s (.store 2 (t 6) (t 25))]) (q (r [i 26 (.bslice 2 0 [.int .i64 0,.int .i64 0] []),a 27 0 1,o 28 27,m 29 5,i 30 (.slc 2 (t 28) none (some (t 29)) none),i 31 (.app 2 16 (t 26) (t 30)),m 7 31]) (q (q (r [m 32 5,i 33 (.bin .gtr (t 32) (k 0))]) (c 33 (r [m 34 7,w 35 2 6,i 36 (.ia 2 (t 34) (k 0)),s (.store 2 (t 36) (t 35))]) .skip)) (q (q .mark (r [i 8 (.mov (k 0))])) (q (b 0 ((q (q (r [m 37 8,i 38 (.bin .mul (k 2) (t 37)),i 39 (.bin .add (t 38) (k 1)),m 40 5,i 41 (e .lss 39 40)]) (c 41 .skip (.exit 0))) (.block 1 (q (r [m 42 8,i 43 (.bin .mul (k 2) (t 42)),i 44 (.bin .add (t 43) (k 1)),m 9 44]) (q (q (d [m 45 9,i 46 (.bin .add (t 45) (k 1)),m 47 5,i 48 (e .lss 46 47),m 49 48,y 50 7 49,y 51 9 49,p 52 (.bin .add (t 51) (k 1)) 49,p 53 (.ia 2 (t 50) (t 52)) 49,p 54 (.load 2 true (t 53)) 49,y 55 7 49,y 56 9 49,p 57 (.ia 2 (t 55) (t 56)) 49,p 58 (.load 2 true (t 57)) 49,p 59 (f 110 [t 54,t 58]) 49,i 60 (.pick (t 49) (t 59) (.lit (.bool false)))]) (c 60 (r [m 61 9,i 62 (.bin .add (t 61) (k 1)),m 9 62]) .skip)) (q (q .mark (d [m 63 7,m 64 9,i 65 (.ia 2 (t 63) (t 64)),w 66 2 65,w 67 2 6,i 68 (f 110 [t 66,t 67]),m 10 68])) (q (q (r [m 69 10,i 70 (.not (t 69))]) (c 70 (.exit 0) .skip)) (q (r [m 71 7,m 72 8,m 73 7,m 74 9,i 75 (.ia 2 (t 73) (t 74)),w 76 2 75,i 77 (.ia 2 (t 71) (t 72)),s (.store 2 (t 77) (t 76))]) (q (r [m 78 7,m 79 9,w 80 2 6,i 81 (.ia 2 (t 78) (t 79)),s (.store 2 (t 81) (t 80))]) (r [m 82 9,m 8 82]))))))))))) (q (.regD [m 83 7,a 84 1 1,w 85 2 84,i 86 (.build [.nilS,.nilS,.nilS] [(0,1,t 83),(1,2,t 85)]),a 87 0 1,o 88 87,i 89 (.ia 2 (t 88) (k 0)),w 90 2 89,s (.store 3 (t 2) (t 86)),s (.store 2 (t 3) (t 90)),i 4 (.mov (.lit (.bool true)))] [(a 87 0 1,s (.store 3 (t 2) (t 86))),(o 88 87,s (.store 3 (t 2) (t 86))),(i 89 (.ia 2 (t 88) (k 0)),s (.store 3 (t 2) (t 86))),(w 90 2 89,s (.store 3 (t 2) (t 86)))]) .ret)))))))),[.cell 2 3 true,.cell 3 2 true,.tmp 4]⟩
def an111:An:=⟨[],[9,18]⟩
theorem c111b_ok:cFn Tryz.prog an111 Tryz.f111=some c111b:=by kernel_rfl
section
variable {nv:Nat} {l:List Sg} {a:Kd} {g:Gr}
theorem Rle_grb {x:Gr} {H:AHeap} {i q n:Nat} {L:List (Int×Int)} {b:Bool} (h:H[i]?=some (.cells q (fl prc L))) (hn:n=L.length):Rle 9 (.tuple [.agg x.cs,prs L,.bool b]) (.tuple [.agg x.cs,.loc i q 0 n 2 false,.bool b]) H:=by
 unfold Rle
 rw [frz_tuple]
 simp only [List.map_cons,List.map_nil]
 rw [frzP (k:=6) _ h hn,show frz true H 8 (.agg x.cs)=.agg x.cs by simp,show frz true H 8 (.bool b)=.bool b from rfl]
 exact leP_refl _ _
theorem by_if {A B:Prop} (c:Prop) (h:(c→A)→B) (ha:c→A):B:=h ha
set_option maxHeartbeats 4000000 in
theorem addG111_PF (hv:Vok a nv) (hg:Gok l a nv g) (hn:nv≤1000) (hk:a.keys.length≤2000) (p:Int×Int) :
  PF Tryz.prog 111 [.agg a.cs,.agg g.cs,.agg [i64 p.1,i64 p.2]] (.tuple [.agg (addG a g p).1.cs,prs (addG a g p).2.1,.bool (addG a g p).2.2]):=by
 refine PFk 9 hm Tryz.func111 c111b_ok (Nat.le_of_ble_eq_true rfl) (by simp) (by simp) ?_
 generalize hQ:Rle 9 (.tuple [.agg (addG a g p).1.cs,prs (addG a g p).2.1,.bool (addG a g p).2.2])=Q
 have hvr:∀ z,0≤numOf a g z→numOf a g z<nv:=fun z hz=>(at_num hv hg.lv hz).1.2
 simp (maxSteps:=3000000) [go_sem,-List.length_flatten,-List.map_drop,-List.map_take,c111b,aIarr,aindex]
 refine PF.call (rep27_PF hv hg p.1) 9 (by simp [lePs,-List.length_flatten,-List.map_drop,-List.map_take,Function.comp_def,len_flat]) ?_
 simp (maxSteps:=3000000) [go_sem,-List.length_flatten,-List.map_drop,-List.map_take,Kc,aIarr,aindex]
 refine PF.call (rep27_PF hv hg p.2) 9 (by simp [lePs,-List.length_flatten,-List.map_drop,-List.map_take,Function.comp_def,len_flat]) ?_
 unfold addG at hQ
 generalize hx:repG a g p.1=x at *
 generalize hy:repG a g p.2=y at *
 simp (maxSteps:=3000000) [go_sem,-List.length_flatten,-List.map_drop,-List.map_take,Kc]
 refine PF.call (num34_PF a g x) 9 (by simp [lePs,-List.length_flatten,-List.map_drop,-List.map_take,Function.comp_def,len_flat]) ?_
 simp (maxSteps:=3000000) [go_sem,-List.length_flatten,-List.map_drop,-List.map_take,Kc]
 refine PF.call (num34_PF a g y) 9 (by simp [lePs,-List.length_flatten,-List.map_drop,-List.map_take,Function.comp_def,len_flat]) ?_
 have hvx:=hvr x
 have hvy:=hvr y
 have hm1:∀ z,0≤numOf a g z∨numOf a g z=-1:=fun z=>by
  by_cases q:(termAt a z).1.kind=2
  ·left;rw [numOf_var hv hg.lv q];exact (hv.sym z q).1.1
  ·exact .inr (numOf_not q)
 have hvx1:=hm1 x
 have hvy1:=hm1 y
 have hmB:=may135_PF a g x (numOf a g y) true
 have hmA:=may135_PF a g y (numOf a g x) false
 generalize numOf a g x=v at *
 generalize numOf a g y=w at *
 by_cases e:v=w
 ·rw [if_pos e] at hQ
  simp (maxSteps:=3000000) [go_sem,-List.length_flatten,-List.map_drop,-List.map_take,Kc,e]
  rw [←hQ]
  simp (maxSteps:=3000000) [go_sem,-List.length_flatten,-List.map_drop,-List.map_take]
 rw [if_neg e] at hQ
 refine by_if (A:=?A) (0≤v∧(w<0∨lessR g.ranks w v=true)) (fun keyA=>?mainA) ?subA
 case mainA =>
  refine by_if (A:=?B) (¬ (0≤v∧(w<0∨lessR g.ranks w v=true))) (fun keyB=>?mainB) ?subB
  case mainB =>
   by_cases h0:0≤v
   ·by_cases h1:w<0
    ·simp (maxSteps:=3000000) [go_sem,-List.length_flatten,-List.map_drop,-List.map_take,Kc,e,h0,h1]
     refine run_markT [(9,i64 x),(10,i64 y),(11,i64 v),(12,i64 w),(13,.nilS),(3,.ptr 0 0 0),(4,.ptr 1 0 0),(5,.ptr 2 0 0),(6,.ptr 3 0 0)] [.cells 0 a.cs,.cells 0 g.cs,.cells 0 [i64 p.1,i64 p.2],.cells 0 [.nilS,.nilS,.nilS,.nilS,.nilS,.nilS]] (Wk.sub (by simp [Tm.get])) ?_
     exact keyA ⟨h0,.inl h1⟩
    ·simp (maxSteps:=3000000) [go_sem,-List.length_flatten,-List.map_drop,-List.map_take,Kc,e,h0,h1]
     refine PF.call (less25_PF g.ranks w v) 9 (by simp [lePs,-List.length_flatten,-List.map_drop,-List.map_take,Function.comp_def,len_flat]) ?_
     cases hl:lessR g.ranks w v with
     | true =>
      simp (maxSteps:=3000000) [go_sem,-List.length_flatten,-List.map_drop,-List.map_take,Kc]
      refine run_markT [(9,i64 x),(10,i64 y),(11,i64 v),(12,i64 w),(13,.nilS),(3,.ptr 0 0 0),(4,.ptr 1 0 0),(5,.ptr 2 0 0),(6,.ptr 3 0 0)] [.cells 0 a.cs,.cells 0 g.cs,.cells 0 [i64 p.1,i64 p.2],.cells 0 [.nilS,.nilS,.nilS,.nilS,.nilS,.nilS]] (Wk.sub (by simp [Tm.get])) ?_
      exact keyA ⟨h0,.inr hl⟩
     | false =>
      simp (maxSteps:=3000000) [go_sem,-List.length_flatten,-List.map_drop,-List.map_take,Kc]
      refine run_markT [(9,i64 x),(10,i64 y),(11,i64 v),(12,i64 w),(13,.nilS),(3,.ptr 0 0 0),(4,.ptr 1 0 0),(5,.ptr 2 0 0),(6,.ptr 3 0 0)] [.cells 0 a.cs,.cells 0 g.cs,.cells 0 [i64 p.1,i64 p.2],.cells 0 [.nilS,.nilS,.nilS,.nilS,.nilS,.nilS]] (Wk.sub (by simp [Tm.get])) ?_
      exact keyB fun h=>by
       rcases h.2 with h|h
       ·exact h1 h
       ·rw [hl] at h;cases h
   ·simp (maxSteps:=3000000) [go_sem,-List.length_flatten,-List.map_drop,-List.map_take,Kc,e,h0]
    refine run_markT [(9,i64 x),(10,i64 y),(11,i64 v),(12,i64 w),(13,.nilS),(3,.ptr 0 0 0),(4,.ptr 1 0 0),(5,.ptr 2 0 0),(6,.ptr 3 0 0)] [.cells 0 a.cs,.cells 0 g.cs,.cells 0 [i64 p.1,i64 p.2],.cells 0 [.nilS,.nilS,.nilS,.nilS,.nilS,.nilS]] (Wk.sub (by simp [Tm.get])) ?_
    exact keyB fun h=>h0 h.1
  case subB =>
   intro hb
   rw [if_neg hb] at hQ
   have hw:0≤w∧w<nv:=by
    have:0≤w:=by
     rcases hvy1 with q|q
     ·exact q
     ·exfalso
      rcases hvx1 with q'|q'
      ·exact hb ⟨q',.inl (by omega)⟩
      ·exact e (by omega)
    exact ⟨this,hvy this⟩
   have hwp:w<g.pre.length:=by rw [hg.lp];exact hw.2
   have hws:w<g.suc.length:=by rw [hg.ls];exact hw.2
   have hwl:=with137_PF g.pre (n:=w) (by rw [hg.lp];exact hw) (layI (gi g.pre w) x) (by rw [hg.lp];omega)
   have hpl:=hg.preLen w
   have hsl:=hg.sucLen w
   have hla:=lay136_PF (gi g.pre w) (hg.sp w hw) x (by omega)
   simp (maxSteps:=3000000) [go_sem,-List.length_flatten,-List.map_drop,-List.map_take]
   refine PF.call hmB 9 (by simp [lePs,-List.length_flatten,-List.map_drop,-List.map_take,Function.comp_def,len_flat]) ?_
   simp (maxSteps:=3000000) [go_sem,-List.length_flatten,-List.map_drop,-List.map_take,Kc,hw,hwp]
   intros
   refine PF.call hla 9 (by simp [lePs,-List.length_flatten,-List.map_drop,-List.map_take,Function.comp_def,len_flat]) ?_
   generalize hmg:mayG a g x w true=bm at *
   by_cases hmem:x∈gi g.pre w
   ·rw [if_neg fun q=>q.2 hmem] at hQ
    cases bm with
    | false =>
     simp (maxSteps:=3000000) [go_sem,-List.length_flatten,-List.map_drop,-List.map_take,Kc,hmem]
     rw [←hQ]
     simp (maxSteps:=3000000) [go_sem,-List.length_flatten,-List.map_drop,-List.map_take]
    | true =>
     simp (maxSteps:=3000000) [go_sem,-List.length_flatten,-List.map_drop,-List.map_take,Kc,hmem]
     rw [←hQ]
     simp (maxSteps:=3000000) [go_sem,-List.length_flatten,-List.map_drop,-List.map_take]
   ·cases bm with
    | false =>
     rw [if_neg fun q=>by cases q.1] at hQ
     simp (maxSteps:=3000000) [go_sem,-List.length_flatten,-List.map_drop,-List.map_take,Kc,hmem]
     rw [←hQ]
     simp (maxSteps:=3000000) [go_sem,-List.length_flatten,-List.map_drop,-List.map_take]
    | true =>
     rw [if_pos ⟨rfl,hmem⟩] at hQ
     simp (maxSteps:=3000000) [go_sem,-List.length_flatten,-List.map_drop,-List.map_take,Kc,hmem]
     generalize hG':(⟨g.ranks,g.u,g.pre.set w.toNat (layI (gi g.pre w) x),g.suc⟩:Gr)=g' at *
     have hcs:g'.cs=[ints g.ranks,ints g.u.v,prs g.u.notes,ints g.u.marks,intss (g.pre.set w.toNat (layI (gi g.pre w) x)),intss g.suc]:=by rw [←hG'];rfl
     generalize hnr:layI (gi g.pre w) x=NR at *
     refine run_loopK (fun m T H=>∃ k q:Nat,m=(gi g.suc w).length - k∧k≤(gi g.suc w).length∧T=[(21,i64 k),(13,.loc 4 q 0 k 2 false),(19,ints NR),(12,i64 w),(9,i64 x),(3,.ptr 0 0 0),(4,.ptr 1 0 0),(6,.ptr 3 0 0)]∧H=[.cells 0 a.cs,.cells 0 g.cs,.cells 0 [i64 p.1,i64 p.2],.cells 0 [.nilS,.nilS,.nilS,.nilS,.nilS,.nilS],.cells q (fl prc (((gi g.suc w).take k).map fun z=>(x,repG a g z)))])
      (gi g.suc w).length [(21,i64 0),(13,.loc 4 0 0 0 2 false),(19,ints NR),(12,i64 w),(9,i64 x),(3,.ptr 0 0 0),(4,.ptr 1 0 0),(6,.ptr 3 0 0)] [.cells 0 a.cs,.cells 0 g.cs,.cells 0 [i64 p.1,i64 p.2],.cells 0 [.nilS,.nilS,.nilS,.nilS,.nilS,.nilS],.cells 0 []]
      ((Wk.nil 13 2 (by simp [Tm.get])).trans (Wk.tell 5 (by omega) (by simp [Tm.get]) (by simp) rfl ⟨rlb_kd,rlb_gr,by simp [RLB],rlb_nil6,by simp [RLB],trivial⟩)) ⟨0,0,rfl,Nat.zero_le _,rfl,by simp [fl]⟩ ?_
     rintro m T H ⟨k,q,rfl,hk2,rfl,rfl⟩ KK kx kr kn
     by_cases hl:k<(gi g.suc w).length
     ·have hA:k+1≤maxA:=by unfold maxA;omega
      have hmt:=map_take1 (fun z=>(x,repG a g z)) hl
      have hlen:(((gi g.suc w).take k).map fun z=>(x,repG a g z)).length=k:=by simp;omega
      have hap:=fl_appP (((gi g.suc w).take k).map fun z=>(x,repG a g z)) x (repG a g (gi (gi g.suc w) k))
      rw [hlen,←hmt] at hap
      have hfl2:=fl_len (f:=prc) (sz:=2) (by simp) (((gi g.suc w).take k).map fun z=>(x,repG a g z))
      rw [hlen] at hfl2
      generalize hC:fl prc (((gi g.suc w).take k).map fun z=>(x,repG a g z))=C at *
      simp (maxSteps:=3000000) [go_sem,-List.length_flatten,-List.map_drop,-List.map_take,hw,hws,hl]
      intros
      refine ⟨_,rep27_PF hv hg (gi (gi g.suc w) k),?_⟩
      simp (maxSteps:=3000000) [go_sem,-List.length_flatten,-List.map_drop,-List.map_take,Kc,hA,hfl2,↓hap]
      intros
      refine kn _ _ (Kl_next ((gi g.suc w).length - (k+1)) 5 (by omega) ⟨k+1,q+1,rfl,by omega,rfl,rfl⟩ (by simp [Tm.get,nxt hl ‹_›]) (by simp) rfl ⟨rlb_kd,rlb_gr,by simp [RLB],rlb_nil6,rlb_fl,trivial⟩ (by omega))
     ·have:k=(gi g.suc w).length:=by omega
      subst this
      rw [List.take_length]
      simp (maxSteps:=3000000) [go_sem,-List.length_flatten,-List.map_drop,-List.map_take,hw,hws,kx]
      intros
      refine ⟨_,hwl,?_⟩
      simp (maxSteps:=3000000) [go_sem,-List.length_flatten,-List.map_drop,-List.map_take,Kc]
      rw [←hQ]
      have:=Rle_grb (x:=g') (H:=[.cells 0 a.cs,.cells 0 g.cs,.cells 0 [i64 p.1,i64 p.2],.cells 0 g'.cs,.cells q (fl prc ((gi g.suc w).map fun z=>(x,repG a g z)))]) (i:=4) (q:=q) (n:=(gi g.suc w).length) (b:=true) rfl (by simp)
      simp only [hcs] at this ⊢
      exact this
 case subA =>
  intro hb
  rw [if_pos hb] at hQ
  have hw:0≤v∧v<nv:=⟨hb.1,hvx hb.1⟩
  have hwp:v<g.pre.length:=by rw [hg.lp];exact hw.2
  have hws:v<g.suc.length:=by rw [hg.ls];exact hw.2
  have hwl:=with137_PF g.suc (n:=v) (by rw [hg.ls];exact hw) (layI (gi g.suc v) y) (by rw [hg.ls];omega)
  have hpl:=hg.preLen v
  have hsl:=hg.sucLen v
  have hla:=lay136_PF (gi g.suc v) (hg.ss v hw) y (by omega)
  simp (maxSteps:=3000000) [go_sem,-List.length_flatten,-List.map_drop,-List.map_take]
  refine PF.call hmA 9 (by simp [lePs,-List.length_flatten,-List.map_drop,-List.map_take,Function.comp_def,len_flat]) ?_
  simp (maxSteps:=3000000) [go_sem,-List.length_flatten,-List.map_drop,-List.map_take,Kc,hw,hws]
  intros
  refine PF.call hla 9 (by simp [lePs,-List.length_flatten,-List.map_drop,-List.map_take,Function.comp_def,len_flat]) ?_
  generalize hmg:mayG a g y v false=bm at *
  by_cases hmem:y∈gi g.suc v
  ·rw [if_neg fun q=>q.2 hmem] at hQ
   cases bm with
   | false =>
    simp (maxSteps:=3000000) [go_sem,-List.length_flatten,-List.map_drop,-List.map_take,Kc,hmem]
    rw [←hQ]
    simp (maxSteps:=3000000) [go_sem,-List.length_flatten,-List.map_drop,-List.map_take]
   | true =>
    simp (maxSteps:=3000000) [go_sem,-List.length_flatten,-List.map_drop,-List.map_take,Kc,hmem]
    rw [←hQ]
    simp (maxSteps:=3000000) [go_sem,-List.length_flatten,-List.map_drop,-List.map_take]
  ·cases bm with
   | false =>
    rw [if_neg fun q=>by cases q.1] at hQ
    simp (maxSteps:=3000000) [go_sem,-List.length_flatten,-List.map_drop,-List.map_take,Kc,hmem]
    rw [←hQ]
    simp (maxSteps:=3000000) [go_sem,-List.length_flatten,-List.map_drop,-List.map_take]
   | true =>
    rw [if_pos ⟨rfl,hmem⟩] at hQ
    simp (maxSteps:=3000000) [go_sem,-List.length_flatten,-List.map_drop,-List.map_take,Kc,hmem]
    generalize hG':(⟨g.ranks,g.u,g.pre,g.suc.set v.toNat (layI (gi g.suc v) y)⟩:Gr)=g' at *
    have hcs:g'.cs=[ints g.ranks,ints g.u.v,prs g.u.notes,ints g.u.marks,intss g.pre,intss (g.suc.set v.toNat (layI (gi g.suc v) y))]:=by rw [←hG'];rfl
    generalize hnr:layI (gi g.suc v) y=NR at *
    refine run_loopK (fun m T H=>∃ k q:Nat,m=(gi g.pre v).length - k∧k≤(gi g.pre v).length∧T=[(17,i64 k),(13,.loc 4 q 0 k 2 false),(15,ints NR),(11,i64 v),(10,i64 y),(3,.ptr 0 0 0),(4,.ptr 1 0 0),(6,.ptr 3 0 0)]∧H=[.cells 0 a.cs,.cells 0 g.cs,.cells 0 [i64 p.1,i64 p.2],.cells 0 [.nilS,.nilS,.nilS,.nilS,.nilS,.nilS],.cells q (fl prc (((gi g.pre v).take k).map fun z=>(repG a g z,y)))])
     (gi g.pre v).length [(17,i64 0),(13,.loc 4 0 0 0 2 false),(15,ints NR),(11,i64 v),(10,i64 y),(3,.ptr 0 0 0),(4,.ptr 1 0 0),(6,.ptr 3 0 0)] [.cells 0 a.cs,.cells 0 g.cs,.cells 0 [i64 p.1,i64 p.2],.cells 0 [.nilS,.nilS,.nilS,.nilS,.nilS,.nilS],.cells 0 []]
     ((Wk.nil 13 2 (by simp [Tm.get])).trans (Wk.tell 5 (by omega) (by simp [Tm.get]) (by simp) rfl ⟨rlb_kd,rlb_gr,by simp [RLB],rlb_nil6,by simp [RLB],trivial⟩)) ⟨0,0,rfl,Nat.zero_le _,rfl,by simp [fl]⟩ ?_
    rintro m T H ⟨k,q,rfl,hk2,rfl,rfl⟩ KK kx kr kn
    by_cases hl:k<(gi g.pre v).length
    ·have hA:k+1≤maxA:=by unfold maxA;omega
     have hmt:=map_take1 (fun z=>(repG a g z,y)) hl
     have hlen:(((gi g.pre v).take k).map fun z=>(repG a g z,y)).length=k:=by simp;omega
     have hap:=fl_appP (((gi g.pre v).take k).map fun z=>(repG a g z,y)) (repG a g (gi (gi g.pre v) k)) y
     rw [hlen,←hmt] at hap
     have hfl2:=fl_len (f:=prc) (sz:=2) (by simp) (((gi g.pre v).take k).map fun z=>(repG a g z,y))
     rw [hlen] at hfl2
     generalize hC:fl prc (((gi g.pre v).take k).map fun z=>(repG a g z,y))=C at *
     simp (maxSteps:=3000000) [go_sem,-List.length_flatten,-List.map_drop,-List.map_take,hw,hwp,hl]
     intros
     refine ⟨_,rep27_PF hv hg (gi (gi g.pre v) k),?_⟩
     simp (maxSteps:=3000000) [go_sem,-List.length_flatten,-List.map_drop,-List.map_take,Kc,hA,hfl2,↓hap]
     intros
     refine kn _ _ (Kl_next ((gi g.pre v).length - (k+1)) 5 (by omega) ⟨k+1,q+1,rfl,by omega,rfl,rfl⟩ (by simp [Tm.get,nxt hl ‹_›]) (by simp) rfl ⟨rlb_kd,rlb_gr,by simp [RLB],rlb_nil6,rlb_fl,trivial⟩ (by omega))
    ·have:k=(gi g.pre v).length:=by omega
     subst this
     rw [List.take_length]
     simp (maxSteps:=3000000) [go_sem,-List.length_flatten,-List.map_drop,-List.map_take,hw,hwp,kx]
     intros
     refine ⟨_,hwl,?_⟩
     simp (maxSteps:=3000000) [go_sem,-List.length_flatten,-List.map_drop,-List.map_take,Kc]
     rw [←hQ]
     have:=Rle_grb (x:=g') (H:=[.cells 0 a.cs,.cells 0 g.cs,.cells 0 [i64 p.1,i64 p.2],.cells 0 g'.cs,.cells q (fl prc ((gi g.pre v).map fun z=>(repG a g z,y)))]) (i:=4) (q:=q) (n:=(gi g.pre v).length) (b:=true) rfl (by simp)
     simp only [hcs] at this ⊢
     exact this
end
theorem pr2:∀ x:Int×Int,(prc x).length=2:=fun _=>rfl
theorem pr_load {s:List (Int×Int)} {q:Nat} (h:q<s.length):loadCs 2 true ((fl prc s).drop (q*2))=some (.agg [i64 (gi s q).1,i64 (gi s q).2]):=by
 have e:s=s.take q++gi s q::s.drop (q+1):=by
  have:gi s q=s[q]:=by simp [gi,List.getD,h]
  rw [this,←List.drop_eq_getElem_cons h,List.take_append_drop]
 have hl:(s.take q).length=q:=by simp;omega
 have:=load_fl pr2 (s.take q) (s.drop (q+1)) (gi s q)
 rw [hl,←e] at this
 exact this
theorem putAt_mid:∀ (vs pre old rest:List AV),old.length=vs.length→putAt (pre++(old++rest)) pre.length vs=pre++(vs++rest)
 | [],pre,old,rest,h=>by
  have:old=[]:=List.eq_nil_of_length_eq_zero (by simpa using h)
  subst this
  rfl
 | v::vs,pre,[],rest,h=>by simp at h
 | v::vs,pre,r::old,rest,h=>by
  simp only [putAt]
  have e:(pre++(r::old++rest)).set pre.length v=(pre++[v])++(old++rest):=by simp [List.set_append]
  rw [e,show pre.length+1=(pre++[v]).length by simp,putAt_mid vs (pre++[v]) old rest (by simpa using h)]
  simp
theorem putAt_fl {α:Type} {sz:Nat} {f:α→List AV} (h:∀ x,(f x).length=sz) {l:List α} {k:Nat} (hk:k<l.length) (v:α):putAt (fl f l) (k*sz) (f v)=fl f (l.set k v):=by
 have e1:l=l.take k++l[k]::l.drop (k+1):=by
  conv=>lhs;rw [←List.take_append_drop k l,List.drop_eq_getElem_cons hk]
 have e2:l.set k v=l.take k++v::l.drop (k+1):=by rw [List.set_eq_take_append_cons_drop,if_pos hk]
 have e3:fl f l=fl f (l.take k)++(f l[k]++fl f (l.drop (k+1))):=by
  conv=>lhs;rw [e1]
  rw [fl_app,fl_cons]
 have e4:(fl f (l.take k)).length=k*sz:=by rw [fl_len h,List.length_take,Nat.min_eq_left (by omega)]
 rw [e3,e2,fl_app,fl_cons,←e4]
 exact putAt_mid _ _ _ _ (by rw [h,h])
theorem pr_put {s:List (Int×Int)} {q:Nat} (h:q<s.length) (v:Int×Int):putAt (fl prc s) (q*2) [i64 v.1,i64 v.2]=fl prc (s.set q v):=putAt_fl pr2 h v
theorem c82_ok:cFn Tryz.prog an0 Tryz.f82=some c82:=by kernel_rfl
theorem c114_ok:cFn Tryz.prog an0 Tryz.f114=some c114:=by kernel_rfl
def an79:An:=⟨[],[8,13]⟩
theorem c79b_ok:cFn Tryz.prog an79 Tryz.f79=some c79b:=by kernel_rfl
theorem new82_PF:PF Tryz.prog 82 [] (.agg newW.cs):=by
 refine PFk 9 hm Tryz.func82 c82_ok (Nat.le_of_ble_eq_true rfl) (by simp) (by simp) ?_
 simp (maxSteps:=3000000) [go_sem,-List.length_flatten,-List.map_drop,-List.map_take,c82]
 refine PF.call (lay_PF [] (by simp)) 9 (by simp [lePs,leP]) ?_
 simp (maxSteps:=3000000) [go_sem,-List.length_flatten,-List.map_drop,-List.map_take,Kc]
 simp [newW]
theorem rlb_qu {n g:Nat} {w:Qu}:RLB n (.cells g w.cs):=by simp [RLB]
theorem Rle_qub {a:Kd} {H:AHeap} {i q n:Nat} {L:List (Int×Int)} (h:H[i]?=some (.cells q (fl prc L))) (hn:n=L.length):Rle 9 (.tuple [.agg (Qu.mk L a).cs,.bool true]) (.tuple [.agg [.loc i q 0 n 2 false,intss a.keys,ints a.slots],.bool true]) H:=by
 unfold Rle
 rw [frz_tuple]
 simp only [List.map_cons,List.map_nil]
 rw [frz_agg]
 simp only [List.map_cons,List.map_nil]
 rw [frzP (k:=5) _ h hn,show frz true H 7 (intss a.keys)=intss a.keys by simp,show frz true H 7 (ints a.slots)=ints a.slots by simp,show frz true H 8 (.bool true)=.bool true from rfl]
 exact leP_refl _ _
set_option maxHeartbeats 2000000 in
theorem put114_PF (w:Qu) (hk:w.seen.keys.length<1048576) (hl:w.l.length≤1000000) (p:Int×Int):PF Tryz.prog 114 [.agg w.cs,.agg [i64 p.1,i64 p.2]] (.tuple [.agg (putW w p).1.cs,.bool (putW w p).2]):=by
 refine PFk 9 hm Tryz.func114 c114_ok (Nat.le_of_ble_eq_true rfl) (by simp) (by simp) ?_
 generalize hQ:Rle 9 (.tuple [.agg (putW w p).1.cs,.bool (putW w p).2])=Q
 have hput:=rput_PF w.seen hk [p.1,p.2]
 have hAA:w.l.length+1≤maxA:=by unfold maxA;omega
 have hA0:w.l.length≤maxA:=by unfold maxA;omega
 have h1A:1≤maxA:=by unfold maxA;omega
 unfold putW at hQ
 have hap:List.take (w.l.length*2) (w.l.map fun p=>[i64 p.1,i64 p.2]).flatten++[i64 p.1,i64 p.2]=fl prc (w.l++[p]):=prs_appT w.l p.1 p.2
 simp (maxSteps:=3000000) [go_sem,-List.length_flatten,-List.map_drop,-List.map_take,c114,aIarr,aindex]
 refine PF.call hput 9 (by simp [lePs,-List.length_flatten,-List.map_drop,-List.map_take,Function.comp_def,len_flat]) ?_
 generalize putK w.seen [p.1,p.2]=P at *
 cases hb:P.2.2 with
 | false =>
  simp (maxSteps:=3000000) [go_sem,-List.length_flatten,-List.map_drop,-List.map_take,Kc,hb,aIarr,aindex]
  rw [←hQ,if_neg (by rw [hb];simp)]
  simp (maxSteps:=3000000) [go_sem,-List.length_flatten,-List.map_drop,-List.map_take]
 | true =>
  rw [if_pos hb] at hQ
  simp only [hb] at hQ
  obtain ⟨I,hI⟩:∃ I:Nat→Tm→AHeap→Prop,I=fun m T H=>∃ (f q:Nat) (L:List (Int×Int)) (i:Nat),i=m∧i≤f∧i<L.length∧L.length=w.l.length+1∧siftU p f L i=siftU p w.l.length (w.l++[p]) w.l.length∧T=[(10,i64 i),(9,.loc 4 q 0 (w.l.length+1) 2 false),(6,.ptr 3 0 0),(4,.ptr 2 0 0),(3,.ptr 1 0 0),(2,.ptr 0 0 0)]∧H=[.cells 0 w.cs,.cells 0 [i64 p.1,i64 p.2],.cells 0 [.nilS,.nilS,.nilS],.cells 0 P.1.cs,.cells q (fl prc L)]:=⟨_,rfl⟩
  refine by_way (A:=?A) (fun key=>?main) ?sub
  case main =>
   have hIi:∀ q,I w.l.length [(10,i64 w.l.length),(9,.loc 4 q 0 (w.l.length+1) 2 false),(6,.ptr 3 0 0),(4,.ptr 2 0 0),(3,.ptr 1 0 0),(2,.ptr 0 0 0)] [.cells 0 w.cs,.cells 0 [i64 p.1,i64 p.2],.cells 0 [.nilS,.nilS,.nilS],.cells 0 P.1.cs,.cells q (fl prc (w.l++[p]))]:=fun q=>by
    rw [hI]
    exact ⟨w.l.length,q,w.l++[p],w.l.length,rfl,Nat.le_refl _,by simp,by simp,rfl,rfl,rfl⟩
   by_cases h0:w.l=[]
   ·have hw0:w.l.length=0:=by rw [h0];rfl
    simp (maxSteps:=3000000) [go_sem,-List.length_flatten,-List.map_drop,-List.map_take,Kc,hb,aIarr,aindex,h0,hAA,hA0,h1A,indB,apartB,apartS,aliveRd,refA]
    refine run_loopK I w.l.length [(10,i64 w.l.length),(9,.loc 4 0 0 (w.l.length+1) 2 false),(6,.ptr 3 0 0),(4,.ptr 2 0 0),(3,.ptr 1 0 0),(2,.ptr 0 0 0)] [.cells 0 w.cs,.cells 0 [i64 p.1,i64 p.2],.cells 0 [.nilS,.nilS,.nilS],.cells 0 P.1.cs,.cells 0 (fl prc (w.l++[p]))] (Wk.tell 5 (by omega) (by simp [Tm.get,hw0]) (by simp) (by simp [h0,fl]) ⟨rlb_qu,by simp [RLB],by simp [RLB],rlb_kd,rlb_fl,trivial⟩) (hIi 0) ?_
    exact key ()
   ·simp (maxSteps:=3000000) [go_sem,-List.length_flatten,-List.map_drop,-List.map_take,Kc,hb,aIarr,aindex,h0,hAA,hA0,h1A,↓hap,indB,apartB,apartS,aliveRd,refA]
    refine run_loopK I w.l.length [(10,i64 w.l.length),(9,.loc 4 1 0 (w.l.length+1) 2 false),(6,.ptr 3 0 0),(4,.ptr 2 0 0),(3,.ptr 1 0 0),(2,.ptr 0 0 0)] [.cells 0 w.cs,.cells 0 [i64 p.1,i64 p.2],.cells 0 [.nilS,.nilS,.nilS],.cells 0 P.1.cs,.cells 1 (fl prc (w.l++[p]))] (Wk.tell 5 (by omega) (by simp [Tm.get]) (by simp) (by simp) ⟨rlb_qu,by simp [RLB],by simp [RLB],rlb_kd,rlb_fl,trivial⟩) (hIi 1) ?_
    exact key ()
  case sub =>
   intro m T H h
   have h':=h
   rw [hI] at h'
   obtain ⟨f,q,L,i,rfl,hif,hiL,hLl,hsi,rfl,rfl⟩:=h'
   intro KK kx kr kn
   have hfl2:=fl_len (f:=prc) (sz:=2) pr2 L
   have hfin:∀ (q:Nat) (L:List (Int×Int)),siftU p w.l.length (w.l++[p]) w.l.length=L→L.length=w.l.length+1→Q (.tuple [.agg [.loc 4 q 0 (w.l.length+1) 2 false,intss P.1.keys,ints P.1.slots],.bool true]) [.cells 0 (prs w.l::w.seen.cs),.cells 0 [i64 p.1,i64 p.2],.cells 0 [.loc 4 q 0 (w.l.length+1) 2 false,intss P.1.keys,ints P.1.slots],.cells 0 P.1.cs,.cells q (fl prc L)]:=by
    intro q L h1 h2
    rw [←hQ,h1]
    exact Rle_qub rfl h2.symm
   by_cases hi0:0<i
   ·have hq:(i - 1)/2<L.length:=by omega
    have hq2:(i - 1)/2<w.l.length+1:=by omega
    have hld:=pr_load hq
    have hi0':(0:Int)<i:=by omega
    have hi1:IntKind.i64.wrap ((i:Int) - 1)=((i - 1:Nat):Int):=by rw [w64 (by omega) (by omega)];omega
    obtain ⟨f',rfl⟩:∃ f',f=f'+1:=⟨f - 1,by omega⟩
    have hqw:IntKind.i64.wrap (((i - 1:Nat):Int)/2)=(((i - 1)/2:Nat):Int):=by
     rw [w64 (by omega) (by omega)];omega
    have hq3:(((i - 1)/2:Nat):Int)<(w.l.length:Int)+1:=by omega
    have hq4:2≤(w.l.length+1)*2 - (i - 1)/2*2:=by omega
    have hi3:(i:Int)<(w.l.length:Int)+1:=by omega
    have hi4:i*2+2≤(w.l.length+1)*2:=by omega
    have hp1:=pr_put hiL (gi L ((i - 1)/2:Nat))
    have hL2:(L.set i (gi L ((i - 1)/2:Nat))).length=L.length:=List.length_set
    have hp2:=pr_put (s:=L.set i (gi L ((i - 1)/2:Nat))) (q:=(i - 1)/2) (by rw [hL2];exact hq) p
    have hu:siftU p (f'+1) L i=if lessP p (gi L ((i - 1)/2:Nat))=true then siftU p f' ((L.set i (gi L ((i - 1)/2:Nat))).set ((i - 1)/2) p) ((i - 1)/2) else L:=by
     rw [siftU]
     by_cases hh:lessP p (gi L ((i - 1)/2:Nat))=true
     ·rw [if_pos ⟨hi0,hh⟩,if_pos hh]
     ·rw [if_neg fun q=>hh q.2,if_neg hh]
    generalize hup:(i - 1)/2=up at *
    simp (maxSteps:=3000000) [go_sem,-List.length_flatten,-List.map_drop,-List.map_take,hi0,hi0',hi1,hqw,↓hld,hfl2,hLl,hq3,hq4]
    intros
    refine ⟨_,lessP110_PF p (gi L up),?_⟩
    cases hless:lessP p (gi L up) with
    | false =>
     rw [if_neg (by rw [hless];simp)] at hu
     simp (maxSteps:=3000000) [go_sem,-List.length_flatten,-List.map_drop,-List.map_take,Kc,hless,kx]
     exact hfin q L (by rw [←hsi,hu]) hLl
    | true =>
     rw [if_pos hless] at hu
     simp (maxSteps:=3000000) [go_sem,-List.length_flatten,-List.map_drop,-List.map_take,Kc,hless,↓hld,hq3,hq4,hi3,hi4,hfl2,hLl,↓hp1,↓hp2]
     intros
     have hfl3:=fl_len (f:=prc) (sz:=2) pr2 (L.set i (gi L (up:Nat)))
     refine ⟨by rw [hfl3,hL2];omega,kn _ _ (Kl_next (T':=[(10,i64 up),(9,.loc 4 q 0 (w.l.length+1) 2 false),(6,.ptr 3 0 0),(4,.ptr 2 0 0),(3,.ptr 1 0 0),(2,.ptr 0 0 0)]) (H':=[.cells 0 w.cs,.cells 0 [i64 p.1,i64 p.2],.cells 0 [.nilS,.nilS,.nilS],.cells 0 P.1.cs,.cells q (fl prc ((L.set i (gi L (up:Nat))).set up p))]) up 5 (by omega) ?_ (by simp [Tm.get]) (by simp) (by simp) ⟨rlb_qu,by simp [RLB],by simp [RLB],rlb_kd,rlb_fl,trivial⟩ (by omega))⟩
     rw [hI]
     exact ⟨f',q,_,up,rfl,by omega,by rw [List.length_set,hL2];omega,by rw [List.length_set,hL2,hLl],by rw [←hu,hsi],rfl,rfl⟩
   ·have hz:i=0:=by omega
    subst hz
    have he:siftU p f L 0=L:=by cases f<;>simp [siftU]
    simp (maxSteps:=3000000) [go_sem,-List.length_flatten,-List.map_drop,-List.map_take,kx]
    exact hfin q L (by rw [←hsi,he]) hLl
theorem kidP_eq {l:List (Int×Int)} {n i:Nat}:kidP l n i=if 2*i+2<n∧lessP (gi l (2*i+2:Nat)) (gi l (2*i+1:Nat))=true then 2*i+2 else 2*i+1:=rfl
theorem Rle_qup {a:Kd} {p:Int×Int} {H:AHeap} {i q n:Nat} {L:List (Int×Int)} (h:H[i]?=some (.cells q (fl prc L))) (hn:n=L.length):Rle 9 (.tuple [.agg (Qu.mk L a).cs,.agg [i64 p.1,i64 p.2],.bool true]) (.tuple [.agg [.loc i q 0 n 2 false,intss a.keys,ints a.slots],.agg [i64 p.1,i64 p.2],.bool true]) H:=by
 unfold Rle
 rw [frz_tuple]
 simp only [List.map_cons,List.map_nil]
 rw [frz_agg,frz_agg]
 simp only [List.map_cons,List.map_nil]
 rw [frzP (k:=5) _ h hn,show frz true H 7 (intss a.keys)=intss a.keys by simp,show frz true H 7 (ints a.slots)=ints a.slots by simp,show frz true H 8 (.bool true)=.bool true from rfl]
 simp only [frz_int]
 exact leP_refl _ _
set_option maxHeartbeats 2000000 in
theorem next79_PF (w:Qu) (hl:w.l.length≤1000000) (hne:w.l≠[]):PF Tryz.prog 79 [.agg w.cs] (.tuple [.agg (Qu.mk (nextL w.l) w.seen).cs,.agg [i64 (gi w.l 0).1,i64 (gi w.l 0).2],.bool true]):=by
 refine PFk 9 hm Tryz.func79 c79b_ok (Nat.le_of_ble_eq_true rfl) (by simp) (by simp) ?_
 generalize hQ:Rle 9 (.tuple [.agg (Qu.mk (nextL w.l) w.seen).cs,.agg [i64 (gi w.l 0).1,i64 (gi w.l 0).2],.bool true])=Q
 have hlen:0<w.l.length:=List.length_pos_iff.2 hne
 obtain ⟨n,hn⟩:∃ n,w.l.length=n+1:=⟨w.l.length - 1,by omega⟩
 have hA:n≤maxA:=by unfold maxA;omega
 have hA1:n+1≤maxA:=by unfold maxA;omega
 have hz:¬ (n:Int)+1=0:=by omega
 have hnw:IntKind.i64.wrap (n:Int)=n:=w64 (by omega) (by omega)
 have htk:(List.take n (w.l.map fun p=>[i64 p.1,i64 p.2])).flatten=fl prc (w.l.take n):=by
  rw [←List.map_take];rfl
 have hw0:IntKind.i64.wrap 0=0:=rfl
 have hmn:min n (n+1)=n:=by omega
 have hml:(List.take n (w.l.map fun p=>[i64 p.1,i64 p.2])).length=n:=by simp;omega
 have hnn:(n:Int)≤(n:Int)+1:=by omega
 have hx:gi w.l (w.l.length - 1:Nat)=gi w.l n:=by rw [hn];rfl
 have hnx:nextL w.l=siftD (gi w.l n) n w.l.length ((w.l.take n).set 0 (gi w.l n)) 0:=by
  unfold nextL
  rw [hx,show w.l.length - 1=n by omega]
 rw [hnx] at hQ
 generalize hxe:gi w.l n=x at *
 by_cases h0:n=0
 ·subst h0
  have hxe0:gi w.l 0=x:=hxe
  simp (maxSteps:=3000000) [go_sem,-List.length_flatten,-List.map_drop,-List.map_take,c79b,hn,hne,hA,hA1,aSlc,aint,hw0,hxe]
  refine run_markT [(7,.rows true 2 []),(5,i64 0),(6,.ptr 3 0 0),(3,.ptr 2 0 0),(2,.ptr 1 0 0),(1,.ptr 0 0 0)] [.cells 0 w.cs,.cells 0 [.nilS,.nilS,.nilS],.cells 0 [i64 0,i64 0],.cells 0 [i64 x.1,i64 x.2]] (Wk.tell 4 (by omega) (by simp [Tm.get]) (by simp) (by simp [hxe0]) ⟨rlb_qu,by simp [RLB],by simp [RLB],by simp [RLB],trivial⟩) ?_
  simp (maxSteps:=3000000) [go_sem,-List.length_flatten,-List.map_drop,-List.map_take]
  refine run_loopK (fun m T H=>T=[(8,i64 0),(7,.rows true 2 []),(5,i64 0),(6,.ptr 3 0 0),(3,.ptr 2 0 0),(2,.ptr 1 0 0),(1,.ptr 0 0 0)]∧H=[.cells 0 w.cs,.cells 0 [.nilS,.nilS,.nilS],.cells 0 [i64 0,i64 0],.cells 0 [i64 x.1,i64 x.2]]) 0 _ _ (Wk.refl _ _ _) ⟨rfl,rfl⟩ ?_
  rintro m T H ⟨rfl,rfl⟩ KK kx kr kn
  have hw1:IntKind.i64.wrap 1=1:=rfl
  simp (maxSteps:=3000000) [go_sem,-List.length_flatten,-List.map_drop,-List.map_take,kx,hw0,hw1,hn,indB,apartB,apartS,aliveRd,refA]
  have he:siftD x 0 w.l.length ((w.l.take 0).set 0 x) 0=[]:=by
   rw [hn]
   simp [siftD]
  rw [←hQ,he]
  simp (maxSteps:=3000000) [go_sem,-List.length_flatten,-List.map_drop,-List.map_take]
 ·have hl2:=fl_len (f:=prc) (sz:=2) pr2 (w.l.take n)
  rw [List.length_take,hn,hmn] at hl2
  have hn0:0<n:=by omega
  have hn2:2≤n*2:=by omega
  have hp0:=pr_put (s:=w.l.take n) (q:=0) (by simp;omega) x
  simp (maxSteps:=3000000) [go_sem,-List.length_flatten,-List.map_drop,-List.map_take,c79b,hn,hne,hA,hA1,hz,hnw,aSlc,aint,hnn,↓htk,hml,hmn,h0,hl2,hn0,hn2,hxe]
  refine ⟨by omega,?_⟩
  have hL0:((w.l.take n).set 0 x).length=n:=by simp;omega
  generalize hL0e:(w.l.take n).set 0 x=L0 at *
  refine run_markT [(7,.loc 4 0 0 n 2 false),(5,i64 n),(6,.ptr 3 0 0),(3,.ptr 2 0 0),(2,.ptr 1 0 0),(1,.ptr 0 0 0)] [.cells 0 w.cs,.cells 0 [.nilS,.nilS,.nilS],.cells 0 [i64 0,i64 0],.cells 0 [i64 x.1,i64 x.2],.cells 0 (fl prc L0)] (Wk.tell 5 (by omega) (by simp [Tm.get]) (by simp) (by simpa [putAt] using hp0) ⟨rlb_qu,by simp [RLB],by simp [RLB],by simp [RLB],rlb_fl,trivial⟩) ?_
  simp (maxSteps:=3000000) [go_sem,-List.length_flatten,-List.map_drop,-List.map_take]
  refine run_loopK (fun m T H=>∃ (f:Nat) (L:List (Int×Int)) (i:Nat),m=n - i∧i<n∧n - i≤f∧L.length=n∧siftD x n f L i=siftD x n (n+1) L0 0∧T=[(8,i64 i),(7,.loc 4 0 0 n 2 false),(5,i64 n),(6,.ptr 3 0 0),(3,.ptr 2 0 0),(2,.ptr 1 0 0),(1,.ptr 0 0 0)]∧H=[.cells 0 w.cs,.cells 0 [.nilS,.nilS,.nilS],.cells 0 [i64 0,i64 0],.cells 0 [i64 x.1,i64 x.2],.cells 0 (fl prc L)])
   n _ _ (Wk.refl _ _ _) ⟨n+1,L0,0,rfl,by omega,by omega,hL0,rfl,rfl,rfl⟩ ?_
  rintro m T H ⟨f,L,i,rfl,hi,hf,hL,hsi,rfl,rfl⟩ KK kx kr kn
  obtain ⟨f',rfl⟩:∃ f',f=f'+1:=⟨f - 1,by omega⟩
  have hfl2:=fl_len (f:=prc) (sz:=2) pr2 L
  have h2i:IntKind.i64.wrap (2*(i:Int))=2*i:=w64 (by omega) (by omega)
  obtain ⟨a,ha⟩:∃ a:Nat,a=2*i+1:=⟨_,rfl⟩
  obtain ⟨b,hb⟩:∃ b:Nat,b=2*i+2:=⟨_,rfl⟩
  have h2i1:IntKind.i64.wrap (2*(i:Int)+1)=a:=by rw [w64 (by omega) (by omega)];omega
  have h2i2:IntKind.i64.wrap ((a:Int)+1)=b:=by rw [w64 (by omega) (by omega)];omega
  have hk0:kidP L n i=if b<n∧lessP (gi L b) (gi L a)=true then b else a:=by rw [kidP_eq,ha,hb]
  by_cases hc:a<n
  ·have hla:=pr_load (s:=L) (q:=a) (by omega)
   have hfa:2≤n*2 - a*2:=by omega
   have hcn:kidP L n i<n:=kidP_lt (by omega)
   have hsd:siftD x n (f'+1) L i=if lessP (gi L (kidP L n i:Nat)) x=true then siftD x n f' ((L.set i (gi L (kidP L n i:Nat))).set (kidP L n i) x) (kidP L n i) else L:=by
    rw [siftD]
    by_cases hh:lessP (gi L (kidP L n i:Nat)) x=true
    ·rw [if_pos ⟨by omega,hh⟩,if_pos hh]
    ·rw [if_neg fun q=>hh q.2,if_neg hh]
   have hcg:i<kidP L n i:=by rw [hk0];split<;>omega
   refine by_way (A:=?A) (fun key=>?main) ?sub
   case main =>
    by_cases hcb:b<n
    ·have hlb:=pr_load (s:=L) (q:=b) (by omega)
     have hfb:2≤n*2 - b*2:=by omega
     simp (maxSteps:=3000000) [go_sem,-List.length_flatten,-List.map_drop,-List.map_take,h2i,h2i1,h2i2,hc,hcb,↓hla,↓hlb,hfl2,hL,hfa,hfb]
     refine ⟨_,lessP110_PF (gi L b) (gi L a),?_⟩
     cases hless:lessP (gi L b) (gi L a) with
     | true =>
      rw [if_pos ⟨hcb,hless⟩] at hk0
      simp (maxSteps:=3000000) [go_sem,-List.length_flatten,-List.map_drop,-List.map_take,Kc,h2i2]
      refine run_markT [(9,i64 (kidP L n i)),(8,i64 i),(7,.loc 4 0 0 n 2 false),(5,i64 n),(6,.ptr 3 0 0),(3,.ptr 2 0 0),(2,.ptr 1 0 0),(1,.ptr 0 0 0)] _ (Wk.sub (by simp [Tm.get,hk0])) ?_
      exact key ()
     | false =>
      rw [if_neg (by rw [hless];simp)] at hk0
      simp (maxSteps:=3000000) [go_sem,-List.length_flatten,-List.map_drop,-List.map_take,Kc]
      refine run_markT [(9,i64 (kidP L n i)),(8,i64 i),(7,.loc 4 0 0 n 2 false),(5,i64 n),(6,.ptr 3 0 0),(3,.ptr 2 0 0),(2,.ptr 1 0 0),(1,.ptr 0 0 0)] _ (Wk.sub (by simp [Tm.get,hk0])) ?_
      exact key ()
    ·rw [if_neg fun q=>hcb q.1] at hk0
     simp (maxSteps:=3000000) [go_sem,-List.length_flatten,-List.map_drop,-List.map_take,h2i,h2i1,h2i2,hc,hcb]
     refine run_markT [(9,i64 (kidP L n i)),(8,i64 i),(7,.loc 4 0 0 n 2 false),(5,i64 n),(6,.ptr 3 0 0),(3,.ptr 2 0 0),(2,.ptr 1 0 0),(1,.ptr 0 0 0)] _ (Wk.sub (by simp [Tm.get,hk0])) ?_
     exact key ()
   case sub =>
    clear hk0
    generalize kidP L n i=c at *
    have hlc:=pr_load (s:=L) (q:=c) (by omega)
    have hfc:2≤n*2 - c*2:=by omega
    have hi2:i*2+2≤n*2:=by omega
    have hp1:=pr_put (s:=L) (q:=i) (by omega) (gi L c)
    have hL2:(L.set i (gi L c)).length=n:=by simp [hL]
    have hp2:=pr_put (s:=L.set i (gi L c)) (q:=c) (by rw [hL2];exact hcn) x
    have hfl3:=fl_len (f:=prc) (sz:=2) pr2 (L.set i (gi L c))
    have hc2:c*2+2≤n*2:=by omega
    simp (maxSteps:=3000000) [go_sem,-List.length_flatten,-List.map_drop,-List.map_take,hcn,↓hlc,hfl2,hL,hfc]
    intros
    refine ⟨_,lessP110_PF (gi L c) x,?_⟩
    cases hless:lessP (gi L c) x with
    | false =>
     rw [if_neg (by rw [hless];simp)] at hsd
     simp (maxSteps:=3000000) [go_sem,-List.length_flatten,-List.map_drop,-List.map_take,Kc,kx,hn,indB,apartB,apartS,aliveRd,refA]
     rw [←hQ,hn,←hsi,hsd]
     exact Rle_qup rfl hL.symm
    | true =>
     rw [if_pos hless] at hsd
     simp (maxSteps:=3000000) [go_sem,-List.length_flatten,-List.map_drop,-List.map_take,Kc,↓hlc,hcn,hi,hi2,hfc,hfl2,hfl3,hL,hc2,↓hp1,↓hp2]
     intros
     refine kn _ _ (Kl_next (T':=[(8,i64 c),(7,.loc 4 0 0 n 2 false),(5,i64 n),(6,.ptr 3 0 0),(3,.ptr 2 0 0),(2,.ptr 1 0 0),(1,.ptr 0 0 0)]) (H':=[.cells 0 w.cs,.cells 0 [.nilS,.nilS,.nilS],.cells 0 [i64 0,i64 0],.cells 0 [i64 x.1,i64 x.2],.cells 0 (fl prc ((L.set i (gi L c)).set c x))]) (n - c) 5 (by omega) ⟨f',_,c,rfl,hcn,by omega,by rw [List.length_set,hL2],by rw [←hsd,hsi],rfl,rfl⟩ (by simp [Tm.get]) (by simp) (by simp) ⟨rlb_qu,by simp [RLB],by simp [RLB],by simp [RLB],rlb_fl,trivial⟩ (by omega))
  ·have he:siftD x n (f'+1) L i=L:=by
    rw [siftD,if_neg fun h=>hc (by omega)]
   simp (maxSteps:=3000000) [go_sem,-List.length_flatten,-List.map_drop,-List.map_take,kx,h2i,h2i1,hc,hn,indB,apartB,apartS,aliveRd,refA]
   rw [←hQ,hn,←hsi,he]
   exact Rle_qup rfl hL.symm
end Go.AM
