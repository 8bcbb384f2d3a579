/- The abstract machine, part 34: a drawn region with loads and stores of places that lie apart. -/
import Derived.Test.YtpdjffpdanmoeaaGreatAm2
import Derived.Laws.BitsLemmas
import Derived.ProofKit
import Derived.Below
namespace Go.AM
set_option linter.unusedVariables false
set_option linter.unusedSimpArgs false
variable {P:Program} {X:Nat→Prop} {E:Env} {w:World} {H:AHeap} {ρ:Opd→AV} {ρc:Operand→Value} {o:Oper}
variable {an:An}
theorem putAt_out:∀ (ds l:List AV) (o k:Nat),(k<o∨o+ds.length≤k)→(putAt l o ds)[k]?=l[k]?
 | [],l,o,k,h=>rfl
 | d::ds,l,o,k,h=>by
  simp at h
  rw [putAt,putAt_out ds _ _ _ (by omega),List.getElem?_set_ne (by omega)]
theorem set_putAt:∀ (es l:List AV) (p k:Nat) (d:AV),(k<p∨p+es.length≤k)→putAt (l.set k d) p es=(putAt l p es).set k d
 | [],l,p,k,d,h=>rfl
 | e::es,l,p,k,d,h=>by
  simp at h
  rw [putAt,putAt,List.set_comm _ _ (by omega),set_putAt es _ _ _ _ (by omega)]
theorem putAt_comm:∀ (ds es l:List AV) (o p:Nat),(o+ds.length≤p∨p+es.length≤o)→putAt (putAt l o ds) p es=putAt (putAt l p es) o ds
 | [],es,l,o,p,h=>rfl
 | d::ds,es,l,o,p,h=>by
  simp at h
  rw [putAt,putAt,putAt_comm ds es _ _ _ (by omega)]
  by_cases hes:es=[]
  ·subst hes;rfl
  ·have:0<es.length:=List.length_pos_iff.2 hes
   rw [set_putAt es _ _ _ _ (by omega)]
theorem len_putAt:∀ (cs l:List AV) (o:Nat),(putAt l o cs).length=l.length
 | [],l,o=>rfl
 | c::cs,l,o=>by simp [putAt,len_putAt cs]
theorem loadCs_put {n p o:Nat} {agg:Bool} {cs vs:List AV} (h:o+max n 1≤p∨p+vs.length≤o):loadCs n agg ((putAt cs p vs).drop o)=loadCs n agg (cs.drop o):=by
 unfold loadCs
 have e1:((putAt cs p vs).drop o).length=(cs.drop o).length:=by simp [len_putAt]
 have e2:((putAt cs p vs).drop o).take n=(cs.drop o).take n:=by
  apply List.ext_getElem?
  intro k
  simp only [List.getElem?_take,List.getElem?_drop]
  split
  ·exact putAt_out _ _ _ _ (by omega)
  ·rfl
 have e3:((putAt cs p vs).drop o).head?=(cs.drop o).head?:=by
  simp only [List.head?_eq_getElem?,List.getElem?_drop]
  exact putAt_out _ _ _ _ (by omega)
 rw [e1,e2,e3]
theorem astore_inv {n:Nat} {H H':AHeap} {a v:AV} (h:astore n H a v=some H'):∃ i g off cs vs,a=.ptr i g off∧H[i]?=some (.cells g cs)∧v.cells=some vs∧vs.length=n∧off+n≤cs.length∧vs.all AV.one=true∧H'=H.set i (.cells g (putAt cs off vs)):=by
 unfold astore at h
 split at h
 ·rename_i i g off v
  split at h
  ·rename_i g' cs vs h1 h2
   split at h
   ·rename_i hc
    obtain ⟨rfl,c2,c3,c4⟩:=hc
    injection h with h
    exact ⟨_,_,_,_,_,rfl,h1,h2,c2,c3,c4,h.symm⟩
   ·cases h
  ·cases h
 ·cases h
theorem astore_of {n i g off:Nat} {H:AHeap} {v:AV} {cs vs:List AV} (h1:H[i]?=some (.cells g cs)) (h2:v.cells=some vs) (h3:vs.length=n) (h4:off+n≤cs.length) (h5:vs.all AV.one=true):astore n H (.ptr i g off) v=some (H.set i (.cells g (putAt cs off vs))):=by
 unfold astore
 simp only [h1,h2]
 rw [if_pos]
 exact ⟨trivial,h3,h4,h5⟩
theorem load_store {n m:Nat} {agg:Bool} {H H':AHeap} {a b v:AV} (hs:astore m H b v=some H') (hp:apartB (max n 1) m a b=true∨apartB m (max n 1) b a=true):aload n agg H' a=aload n agg H a:=by
 obtain ⟨j,g,p,cs,vs,rfl,h1,h2,h3,h4,h5,rfl⟩:=astore_inv hs
 have hj:=lt_of_get h1
 have key:∀ i g' o,a=.ptr i g' o→(i≠j∨o+max n 1≤p∨p+m≤o)→aload n agg (H.set j (.cells g (putAt cs p vs))) a=aload n agg H a:=by
  rintro i g' o rfl hij
  unfold aload
  by_cases hij':i=j
  ·subst hij'
   simp only [List.getElem?_set_self hj,h1]
   rw [loadCs_put (by omega)]
  ·simp only [List.getElem?_set_ne (Ne.symm hij')]
 rcases hp with hp|hp
 ·unfold apartB at hp
  split at hp
  ·rename_i i g1 o j' g2 p' hjj
   injection hjj with e1 e2 e3
   subst e1 e3
   simp at hp
   exact key _ _ _ rfl (by omega)
  ·rfl
  ·rename_i hb;cases hb
  ·cases hp
 ·unfold apartB at hp
  split at hp
  ·rename_i j' g2 p' i g1 o hjj
   injection hjj with e1 e2 e3
   subst e1 e3
   simp at hp
   exact key _ _ _ rfl (by omega)
  ·rename_i hb;cases hb
  ·rfl
  ·cases hp
theorem store_store {n m:Nat} {H H1 H2:AHeap} {a b v u:AV} (hx:astore n H a v=some H1) (hy:astore m H1 b u=some H2) (hp:apartB n m a b=true):∃ H1',astore m H b u=some H1'∧astore n H1' a v=some H2:=by
 obtain ⟨i,g,o,cs,vs,rfl,h1,h2,h3,h4,h5,rfl⟩:=astore_inv hx
 obtain ⟨j,g',p,ds,us,rfl,k1,k2,k3,k4,k5,rfl⟩:=astore_inv hy
 have hi:=lt_of_get h1
 simp [apartB] at hp
 by_cases hij:i=j
 ·subst hij
  rw [List.getElem?_set_self hi] at k1
  injection k1 with k1
  injection k1 with e1 e2
  subst e1 e2
  rw [len_putAt] at k4
  refine ⟨_,astore_of h1 k2 k3 k4 k5,?_⟩
  rw [astore_of (cs:=putAt cs p us) (by rw [List.getElem?_set_self hi]) h2 h3 (by rw [len_putAt];exact h4) h5]
  rw [List.set_set,List.set_set,putAt_comm _ _ _ _ _ (by omega)]
 ·rw [List.getElem?_set_ne hij] at k1
  refine ⟨_,astore_of k1 k2 k3 k4 k5,?_⟩
  rw [astore_of (by rw [List.getElem?_set_ne (Ne.symm hij)];exact h1) h2 h3 h4 h5]
  rw [List.set_comm _ _ hij]
theorem elems_set {i:Nat} {b:ABlk} {y:AV} (h:∀ j g off len sz c,y=.loc j g off len sz c→i≠j):elems (H.set i b) y=elems H y:=by
 cases y<;>try rfl
 rename_i j g off len sz c
 unfold elems
 simp only [List.getElem?_set_ne (h _ _ _ _ _ _ rfl)]
theorem app_len {sz bytes:Nat} {H H':AHeap} {b y r:AV} (h:aapp sz bytes H b y=some (r,H')):(H'=H∨(∃ blk,H'=H++[blk])∨∃ i g off len s c blk,b=.loc i g off len s c∧H'=H.set i blk):=by
 unfold aapp at h
 split at h
 ·cases h
 ·rename_i sy ys _
  split at h
  ·cases hn:appNone H b with
   | none=>rw [hn] at h;cases h
   | some v=>rw [hn] at h;simp at h;exact .inl h.2.symm
  ·split at h
   ·unfold appMore at h
    split at h
    ·split at h
     ·injection h with h;injection h with _ h;exact .inr (.inl ⟨_,h.symm⟩)
     ·cases h
    ·split at h
     ·injection h with h;injection h with _ h;exact .inr (.inl ⟨_,h.symm⟩)
     ·cases h
    ·split at h
     ·split at h
      ·split at h
       ·injection h with h;injection h with _ h;exact .inr (.inl ⟨_,h.symm⟩)
       ·injection h with h;injection h with _ h;exact .inr (.inr ⟨_,_,_,_,_,_,_,rfl,h.symm⟩)
      ·cases h
     ·cases h
    ·cases h
   ·cases h
theorem apartS_loc {a b:AV} (h:apartS a b=true):∀ i g o,a=.ptr i g o→∀ j g' off len s c,b=.loc j g' off len s c→i≠j:=by
 rintro i g o rfl j g' off len s c rfl
 simp only [apartS,refA] at h
 simpa using h
theorem load_app {n sz bytes:Nat} {agg:Bool} {H H':AHeap} {a b y v r:AV} (hl:aload n agg H a=some v) (ha:aapp sz bytes H b y=some (r,H')) (hp:apartS a b=true):aload n agg H' a=some v:=by
 cases a with
 | ptr i g o =>
  have hi:i<H.length:=by
   unfold aload at hl
   simp only at hl
   split at hl
   ·rename_i hh;exact lt_of_get hh
   ·cases hl
  have key:H'[i]?=H[i]?:=by
   rcases app_len ha with rfl|⟨blk,rfl⟩|⟨j,g',off,len,s,c,blk,rfl,rfl⟩
   ·rfl
   ·rw [List.getElem?_append_left hi]
   ·rw [List.getElem?_set_ne (Ne.symm (apartS_loc hp _ _ _ rfl _ _ _ _ _ _ rfl))]
  unfold aload at hl ⊢
  simp only [key]
  exact hl
 | rptr cs=>exact hl
 | _=>simp [aload] at hl
theorem store_app {n sz bytes:Nat} {H H1 H2:AHeap} {a b y v r:AV} (hx:astore n H a v=some H1) (hy:aapp sz bytes H1 b y=some (r,H2)) (hp:apartS a b=true) (hq:apartS a y=true) :
  ∃ H1',aapp sz bytes H b y=some (r,H1')∧astore n H1' a v=some H2:=by
 obtain ⟨i,g,o,cs,vs,rfl,h1,h2,h3,h4,h5,rfl⟩:=astore_inv hx
 have hi:=lt_of_get h1
 have eE:elems (H.set i (.cells g (putAt cs o vs))) y=elems H y:=elems_set (fun j g' off len sz c e=>apartS_loc hq _ _ _ rfl _ _ _ _ _ _ e)
 have hl:(H.set i (ABlk.cells g (putAt cs o vs))).length=H.length:=by simp
 have hb:∀ j g' off len s c,b=.loc j g' off len s c→(H.set i (ABlk.cells g (putAt cs o vs)))[j]?=H[j]?:=fun j g' off len s c e=>by
  rw [List.getElem?_set_ne (apartS_loc hp _ _ _ rfl _ _ _ _ _ _ e)]
 unfold aapp at hy ⊢
 rw [eE] at hy
 split at hy
 ·cases hy
 ·rename_i sy ys hE
  split at hy
  ·rename_i hys
   rw [if_pos hys]
   have eN:appNone (H.set i (.cells g (putAt cs o vs))) b=appNone H b:=by
    cases b<;>try rfl
    rename_i j g' off len s c
    unfold appNone alive
    simp only [hb _ _ _ _ _ _ rfl]
   rw [eN] at hy
   cases hn:appNone H b with
   | none=>rw [hn] at hy;cases hy
   | some v' =>
    rw [hn] at hy
    simp at hy
    obtain ⟨rfl,rfl⟩:=hy
    exact ⟨H,rfl,astore_of h1 h2 h3 h4 h5⟩
  ·rename_i hys
   rw [if_neg hys]
   split at hy
   ·rename_i hsy
    rw [if_pos hsy]
    unfold appMore at hy ⊢
    cases b with
    | nilS =>
     simp only at hy ⊢
     split at hy
     ·rename_i hc
      rw [if_pos hc]
      simp only [hl,Option.some.injEq,Prod.mk.injEq] at hy
      obtain ⟨rfl,rfl⟩:=hy
      refine ⟨_,rfl,?_⟩
      rw [astore_of (by rw [List.getElem?_append_left hi];exact h1) h2 h3 h4 h5,List.set_append_left _ _ hi]
     ·cases hy
    | rows cl s es =>
     cases cl with
     | false=>cases hy
     | true =>
      simp only at hy ⊢
      split at hy
      ·rename_i hc
       rw [if_pos hc]
       simp only [hl,Option.some.injEq,Prod.mk.injEq] at hy
       obtain ⟨rfl,rfl⟩:=hy
       refine ⟨_,rfl,?_⟩
       rw [astore_of (by rw [List.getElem?_append_left hi];exact h1) h2 h3 h4 h5,List.set_append_left _ _ hi]
      ·cases hy
    | loc j g' off len s c =>
     have hij:=apartS_loc hp _ _ _ rfl _ _ _ _ _ _ rfl
     simp only [hb _ _ _ _ _ _ rfl] at hy ⊢
     split at hy
     ·rename_i g2 ds hH
      split at hy
      ·rename_i hc
       rw [if_pos hc]
       split at hy
       ·rename_i hcl
        rw [if_pos hcl]
        simp only [hl,Option.some.injEq,Prod.mk.injEq] at hy
        obtain ⟨rfl,rfl⟩:=hy
        refine ⟨_,rfl,?_⟩
        rw [astore_of (by rw [List.getElem?_append_left hi];exact h1) h2 h3 h4 h5,List.set_append_left _ _ hi]
       ·rename_i hcl
        rw [if_neg hcl]
        simp only [Option.some.injEq,Prod.mk.injEq] at hy
        obtain ⟨rfl,rfl⟩:=hy
        refine ⟨_,rfl,?_⟩
        rw [astore_of (by rw [List.getElem?_set_ne (Ne.symm hij)];exact h1) h2 h3 h4 h5,List.set_comm _ _ hij]
      ·cases hy
     ·cases hy
    | _=>cases hy
   ·cases hy
theorem alive_set {H:AHeap} {i g:Nat} {cs cs':List AV} (h:H[i]?=some (.cells g cs)) (j h':Nat):alive (H.set i (.cells g cs')) j h'=alive H j h':=by
 unfold alive
 by_cases hij:i=j
 ·subst hij
  rw [List.getElem?_set_self (lt_of_get h),h]
 ·rw [List.getElem?_set_ne hij]
theorem alive_store {n:Nat} {H H':AHeap} {a v:AV} (h:astore n H a v=some H') (j g:Nat):alive H' j g=alive H j g:=by
 obtain ⟨i,g',o,cs,vs,rfl,h1,h2,h3,h4,h5,rfl⟩:=astore_inv h
 exact alive_set h1 j g
theorem alive_app2 {sz bytes:Nat} {H H':AHeap} {b y r:AV} (h:aapp sz bytes H b y=some (r,H')) {j g:Nat} (ha:alive H j g=true) (hr:∀ i,refA b=some i→i≠j):alive H' j g=true:=by
 rcases app_len h with rfl|⟨blk,rfl⟩|⟨i,g',off,len,s,c,blk,rfl,rfl⟩
 ·exact ha
 ·exact alive_app ha
 ·unfold alive at ha ⊢
  rw [List.getElem?_set_ne (hr i rfl)]
  exact ha
theorem aop_alive {op:AOp} {a:Opd} {H H1 H':AHeap} {v:AV} (ha:aliveRd op=some a) (hk:∀ i g,refA (ρ a)=some i→alive H i g=true→alive H' i g=true) (h:aop op ρ H=some (v,H1)):H1=H∧aop op ρ H'=some (v,H'):=by
 cases op<;>simp only [aliveRd] at ha<;>first|(cases ha;done)|skip
 all_goals injection ha with ha;subst ha
 case slc sz x lo hi mx =>
  simp only [aop] at h ⊢
  split at h
  ·rename_i v' hv
   injection h with h
   injection h with h1 h2
   subst h1 h2
   refine ⟨rfl,?_⟩
   have:aslc H' ρ sz x lo hi mx=some v':=by
    unfold aslc at hv ⊢
    split at hv
    ·exact hv
    ·rename_i i g off len sz' clip hx
     split at hv
     ·rename_i hc
      rw [if_pos ⟨hc.1,hk i g (by rw [hx];rfl) hc.2⟩]
      exact hv
     ·cases hv
    ·exact hv
    ·cases hv
   rw [this]
  ·cases h
 case fa off x =>
  simp only [aop] at h ⊢
  split at h
  ·rename_i i g o hx
   split at h
   ·rename_i hc
    simp only [hk i g (by rw [hx];rfl) hc,if_true]
    injection h with h
    injection h with h1 h2
    subst h1 h2
    exact ⟨rfl,rfl⟩
   ·cases h
  ·injection h with h
   injection h with h1 h2
   subst h1 h2
   exact ⟨rfl,rfl⟩
  ·cases h
 case nilc x =>
  simp only [aop] at h ⊢
  split at h
  ·rename_i i g o hx
   split at h
   ·rename_i hc
    simp only [hk i g (by rw [hx];rfl) hc,if_true]
    injection h with h
    injection h with h1 h2
    subst h1 h2
    exact ⟨rfl,rfl⟩
   ·cases h
  ·injection h with h
   injection h with h1 h2
   subst h1 h2
   exact ⟨rfl,rfl⟩
  ·injection h with h
   injection h with h1 h2
   subst h1 h2
   exact ⟨rfl,rfl⟩
  ·cases h
 case len x =>
  simp only [aop] at h ⊢
  split at h
  ·rename_i n hn
   have:alen H' (ρ x)=some n:=by
    unfold alen at hn ⊢
    split at hn
    ·exact hn
    ·rename_i i g off len sz c hx
     split at hn
     ·rename_i hc
      rw [if_pos (hk i g (by rw [hx];rfl) hc)]
      exact hn
     ·cases hn
    ·exact hn
    ·cases hn
   rw [this]
   injection h with h
   injection h with h1 h2
   subst h1 h2
   exact ⟨rfl,rfl⟩
  ·cases h
 case ia sz x i =>
  simp only [aop] at h ⊢
  split at h
  ·rename_i hx
   split at h
   ·rename_i k hi
    split at h
    ·rename_i hsz
     rw [if_pos hsz]
     split at h
     ·rename_i e he
      injection h with h
      injection h with h1 h2
      subst h1 h2
      simp only [he]
      exact ⟨by first|trivial|rfl,by first|trivial|rfl⟩
     ·cases h
    ·cases h
   ·cases h
  ·rename_i j g off len sz' c hx
   split at h
   ·rename_i k hi
    split at h
    ·rename_i hc
     rw [if_pos ⟨hc.1,hk j g (by rw [hx];rfl) hc.2⟩]
     injection h with h
     injection h with h1 h2
     subst h1 h2
     exact ⟨rfl,rfl⟩
    ·cases h
   ·cases h
  ·cases h
 case iarr len sz x i =>
  simp only [aop] at h ⊢
  split at h
  ·rename_i k hi
   split at h
   ·rename_i j g o hx
    split at h
    ·rename_i hc
     have:=hk j g (by rw [hx];rfl)
     simp_all
    ·cases h
   ·simp_all
   ·cases h
  ·cases h
theorem aop_ind {x y:AOp} {H H1 H2:AHeap} {vx vy:AV} (hi:indB x y ρ=true) (hx:aop x ρ H=some (vx,H1)) (hy:aop y ρ H1=some (vy,H2)):∃ H1',aop y ρ H=some (vy,H1')∧aop x ρ H1'=some (vx,H2):=by
 have ld:∀ {n agg a} {H Ha:AHeap} {v:AV},aop (.load n agg a) ρ H=some (v,Ha)↔aload n agg H (ρ a)=some v∧Ha=H:=by
  intro n agg a H Ha v
  simp only [aop]
  cases aload n agg H (ρ a) with
  | none=>simp
  | some u=>simp;intro _;exact eq_comm
 have st:∀ {n a b} {H Ha:AHeap} {v:AV},aop (.store n a b) ρ H=some (v,Ha)↔astore n H (ρ a) (ρ b)=some Ha∧v=.any:=by
  intro n a b H Ha v
  simp only [aop]
  cases astore n H (ρ a) (ρ b) with
  | none=>simp
  | some u=>simp;constructor<;>(rintro ⟨h1,h2⟩;exact ⟨h2.symm▸rfl,h1.symm▸rfl⟩)
 have hin:=hi
 have als:∀ {n a b} {H Ha:AHeap} {v:AV} (j g:Nat),aop (.store n a b) ρ H=some (v,Ha)→alive Ha j g=alive H j g:=fun j g h=>alive_store (st.1 h).1 j g
 unfold indB at hi
 split at hi
 ·obtain ⟨hx1,rfl⟩:=ld.1 hx
  obtain ⟨hy1,rfl⟩:=st.1 hy
  exact ⟨H2,hy,ld.2 ⟨by rw [load_store hy1 (.inl hi)];exact hx1,rfl⟩⟩
 ·obtain ⟨hx1,rfl⟩:=st.1 hx
  obtain ⟨hy1,rfl⟩:=ld.1 hy
  exact ⟨H,ld.2 ⟨by rw [←load_store hx1 (.inr hi)];exact hy1,rfl⟩,hx⟩
 ·obtain ⟨hx1,rfl⟩:=st.1 hx
  obtain ⟨hy1,rfl⟩:=st.1 hy
  obtain ⟨H1',q1,q2⟩:=store_store hx1 hy1 hi
  exact ⟨H1',st.2 ⟨q1,rfl⟩,st.2 ⟨q2,rfl⟩⟩
 ·obtain ⟨hx1,rfl⟩:=ld.1 hx
  exact ⟨H2,hy,ld.2 ⟨load_app hx1 hy hi,rfl⟩⟩
 ·obtain ⟨hx1,rfl⟩:=st.1 hx
  simp only [Bool.and_eq_true] at hi
  obtain ⟨H1',q1,q2⟩:=store_app hx1 hy hi.1 hi.2
  exact ⟨H1',q1,st.2 ⟨q2,rfl⟩⟩
 ·simp [aop] at hx
 ·simp [aop] at hy
 ·simp [aop] at hy
 ·simp [aop] at hx
 ·simp [aop] at hx
 ·simp [aop] at hx
 ·simp [aop] at hy
 ·obtain ⟨a,ha⟩:=Option.isSome_iff_exists.1 hi
  obtain ⟨rfl,hy2⟩:=aop_alive (H':=H) ha (fun i g _ h=>by rw [←als i g hx];exact h) hy
  exact ⟨H,hy2,hx⟩
 ·obtain ⟨a,ha⟩:=Option.isSome_iff_exists.1 hi
  have h1:=(aop_alive (H':=H) ha (fun i g _ h=>h) hx).1
  subst h1
  exact ⟨H2,hy,(aop_alive ha (fun i g _ h=>by rw [als i g hy];exact h) hx).2⟩
 ·split at hi
  ·rename_i a ha
   have h1:=(aop_alive (H':=H) ha (fun i g _ h=>h) hx).1
   subst h1
   refine ⟨H2,hy,(aop_alive ha (fun i g hr h=>alive_app2 hy h fun j hj=>?_) hx).2⟩
   simp only [apartS,hr,hj] at hi
   simp at hi
   exact Ne.symm hi
  ·cases hi
 ·cases hi
def memB (x y:AIns):Bool :=
 y.reads.all (fun k=>!isDst x.dst k)&&x.reads.all (fun k=>!isDst y.dst k) &&
 (match x.dst,y.dst with|some a,some b=>a != b|_,_=>true) &&
 (match x.op,y.op with
  | .load ..,.store ..=>true
  | .store ..,.load ..=>true
  | .store ..,.store ..=>true
  | .load ..,.app ..=>true
  | .store ..,.app ..=>true
  | .calla ..,.calla ..=>true
  | .load ..,.calla ..=>true
  | .store ..,.calla ..=>true
  | .calla ..,.load ..=>true
  | .calla ..,.store ..=>true
  | .calla ..,y=>(aliveRd y).isSome
  | x,.calla ..=>(aliveRd x).isSome
  | .store ..,y=>(aliveRd y).isSome
  | x,.store ..=>(aliveRd x).isSome
  | x,.app ..=>(aliveRd x).isSome
  | _,_=>false)
def noW (z x:AIns):Bool:=(x.op.opds.flatMap Opd.t).all fun k=>!isDst z.dst k
def isM (x:AIns):Bool :=
 match x.op with
 | .load ..|.store ..|.app ..|.calla ..=>true
 | op=>(aliveRd op).isSome
theorem memB_kinds {x y:AIns} (h:memB x y=true):isM x=true∧isM y=true∧(x.op.isCall=true→x.op.isCA=true)∧(y.op.isCall=true→y.op.isCA=true):=by
 unfold memB at h
 simp only [Bool.and_eq_true] at h
 have h5:=h.2
 clear h
 obtain ⟨dx,x,gx⟩:=x
 obtain ⟨dy,y,gy⟩:=y
 simp only at h5
 unfold isM
 cases x<;>first|(cases h5;done)|(cases y<;>first|(cases h5;done)|exact ⟨rfl,rfl,by simp [AOp.isCall,AOp.isCA],by simp [AOp.isCall,AOp.isCA]⟩)
def swapD (Tf:Tm) (x y:AIns):Prop:=memB x y=true∧indB x.op y.op (Opd.ev Tf)=true
theorem indB_congr {x y:AOp} {ρ ρ':Opd→AV} (hx:∀ a∈x.opds,ρ a=ρ' a) (hy:∀ a∈y.opds,ρ a=ρ' a):indB x y ρ=indB x y ρ':=by
 have al:∀ a,aliveRd x=some a→ρ a=ρ' a:=by
  intro a ha
  cases x<;>simp only [aliveRd] at ha<;>first|(cases ha;done)|skip
  all_goals
   injection ha with ha
   subst ha
   exact hx _ (by simp [AOp.opds])
 have al':∀ a,aliveRd y=some a→ρ a=ρ' a:=by
  intro a ha
  cases y<;>simp only [aliveRd] at ha<;>first|(cases ha;done)|skip
  all_goals
   injection ha with ha
   subst ha
   exact hy _ (by simp [AOp.opds])
 unfold indB
 split
 all_goals try simp only [AOp.opds,List.mem_cons,List.not_mem_nil,or_false,forall_eq_or_imp,forall_eq] at hx hy
 all_goals try simp only [hx,hy]
 ·split
  ·rename_i a ha
   rw [al' a ha]
  ·rfl
 ·split
  ·rename_i a ha
   rw [al a ha]
  ·rfl
theorem refA_get {n:Nat} {agg:Bool} {s g0:Nat} {b:ABlk} {a r:AV} (hs:H[s]?=some (.dead g0)) (h:aload n agg H a=some r):aload n agg (H.set s b) a=some r:=by
 cases a with
 | ptr i g o =>
  have:s≠i:=by
   rintro rfl
   unfold aload at h
   simp [hs] at h
  unfold aload at h ⊢
  simp only [List.getElem?_set_ne this]
  exact h
 | rptr cs=>exact h
 | _=>simp [aload] at h
theorem load_set {n:Nat} {agg:Bool} {s:Nat} {b:ABlk} {a:AV} (hs:refA a≠some s):aload n agg (H.set s b) a=aload n agg H a:=by
 cases a with
 | ptr i g o =>
  have:s≠i:=by
   rintro rfl
   exact hs rfl
  unfold aload
  simp only [List.getElem?_set_ne this]
 | _=>rfl
theorem alive_dead {s g0 i g:Nat} {b:ABlk} (hs:H[s]?=some (.dead g0)) (h:alive H i g=true):alive (H.set s b) i g=true:=by
 have:s≠i:=by
  rintro rfl
  simp [alive,hs] at h
 unfold alive at h ⊢
 rw [List.getElem?_set_ne this]
 exact h
theorem alive_back {s i g:Nat} {b:ABlk} (hs:s≠i) (h:alive (H.set s b) i g=true):alive H i g=true:=by
 unfold alive at h ⊢
 rw [List.getElem?_set_ne hs] at h
 exact h
theorem execV_ind {x y:AIns} {T:Tm} {H1 H2:AHeap} {vx vy:AV} (hcx:x.op.isCall=true→x.op.isCA=true) (hcy:y.op.isCall=true→y.op.isCA=true) (hi:indB x.op y.op (Opd.ev T)=true)
  (ex:execV P x T H vx H1) (ey:execV P y T H1 vy H2):∃ H1',execV P y T H vy H1'∧execV P x T H1' vx H2:=by
 by_cases cx:x.op.isCA=true<;>by_cases cy:y.op.isCA=true
 ·obtain ⟨dx,ox,gx⟩:=x
  obtain ⟨dy,oy,gy⟩:=y
  cases ox<;>first|(cases cx;done)|skip
  cases oy<;>first|(cases cy;done)|skip
  rename_i k j f as k' j' f' as'
  obtain ⟨g,bs,h1,h2⟩:=ex
  obtain ⟨g',bs',h3,h4⟩:=ey
  simp [indB] at hi
  rcases h2 with ⟨h2,rfl⟩|⟨len,sz,c,cs,g0,h2,h5,rfl,rfl⟩
  ·exact ⟨H2,⟨g',bs',h3,h4⟩,⟨g,bs,h1,.inl ⟨h2,rfl⟩⟩⟩
  ·rcases h4 with ⟨h4,rfl⟩|⟨len',sz',c',cs',g0',h4,h6,rfl,rfl⟩
   ·exact ⟨H,⟨g',bs',h3,.inl ⟨h4,rfl⟩⟩,⟨g,bs,h1,.inr ⟨len,sz,c,cs,g0,h2,h5,rfl,rfl⟩⟩⟩
   ·rw [List.getElem?_set_ne hi] at h6
    exact ⟨_,⟨g',bs',h3,.inr ⟨len',sz',c',cs',g0',h4,h6,rfl,rfl⟩⟩,⟨g,bs,h1,.inr ⟨len,sz,c,cs,g0,h2,by rw [List.getElem?_set_ne (Ne.symm hi)];exact h5,rfl,List.set_comm _ _ hi⟩⟩⟩
 ·have hcy':y.op.isCall=false:=by
   cases h:y.op.isCall
   ·rfl
   ·exact absurd (hcy h) cy
  rw [execV_op hcy'] at ey
  obtain ⟨dx,ox,gx⟩:=x
  cases ox<;>first|(cases cx;done)|skip
  rename_i k j f as
  obtain ⟨g,bs,h1,h2⟩:=ex
  rcases h2 with ⟨h2,rfl⟩|⟨len,sz,c,cs,g0,h2,h5,rfl,rfl⟩
  ·exact ⟨H2,(execV_op hcy').2 ey,⟨g,bs,h1,.inl ⟨h2,rfl⟩⟩⟩
  ·have fin:∀ H1',aop y.op (Opd.ev T) H=some (vy,H1')→H1'[k*10+j]?=H[k*10+j]?→H2=H1'.set (k*10+j) (.cells (g0+1) cs)→∃ H1',execV P y T H vy H1'∧execV P ⟨dx,.calla k j f as,gx⟩ T H1' (.loc (k*10+j) (g0+1) 0 len sz c) H2:=fun H1' a1 a2 a3 =>
    ⟨H1',(execV_op hcy').2 a1,⟨g,bs,h1,.inr ⟨len,sz,c,cs,g0,h2,a2.trans h5,rfl,a3⟩⟩⟩
   have al:∀ a,aliveRd y.op=some a→refA (Opd.ev T a)≠some (k*10+j)→∃ H1',execV P y T H vy H1'∧execV P ⟨dx,.calla k j f as,gx⟩ T H1' (.loc (k*10+j) (g0+1) 0 len sz c) H2:=by
    intro a ha hne
    obtain ⟨rfl,hy2⟩:=aop_alive (H':=H) ha (fun i g hr h=>alive_back (fun hh=>hne (by rw [hr,hh])) h) ey
    exact fin H hy2 rfl rfl
   obtain ⟨dy,oy,gy⟩:=y
   simp only at ey hi al fin
   cases oy
   case load n agg a =>
    have hne:refA (Opd.ev T a)≠some (k*10+j):=by simpa [indB] using hi
    simp only [aop,load_set hne] at ey
    refine fin H ?_ rfl ?_
    ·simp only [aop]
     split at ey
     ·injection ey with ey
      injection ey with e1 e2
      rename_i v0 hv0
      simp only [hv0,e1]
     ·cases ey
    ·split at ey
     ·injection ey with ey
      injection ey with e1 e2
      exact e2.symm
     ·cases ey
   case store n a b =>
    have hne:refA (Opd.ev T a)≠some (k*10+j):=by simpa [indB] using hi
    simp only [aop] at ey
    split at ey
    ·rename_i H3 hst
     injection ey with ey
     injection ey with e1 e2
     subst e1 e2
     obtain ⟨i,g',o,ds,us,ha,b1,b2,b3,b4,b5,rfl⟩:=astore_inv hst
     have hij:k*10+j≠i:=by
      intro h
      apply hne
      rw [ha,h]
      rfl
     rw [List.getElem?_set_ne hij] at b1
     refine fin _ (by simp only [aop,ha,astore_of b1 b2 b3 b4 b5]) (List.getElem?_set_ne (Ne.symm hij)) (List.set_comm _ _ hij)
    ·cases ey
   all_goals first
    | (exact absurd rfl cy)
    | (exact al _ rfl (by simpa [indB,aliveRd] using hi))
    | (simp [indB,aliveRd] at hi;done)
 ·have hcx':x.op.isCall=false:=by
   cases h:x.op.isCall
   ·rfl
   ·exact absurd (hcx h) cx
  rw [execV_op hcx'] at ex
  obtain ⟨dy,oy,gy⟩:=y
  cases oy<;>first|(cases cy;done)|skip
  rename_i k j f as
  obtain ⟨g,bs,h1,h2⟩:=ey
  rcases h2 with ⟨h2,rfl⟩|⟨len,sz,c,cs,g0,h2,h5,rfl,rfl⟩
  ·exact ⟨H,⟨g,bs,h1,.inl ⟨h2,rfl⟩⟩,(execV_op hcx').2 ex⟩
  ·have fin:H[k*10+j]?=some (.dead g0)→aop x.op (Opd.ev T) (H.set (k*10+j) (.cells (g0+1) cs))=some (vx,H1.set (k*10+j) (.cells (g0+1) cs))→∃ H1',execV P ⟨dy,.calla k j f as,gy⟩ T H (.loc (k*10+j) (g0+1) 0 len sz c) H1'∧execV P x T H1' vx (H1.set (k*10+j) (.cells (g0+1) cs)):=fun a1 a2 =>
    ⟨_,⟨g,bs,h1,.inr ⟨len,sz,c,cs,g0,h2,a1,rfl,rfl⟩⟩,(execV_op hcx').2 a2⟩
   have al:∀ a,aliveRd x.op=some a→∃ H1',execV P ⟨dy,.calla k j f as,gy⟩ T H (.loc (k*10+j) (g0+1) 0 len sz c) H1'∧execV P x T H1' vx (H1.set (k*10+j) (.cells (g0+1) cs)):=by
    intro a ha
    have h1':=(aop_alive (H':=H) ha (fun i g _ h=>h) ex).1
    subst h1'
    exact fin h5 (aop_alive ha (fun i g _ h=>alive_dead h5 h) ex).2
   obtain ⟨dx,ox,gx⟩:=x
   simp only at ex hi al fin
   cases ox
   case load n agg a =>
    simp only [aop] at ex
    split at ex
    ·rename_i v0 hv0
     injection ex with ex
     injection ex with e1 e2
     subst e1 e2
     refine fin h5 ?_
     simp only [aop,refA_get h5 hv0]
    ·cases ex
   case store n a b =>
    simp only [aop] at ex
    split at ex
    ·rename_i H3 hst
     injection ex with ex
     injection ex with e1 e2
     subst e1 e2
     obtain ⟨i,g',o,ds,us,ha,b1,b2,b3,b4,b5,rfl⟩:=astore_inv hst
     have hij:i≠k*10+j:=by
      rintro rfl
      rw [List.getElem?_set_self (lt_of_get b1)] at h5
      cases h5
     rw [List.getElem?_set_ne hij] at h5
     refine fin h5 ?_
     simp only [aop,ha]
     rw [astore_of (by rw [List.getElem?_set_ne (Ne.symm hij)];exact b1) b2 b3 b4 b5,List.set_comm _ _ hij]
    ·cases ex
   all_goals first
    | (exact absurd rfl cx)
    | (exact al _ rfl)
    | (simp [indB,aliveRd] at hi;done)
 ·have hcx':x.op.isCall=false:=by
   cases h:x.op.isCall
   ·rfl
   ·exact absurd (hcx h) cx
  have hcy':y.op.isCall=false:=by
   cases h:y.op.isCall
   ·rfl
   ·exact absurd (hcy h) cy
  rw [execV_op hcx'] at ex
  rw [execV_op hcy'] at ey
  obtain ⟨H1',q1,q2⟩:=aop_ind hi ex ey
  exact ⟨H1',(execV_op hcy').2 q1,(execV_op hcx').2 q2⟩
theorem swap_stepD {x y:AIns} {T Tf:Tm} {H H1 H2:AHeap} {vx vy:AV} (hs:swapD Tf x y) (fx:∀ k∈x.op.opds.flatMap Opd.t,T.get k=Tf.get k) (fy:∀ k∈y.op.opds.flatMap Opd.t,T.get k=Tf.get k)
  (hx:stepV P x T H vx H1) (hy:stepV P y (put T x.dst vx) H1 vy H2) :
  ∃ H1',stepV P y T H vy H1'∧stepV P x (put T y.dst vy) H1' vx H2∧TEq (put (put T y.dst vy) x.dst vx) (put (put T x.dst vx) y.dst vy):=by
 obtain ⟨hm,hi⟩:=hs
 unfold memB at hm
 simp only [Bool.and_eq_true] at hm
 obtain ⟨⟨⟨h2,h3⟩,h4⟩,h5⟩:=hm
 have hy':stepV P y T H1 vy H2:=stepV_congr (fun k hk=>get_put (by have:=List.all_eq_true.1 h2 k hk;simpa using this)) hy
 have hi':indB x.op y.op (Opd.ev T)=true:=by
  rw [←hi]
  exact indB_congr (fun a ha=>TEq_ev fun k hk=>fx k (List.mem_flatMap.2 ⟨a,ha,hk⟩)) (fun a ha=>TEq_ev fun k hk=>fy k (List.mem_flatMap.2 ⟨a,ha,hk⟩))
 obtain ⟨_,_,hcx,hcy⟩:=memB_kinds (x:=x) (y:=y) (by unfold memB;simp only [Bool.and_eq_true];exact ⟨⟨⟨h2,h3⟩,h4⟩,h5⟩)
 have back:∀ {H1':AHeap},stepV P x T H1' vx H2→stepV P x (put T y.dst vy) H1' vx H2:=fun h=>stepV_congr (fun k hk=>(get_put (by have:=List.all_eq_true.1 h3 k hk;simpa using this)).symm) h
 have hq:TEq (put (put T y.dst vy) x.dst vx) (put (put T x.dst vx) y.dst vy):=fun k=>(TEq_swap h4 k).symm
 -- guards
 have gx:(execV P x T H vx H1∧∀ H H':AHeap,execV P x T H vx H'→stepV P x T H vx H')∨(H1=H∧∀ H,stepV P x T H vx H):=by
  cases hg:x.guard with
  | none=>simp only [stepV,hg] at hx ⊢;exact .inl ⟨hx,fun _ _ h=>h⟩
  | some p =>
   obtain ⟨g,want⟩:=p
   simp only [stepV,hg] at hx ⊢
   rcases hx with ⟨b,a,c,e⟩|⟨a,c,e⟩
   ·exact .inl ⟨e,fun _ _ h=>.inl ⟨b,a,c,h⟩⟩
   ·exact .inr ⟨e,fun _=>.inr ⟨a,c,by first|trivial|rfl⟩⟩
 have gy:(execV P y T H1 vy H2∧∀ H H':AHeap,execV P y T H vy H'→stepV P y T H vy H')∨(H2=H1∧∀ H,stepV P y T H vy H):=by
  cases hg:y.guard with
  | none=>simp only [stepV,hg] at hy' ⊢;exact .inl ⟨hy',fun _ _ h=>h⟩
  | some p =>
   obtain ⟨g,want⟩:=p
   simp only [stepV,hg] at hy' ⊢
   rcases hy' with ⟨b,a,c,e⟩|⟨a,c,e⟩
   ·exact .inl ⟨e,fun _ _ h=>.inl ⟨b,a,c,h⟩⟩
   ·exact .inr ⟨e,fun _=>.inr ⟨a,c,by first|trivial|rfl⟩⟩
 rcases gx with ⟨ex,wx⟩|⟨rfl,wx⟩
 ·rcases gy with ⟨ey,wy⟩|⟨rfl,wy⟩
  ·obtain ⟨H1',q1,q2⟩:=execV_ind hcx hcy hi' ex ey
   exact ⟨H1',wy _ _ q1,back (wx _ _ q2),hq⟩
  ·exact ⟨H,wy H,back hx,hq⟩
 ·exact ⟨H2,hy',back (wx H2),hq⟩
theorem Chain.keep {is:List AIns} {T Tf:Tm} {H Hf:AHeap} {k:Nat} (h:Chain P is T H Tf Hf) (hn:∀ z∈is,isDst z.dst k=false):T.get k=Tf.get k:=by
 induction h with
 | nil T H=>rfl
 | cons h k' ih =>
  rw [←ih (fun z hz=>hn z (by simp [hz])),get_put (hn _ (by simp))]
theorem Chain.frontD {i:AIns} {s:List AIns} {Tg:Tm}:∀ {p:List AIns} {T:Tm} {H:AHeap} {Tf:Tm} {Hf:AHeap},Chain P (p++i::s) T H Tf Hf→TEq Tf Tg→(∀ x∈p,swapOK x i=true∨swapD Tg x i) →
  (∀ z∈s,isM i=true→noW z i=true)→(isM i=true→noW i i=true)→(p++i::s).Pairwise (fun x z=>isM x=true→noW z x=true)→(∀ x∈p,isM x=true→noW x x=true) →
  ∃ v H1 Tf',stepV P i T H v H1∧Chain P (p++s) (put T i.dst v) H1 Tf' Hf∧TEq Tf' Tf
 | [],T,H,Tf,Hf,h,hg,hs,hns,hni,hpw,hnp=>by
  cases h with
  | cons h k=>exact ⟨_,_,_,h,k,fun _=>rfl⟩
 | x::p,T,H,Tf,Hf,h,hg,hs,hns,hni,hpw,hnp=>by
  have h0:=h
  cases h with
  | cons hx k =>
   rw [List.cons_append,List.pairwise_cons] at hpw
   obtain ⟨v,H1,Tf',h1,h2,h3⟩:=Chain.frontD k hg (fun y hy=>hs y (by simp [hy])) hns hni hpw.2 (fun y hy=>hnp y (by simp [hy]))
   rcases hs x (by simp) with hsw|hsw
   ·obtain ⟨a1,a2,a3⟩:=swap_step hsw hx h1
    obtain ⟨Tf2,b1,b2⟩:=h2.congr (fun k=>(a3 k).symm)
    exact ⟨v,H1,Tf2,a1,.cons a2 b1,fun k=>(b2 k).symm.trans (h3 k)⟩
   ·obtain ⟨hmx,hmi,_,_⟩:=memB_kinds hsw.1
    have noWs:∀ {z x:AIns} {k:Nat},noW z x=true→k∈x.op.opds.flatMap Opd.t→isDst z.dst k=false:=by
     intro z x k hz hk
     have:=List.all_eq_true.1 hz k hk
     simpa using this
    have fx:∀ k∈x.op.opds.flatMap Opd.t,T.get k=Tg.get k:=by
     intro k' hk
     rw [←hg k']
     refine h0.keep (fun z hz=>?_)
     simp only [List.cons_append,List.mem_cons] at hz
     rcases hz with rfl|hz
     ·exact noWs (hnp z (by simp) hmx) hk
     ·exact noWs (hpw.1 z hz hmx) hk
    have hxi:∀ k'∈i.op.opds.flatMap Opd.t,isDst x.dst k'=false:=by
     intro k' hk
     have:=hsw.1
     unfold memB at this
     simp only [Bool.and_eq_true] at this
     have:=List.all_eq_true.1 this.1.1.1 k' (List.mem_append.2 (.inl hk))
     simpa using this
    have hpi:∀ z∈p,∀ k'∈i.op.opds.flatMap Opd.t,isDst z.dst k'=false:=by
     intro z hz k' hk
     rcases hs z (by simp [hz]) with hq|hq
     ·unfold swapOK at hq
      simp only [Bool.and_eq_true] at hq
      have:=List.all_eq_true.1 hq.1.1.1.2 k' (List.mem_append.2 (.inl hk))
      simpa using this
     ·have:=hq.1
      unfold memB at this
      simp only [Bool.and_eq_true] at this
      have:=List.all_eq_true.1 this.1.1.1 k' (List.mem_append.2 (.inl hk))
      simpa using this
    have fy:∀ k∈i.op.opds.flatMap Opd.t,T.get k=Tg.get k:=by
     intro k' hk
     rw [←hg k']
     refine h0.keep (fun z hz=>?_)
     simp only [List.cons_append,List.mem_cons,List.mem_append] at hz
     rcases hz with rfl|hz|rfl|hz
     ·exact hxi k' hk
     ·exact hpi z hz k' hk
     ·exact noWs (hni hmi) hk
     ·exact noWs (hns z hz hmi) hk
    obtain ⟨H1',a1,a2,a3⟩:=swap_stepD hsw fx fy hx h1
    obtain ⟨Tf2,b1,b2⟩:=h2.congr (fun k=>(a3 k).symm)
    exact ⟨v,H1',Tf2,a1,.cons a2 b1,fun k=>(b2 k).symm.trans (h3 k)⟩
theorem any_soundD {E0:Env} {w0:World} {n:NF} {ops:Array Oper} {D:List Nat} {Q:Exit→Act→World→Prop}
  (hD:∀ (i:Nat) (oi:Oper),ops[i]?=some oi→D.getD i 0=dmask D (direct oi)) (hlt:∀ (i:Nat) (oi:Oper),ops[i]?=some oi→∀ j∈direct oi,j<i) {Tf:Tm} {Hf:AHeap}
  (hQ:∀ T a w,TEq T Tf→St X E0 w0 n T Hf a w→Q .normal a w) :
  ∀ (fuel:Nat) (listed:Array Bool) (R:List (Nat×AIns)) (T:Tm) (H:AHeap) (a:Act) (w:World) (Tf':Tm),R.length=fuel→(∀ k,listed.getD k true=false↔k∈R.map (·.1)) →
   (R.Pairwise fun x y=>x.1≠y.1∧((D.getD y.1 0).testBit x.1=true∨swapOK x.2 y.2=true∨swapD Tf x.2 y.2)∧(isM x.2=true→noW y.2 x.2=true))→(∀ i,listed.getD i false=true→∀ k,(D.getD i 0).testBit k=true→listed.getD k false=true) →
   (∀ p∈R,isM p.2=true→noW p.2 p.2=true)→(∀ p∈R,∃ o,ops[p.1]?=some o∧cIns P an n ops o=some p.2)→Chain P (R.map (·.2)) T H Tf' Hf→TEq Tf' Tf→St X E0 w0 n T H a w→wpAny P .any ops Q fuel listed a w
 | fuel,listed,R,T,H,a,w,Tf',hl,h1,hpw,hcl,hnw,hin,hch,hte,hs=>by
  have hready:∀ i,listed.getD i true=false→i∈R.map (·.1):=fun i h=>(h1 i).1 h
  cases fuel with
  | zero =>
   have hR:R=[]:=List.eq_nil_of_length_eq_zero hl
   subst hR
   simp only [List.map_nil] at hch
   cases hch
   refine ⟨?_,hQ _ _ _ hte hs⟩
   rw [List.eq_nil_iff_forall_not_mem]
   intro i hi
   have:=(mem_ready.1 hi).1
   rw [h1] at this
   cases this
  | succ fuel =>
   have hne:Region.ready .any ops listed≠[]:=by
    have key:∀ k,listed.getD k true=false→∃ r,r∈Region.ready .any ops listed:=by
     intro k
     induction k using Nat.strongRecOn with
     | _ k ih =>
      intro hk
      have:=(h1 k).1 hk
      obtain ⟨p,hp,rfl⟩:=List.mem_map.1 this
      obtain ⟨o,ho,_⟩:=hin p hp
      by_cases hall:∀ e∈o.after,Region.binds .any e=true→listed.getD e.on false=true
      ·exact ⟨p.1,mem_ready.2 ⟨hk,o,ho,hall⟩⟩
      ·simp only [Classical.not_forall] at hall
       obtain ⟨e,he,hb,hno⟩:=hall
       have hj:e.on∈direct o:=List.mem_map.2 ⟨e,List.mem_filter.2 ⟨by simpa using he,hb⟩,rfl⟩
       have hlt':=hlt _ o ho _ hj
       refine ih e.on hlt' ?_
       by_cases hsz:e.on<listed.size
       ·simp [hsz] at hno ⊢
        exact hno
       ·exfalso
        have hk2:¬ p.1<listed.size:=by omega
        simp [hk2] at hk
    cases R with
    | nil=>simp at hl
    | cons p R =>
     have:listed.getD p.1 true=false:=(h1 p.1).2 (by simp)
     obtain ⟨r,hr⟩:=key p.1 this
     intro h
     rw [h] at hr
     cases hr
   refine ⟨fun h=>absurd h hne,fun i hi=>?_⟩
   obtain ⟨hu,oi,hoi,hall⟩:=mem_ready.1 hi
   have hmem:=hready i hu
   obtain ⟨⟨i',ins⟩,hp,rfl⟩:=List.mem_map.1 hmem
   obtain ⟨p,s,rfl⟩:=List.append_of_mem hp
   have hDl:∀ k,(D.getD i' 0).testBit k=true→listed.getD k false=true:=by
    intro k hk
    rw [hD _ _ hoi] at hk
    obtain ⟨j,hj,hjk⟩:=dmask_bit hk
    obtain ⟨e,he,rfl⟩:=List.mem_map.1 hj
    obtain ⟨he1,he2⟩:=List.mem_filter.1 he
    have hjl:=hall e (by simpa using he1) he2
    rcases hjk with rfl|hjk
    ·exact hjl
    ·exact hcl _ hjl k hjk
   have hunl:∀ k,listed.getD k true=false→listed.getD k false=true→False:=by
    intro k a b
    by_cases hsz:k<listed.size
    ·simp [hsz] at a b
     rw [a] at b
     cases b
    ·simp [hsz] at a
   rw [List.pairwise_append] at hpw
   obtain ⟨pw1,pw2,pw3⟩:=hpw
   rw [List.pairwise_cons] at pw2
   have hsw:∀ x∈p.map (·.2),swapOK x ins=true∨swapD Tf x ins:=by
    intro x hx
    obtain ⟨⟨k,x'⟩,hkx,rfl⟩:=List.mem_map.1 hx
    obtain ⟨_,hh,_⟩:=pw3 _ hkx (i',ins) (by simp)
    rcases hh with hh|hh
    ·have hkl:=hDl k hh
     have hku:listed.getD k true=false:=(h1 k).2 (by simp only [List.map_append,List.mem_append];exact .inl (List.mem_map.2 ⟨_,hkx,rfl⟩))
     exact (hunl k hku hkl).elim
    ·exact hh
   rw [List.map_append,List.map_cons] at hch
   obtain ⟨v,H1,Tf2,hst,hch2,hte2⟩:=hch.frontD hte hsw (fun z hz hm=>by
    obtain ⟨q,hq,rfl⟩:=List.mem_map.1 hz
    exact (pw2.1 q hq).2.2 hm) (hnw (i',ins) (by simp)) (by
    rw [←List.map_cons,←List.map_append,List.pairwise_map,List.pairwise_append]
    exact ⟨pw1.imp fun h=>h.2.2,.cons (fun q hq=>(pw2.1 q hq).2.2) (pw2.2.imp fun h=>h.2.2),fun q hq r hr=>by
     rcases List.mem_cons.1 hr with rfl|hr
     ·exact (pw3 q hq _ (by simp)).2.2
     ·exact (pw3 q hq r (by simp [hr])).2.2⟩) (fun x hx=>by
    obtain ⟨q,hq,rfl⟩:=List.mem_map.1 hx
    exact hnw q (by simp [hq]))
   obtain ⟨o',ho',hci⟩:=hin (i',ins) (by simp)
   have hoo:o'=oi:=by
    have:some o'=some oi:=ho'.symm.trans hoi
    injection this
   subst hoo
   refine wpOp_mono ?_ (stepV_sound (Q:=Q) hci hoi hs hst)
   intro a1 w1 hs1
   refine any_soundD hD hlt hQ fuel (listed.setIfInBounds i' true) (p++s) _ H1 a1 w1 Tf2 (by simp at hl ⊢;omega) (fun k=>?_) ?_ (fun j hj k hk=>?_) (fun q hq=>hnw q (by simp at hq ⊢;rcases hq with h|h<;>simp [h])) (fun q hq=>hin q (by simp at hq ⊢;rcases hq with h|h<;>simp [h])) (by rw [List.map_append];exact hch2) (fun k=>(hte2 k).trans (hte k)) hs1
   ·by_cases hki:i'=k
    ·subst hki
     constructor
     ·intro h
      have:i'<listed.size:=by
       rcases Nat.lt_or_ge i' listed.size with h'|h'
       ·exact h'
       ·simp [Nat.not_lt.2 h'] at hu
      simp [this] at h
     ·intro h
      exfalso
      rw [List.map_append,List.mem_append] at h
      rcases h with h|h
      ·obtain ⟨q,hq,e⟩:=List.mem_map.1 h
       exact (pw3 q hq (i',ins) (by simp)).1 e
      ·obtain ⟨q,hq,e⟩:=List.mem_map.1 h
       exact (pw2.1 q hq).1 e.symm
    ·rw [getD_set_ne true hki,h1]
     simp only [List.map_append,List.map_cons,List.mem_append,List.mem_cons]
     constructor
     ·rintro (h|h|h)
      ·exact .inl h
      ·exact absurd h.symm hki
      ·exact .inr h
     ·rintro (h|h)
      ·exact .inl h
      ·exact .inr (.inr h)
   ·rw [List.pairwise_append]
    exact ⟨pw1,pw2.2,fun x hx y hy=>pw3 x hx y (by simp [hy])⟩
   ·by_cases hji:i'=j
    ·subst hji
     exact getD_set_true (hDl k hk)
    ·have hj':listed.getD j false=true:=by
      rw [getD_set_ne false hji] at hj
      exact hj
     exact getD_set_true (hcl j hj' k hk)
end Go.AM
namespace Go.AM
set_option linter.unusedVariables false
set_option linter.unusedSimpArgs false
variable {P:Program} {X:Nat→Prop} {E:Env} {w:World} {H:AHeap}
variable {an:An}
theorem VR.cells {w':World} (hc:∀ a v,w.cell? a=some v→w'.cell? a=some v) {av:AV} {v:Value} (hv:VR X E w av v):VR X E w' av v:=by
 induction hv with
 | any v=>exact .any v
 | bool b=>exact .bool b
 | int k n=>exact .int k n
 | str s hs=>exact .str s hs
 | nilFunc=>exact .nilFunc
 | nilIface=>exact .nilIface
 | nilPtr=>exact .nilPtr
 | nilMap=>exact .nilMap
 | nilS=>exact .nilS
 | rows clip sz es a c ad f hn hcc hclip hsz ha hL hcell _ ih=>exact .rows clip sz es a c ad f hn hcc hclip hsz ha hL (fun i j hi hj=>hc _ _ (hcell i j hi hj)) ih
 | loc i g off len sz clip e v he ho hg hl=>exact .loc i g off len sz clip e v he ho hg hl
 | ptr i g off e v he ho hg hl=>exact .ptr i g off e v he ho hg hl
 | rptr cs ad f hL hcell _ ih=>exact .rptr cs ad f hL (fun j hj=>hc _ _ (hcell j hj)) ih
 | mapr i g e v he ho hg hl=>exact .mapr i g e v he ho hg hl
 | fn f fs cs fs' cs' h1 h2 _ _ ih1 ih2=>exact .fn f fs cs fs' cs' h1 h2 ih1 ih2
 | iface t v u _ ih=>exact .iface t v u ih
 | agg cs vs h1 _ ih=>exact .agg cs vs h1 ih
 | tuple cs vs h1 _ ih=>exact .tuple cs vs h1 ih
theorem flat_go {cs:List AV} (h:flatY.go cs=true):∀ j (hj:j<cs.length),flatY cs[j]=true:=by
 induction cs with
 | nil=>intro j hj;simp at hj
 | cons c cs ih =>
  simp only [flatY.go,Bool.and_eq_true] at h
  intro j hj
  cases j with
  | zero=>exact h.1
  | succ j=>exact ih h.2 j (by simpa using hj)
theorem VR.flat {X X':Nat→Prop} {E E':Env} {w w':World} {av:AV} {v:Value} (hv:VR X E w av v) (h:flatY av=true):VR X' E' w' av v:=by
 induction hv with
 | any v=>exact .any v
 | bool b=>exact .bool b
 | int k n=>exact .int k n
 | str s hs=>exact .str s hs
 | nilFunc=>exact .nilFunc
 | nilIface=>exact .nilIface
 | nilPtr=>exact .nilPtr
 | nilMap=>exact .nilMap
 | nilS=>exact .nilS
 | agg cs vs h1 _ ih=>exact .agg cs vs h1 fun j hj hj'=>ih j hj hj' (flat_go (by simpa [flatY] using h) j hj)
 | _=>simp [flatY] at h
theorem BR.turn {w':World} (hc:∀ a v,w.cell? a=some v→w'.cell? a=some v) {e:Ent} {b:ABlk} (hb:BR X E w e b)
  (hB:∀ B,e.live=true→e.blk=some B→w'.heap[B]?=w.heap[B]?):BR X E w' e b:=by
 cases b with
 | dead g=>exact hb
 | cells g cs =>
  obtain ⟨h1,h2,h3,h4⟩:=hb
  refine ⟨h1,h2,h3,fun B hBe=>?_⟩
  obtain ⟨arr,t,lo,hi,k1,k2,k3,k4,k5⟩:=h4 B hBe
  refine ⟨arr,t,lo,hi,by rw [hB B h2 hBe];exact k1,k2,k3,k4,fun j hj=>?_⟩
  obtain ⟨u,m1,m2⟩:=k5 j hj
  exact ⟨u,m1,m2.cells hc⟩
 | map g es =>
  obtain ⟨h1,h2,B,ents,clock,k0,k1,k2,k3,k4⟩:=hb
  exact ⟨h1,h2,B,ents,clock,k0,by rw [hB B h2 k0];exact k1,k2,fun j hj hj'=>⟨(k3 j hj hj').1.cells hc,(k3 j hj hj').2.cells hc⟩,k4⟩
theorem cell_turn {D:Nat} {o o':Obj} (ho:w.heap[D]?=some o) (hc:o.isCells=false) (a:Addr) (v:Value) (h:w.cell? a=some v):(w.putObj D o').cell? a=some v:=by
 rw [←h]
 have hne:a.block≠D:=by
  intro e
  unfold World.cell? at h
  rw [e,ho] at h
  cases o<;>simp_all [Obj.isCells]
 exact World.cell?_of_block (World.putObj_heap_other hne)
theorem HR.put {D:Nat} {o o':Obj} (hr:HR X E w H) (ho:w.heap[D]?=some o) (hc:o.isCells=false) (hO:¬ Own E D):HR X E (w.putObj D o') H where
 len:=hr.len
 inj:=hr.inj
 own:=fun i e B h1 h2 h3=>⟨(hr.own i e B h1 h2 h3).1,by rw [World.putObj_size];exact (hr.own i e B h1 h2 h3).2⟩
 br:=fun i e b h1 h2=>(hr.br i e b h1 h2).turn (cell_turn ho hc) fun B hl hb=>World.putObj_heap_other fun eq=>hO ⟨e,List.mem_of_getElem? h1,hl,eq▸hb⟩
 bound:=fun B hX=>by rw [World.putObj_size];exact hr.bound B hX
theorem TR.put {D:Nat} {o o':Obj} {T:Tm} {tmps:Array Value} (h:TR X E w T tmps) (ho:w.heap[D]?=some o) (hc:o.isCells=false):TR X E (w.putObj D o') T tmps :=
 ⟨fun k=>(h.rel k).cells (cell_turn ho hc)⟩
theorem Ev.put {E0:Env} {w0:World} {D:Nat} {o':Obj} (h:Ev E0 w0 E w) (hB:w0.heap.size≤D):Ev E0 w0 E (w.putObj D o') where
 os:=h.os
 tape:=h.tape
 output:=h.output
 size:=by rw [World.putObj_size];exact h.size
 keep:=fun B hb hO=>by rw [World.putObj_heap_other (by omega)];exact h.keep B hb hO
 own:=h.own
 ext:=h.ext
 draw:=h.draw
theorem Ev.still {w':World} (h:Ev [] w [] w'):Ev E w E w' :=
 ⟨h.os,h.tape,h.output,h.size,fun B hB _=>h.keep B hB (fun ⟨e,he,_⟩=>by cases he),fun B hB=>.inl hB,fun i e he=>⟨e,he,Nat.le_refl _,fun _=>⟨rfl,rfl,rfl⟩⟩,h.draw⟩
theorem HR.still {w':World} (hr:HR X E w H) (h:Ev [] w [] w'):HR X E w' H :=
 hr.mono h.still fun B ⟨e,he,hl,hb⟩=>by
  obtain ⟨i,hi⟩:=List.getElem?_of_mem he
  exact h.keep B (hr.own i e B hi hl hb).2 (fun ⟨e,he,_⟩=>by cases he)
theorem Ev.alloc0 (w:World) (o:Obj):Ev [] w [] (w.alloc o) :=
 ⟨rfl,rfl,rfl,by simp,fun B hB _=>more_get w o B hB,fun B ⟨e,he,_⟩=>(by cases he),(fun i e h=>by simp at h),Nat.le_refl _⟩
def mkD (D:Nat):Deferred:={ target:=.collected D,args:=#[] }
def Dk (B:Nat) (E:Env) (w:World) (ds:List Deferred):Prop :=
 ∃ Ds:List Nat,ds=Ds.map mkD∧Ds.Nodup∧∀ D∈Ds,B≤D∧w.heap[D]?=some (.deferred (some []))∧¬ Own E D
theorem heap_lt {D:Nat} {o:Obj} (h:w.heap[D]?=some o):D<w.heap.size:=by
 rcases Nat.lt_or_ge D w.heap.size with h'|h'
 ·exact h'
 ·rw [Array.getElem?_eq_none h'] at h;cases h
theorem kept {E':Env} {w':World} {D:Nat} {o:Obj} (hev:Ev E w E' w') (h:w.heap[D]?=some o) (hO:¬ Own E D):w'.heap[D]?=some o∧¬ Own E' D :=
 ⟨by rw [hev.keep D (heap_lt h) hO];exact h,fun ho=>(hev.own D ho).elim hO fun hs=>by have:=heap_lt h;omega⟩
theorem Dk.mono {B:Nat} {E':Env} {w':World} {ds:List Deferred} (hev:Ev E w E' w') (h:Dk B E w ds):Dk B E' w' ds:=by
 obtain ⟨Ds,rfl,h1,h2⟩:=h
 exact ⟨Ds,rfl,h1,fun D hD=>⟨(h2 D hD).1,kept hev (h2 D hD).2.1 (h2 D hD).2.2⟩⟩
theorem RL.mono {n m:Nat} (hnm:n≤m) {a:AV} (h:RL n a):RL m a:=by
 induction h with
 | any=>exact .any
 | bool b=>exact .bool b
 | int k v=>exact .int k v
 | str s=>exact .str s
 | nilFunc=>exact .nilFunc
 | nilIface=>exact .nilIface
 | nilPtr=>exact .nilPtr
 | nilMap=>exact .nilMap
 | nilS=>exact .nilS
 | rows c sz es _ ih=>exact .rows c sz es ih
 | loc i g off len sz c h=>exact .loc i g off len sz c (by omega)
 | ptr i g off h=>exact .ptr i g off (by omega)
 | rptr cs _ ih=>exact .rptr cs ih
 | mapr i g h=>exact .mapr i g (by omega)
 | fn f fs cs _ _ ih ih'=>exact .fn f fs cs ih ih'
 | iface t v _ ih=>exact .iface t v ih
 | agg cs _ ih=>exact .agg cs ih
 | tuple cs _ ih=>exact .tuple cs ih
theorem get_mem:∀ {T:Tm} {k:Nat},T.get k=.any∨∃ p∈T,p.1=k∧T.get k=p.2
 | [],k=>.inl rfl
 | (d,v)::T,k=>by
  simp only [Tm.get]
  split
  ·rename_i h
   exact .inr ⟨(d,v),by simp,h,rfl⟩
  ·rcases get_mem (T:=T) (k:=k) with h|⟨p,h1,h2,h3⟩
   ·exact .inl h
   ·exact .inr ⟨p,by simp [h1],h2,h3⟩
def NF.fn (n B:Nat):NF:=⟨n,Dk B,Dk.mono,0,fun {E w ds} k _ ⟨Ds,h,h1,h2⟩=>⟨Ds,h,h1,fun D hD=>⟨(h2 D hD).1,(h2 D hD).2.1,fun ho=>(h2 D hD).2.2 (ho.take)⟩⟩⟩
theorem TR.take {T:Tm} {tmps:Array Value} (h:TR X E w T tmps) (n:Nat) (hT:∀ p∈T,RL n p.2):TR X (E.take n) w T tmps:=by
 refine ⟨fun k=>?_⟩
 rcases get_mem (T:=T) (k:=k) with h'|⟨p,q1,q2,q3⟩
 ·rw [h'];exact .any _
 ·have:=h.rel k
  rw [q3] at this ⊢
  exact this.take n (hT p q1)
structure NOk (w0:World) (n:NF):Prop where
 push:∀ {E:Env} {w:World} {ds:List Deferred},n.p E w ds→w0.heap.size≤w.heap.size→(∀ B,Own E B→B<w.heap.size)→n.p E (w.alloc (.deferred (some []))) (mkD w.heap.size::ds)
 turn:∀ {E:Env} {w:World} {ds:List Deferred} {l:Nat} {r:Loop} {o':Obj},n.p E w ds→w.heap[l]?=some (.loop r)→n.p E (w.putObj l o') ds
theorem NOk.fn (n:Nat) (w0:World):NOk w0 (NF.fn n w0.heap.size) where
 push:=by
  rintro E w ds ⟨Ds,rfl,h1,h2⟩ hs hO
  refine ⟨w.heap.size::Ds,rfl,List.nodup_cons.2 ⟨fun hm=>by have:=heap_lt (h2 _ hm).2.1;omega,h1⟩,fun D hD=>?_⟩
  rcases List.mem_cons.1 hD with rfl|hD
  ·exact ⟨hs,World.alloc_heap_new w _,fun ho=>by have:=hO _ ho;omega⟩
  ·exact ⟨(h2 D hD).1,by rw [more_get _ _ _ (heap_lt (h2 D hD).2.1)];exact (h2 D hD).2.1,(h2 D hD).2.2⟩
 turn:=by
  rintro E w ds l r o' ⟨Ds,rfl,h1,h2⟩ hl
  refine ⟨Ds,rfl,h1,fun D hD=>⟨(h2 D hD).1,?_,(h2 D hD).2.2⟩⟩
  have hne:D≠l:=fun e=>by
   have:=(h2 D hD).2.1
   rw [e,hl] at this
   cases this
  rw [World.putObj_heap_other hne]
  exact (h2 D hD).2.1
theorem leaves_marks {F:Fence} {n:Nat} {fn:Func} {tmps:Array Value} {R:Ending→World→Prop} {E0:Env} {w0:World} {T:Tm}:∀ (Ds:List Nat) (w:World),Ds.Nodup →
  (∀ D∈Ds,w0.heap.size≤D∧w.heap[D]?=some (.deferred (some []))∧¬ Own E D)→Ev E0 w0 E w→HR X E w H→TR X E w T tmps →
  (∀ w',Ev E0 w0 E w'→HR X E w' H→TR X E w' T tmps→∃ v,(results fn tmps).run P w'=.ok v w'∧R (.returned v) w')→LeavesInM F n P fn tmps R (Ds.map mkD) .returning w
 | [],w,_,_,h1,h2,h3,h=>h w h1 h2 h3
 | D::Ds,w,hnd,hD,h1,h2,h3,h=>by
  obtain ⟨b1,b2,b3⟩:=hD D (List.mem_cons_self ..)
  refine ⟨by simp,.inl ⟨D,_,rfl,run_takeDeferred b2,?_⟩⟩
  refine leaves_marks Ds _ (List.nodup_cons.1 hnd).2 (fun D' hD'=>?_) (h1.put b1) (h2.put b2 rfl b3) (h3.put b2 rfl) h
  obtain ⟨c1,c2,c3⟩:=hD D' (List.mem_cons_of_mem _ hD')
  have hne:D'≠D:=fun e=>(List.nodup_cons.1 hnd).1 (by rw [←e];exact hD')
  exact ⟨c1,by rw [World.putObj_heap_other hne];exact c2,c3⟩
end Go.AM
namespace Go.AM
set_option linter.unusedVariables false
set_option linter.unusedSimpArgs false
variable {P:Program} {X:Nat→Prop} {E:Env} {w:World} {H:AHeap} {ρ:Opd→AV} {ρc:Operand→Value} {o:Oper}
variable {an:An}
def dtab:List Oper→List Nat→List Nat
 | [],D=>D
 | o::os,D=>dtab os (D++[dmask D (direct o)])
def greedy (dm:Nat→Nat) (pl:Nat→Bool):Nat→Nat→List Nat→List Nat
 | 0,_,_=>[]
 | f+1,mask,rest =>
  match (match rest.find? (fun k=>pl k&&(dm k &&& mask)==dm k) with
   | some k=>some k
   | none=>rest.find? (fun k=>(dm k &&& mask)==dm k)) with
  | some k=>k::greedy dm pl f (mask ||| (1 <<< k)) (rest.erase k)
  | none=>[]
def pickO {α:Type} (l:List α):List Nat→Option (List (Nat×α))
 | []=>some []
 | k::ks=>match l[k]?,pickO l ks with
  | some x,some xs=>some ((k,x)::xs)
  | _,_=>none
def okDraw (D:List Nat) (os:List Oper) (R:List (Nat×AIns)):Bool :=
 (List.range os.length).all (fun i=>match os[i]? with|some o=>D.getD i 0==dmask D (direct o)&&(direct o).all (·<i)|none=>true) &&
 R.length==os.length&&(List.range os.length).all (fun i=>R.any (·.1==i))&&swapAll D R
def cDraw (P:Program) (an:An) (n:Nat) (ops:Array Oper):Option (List AIns) :=
 match mapMo (cIns P an n ops) ops.toList with
 | some is =>
  let D:=dtab ops.toList []
  let canon:=greedy (fun k=>D.getD k 0) (fun k=>match is[k]? with|some i=>i.isP|none=>false) is.length 0 (List.range is.length)
  match pickO is canon with
  | some R=>if okDraw D ops.toList R then some (R.map (·.2)) else none
  | none=>none
 | none=>none
theorem mapMo_get {α β:Type} {f:α→Option β}:∀ {l:List α} {r:List β},mapMo f l=some r→r.length=l.length∧∀ (i:Nat) (x:α) (y:β),l[i]?=some x→r[i]?=some y→f x=some y
 | [],r,h=>by simp [mapMo] at h;subst h;exact ⟨rfl,fun i x y h=>by simp at h⟩
 | a::as,r,h=>by
  simp only [mapMo] at h
  split at h
  ·rename_i b bs h1 h2
   injection h with h
   subst h
   obtain ⟨k1,k2⟩:=mapMo_get h2
   refine ⟨by simp [k1],fun i x y hx hy=>?_⟩
   cases i with
   | zero=>simp at hx hy;subst hx hy;exact h1
   | succ i=>simp at hx hy;exact k2 i x y hx hy
  ·cases h
theorem pickO_spec {α:Type} {l:List α}:∀ {ks:List Nat} {R:List (Nat×α)},pickO l ks=some R→∀ p∈R,l[p.1]?=some p.2
 | [],R,h=>by simp [pickO] at h;subst h;intro p hp;cases hp
 | k::ks,R,h=>by
  simp only [pickO] at h
  split at h
  ·rename_i x xs h1 h2
   injection h with h
   subst h
   intro p hp
   rcases List.mem_cons.1 hp with rfl|hp
   ·exact h1
   ·exact pickO_spec h2 p hp
  ·cases h
theorem mapMo_of_mem {α β:Type} {f:α→Option β}:∀ {l:List α} {r:List β},l.length=r.length→(∀ (i:Nat) (x:α) (y:β),l[i]?=some x→r[i]?=some y→f x=some y)→mapMo f l=some r
 | [],[],_,_=>rfl
 | [],_::_,h,_=>by simp at h
 | _::_,[],h,_=>by simp at h
 | a::as,b::bs,h,k=>by
  have h1:=k 0 a b rfl rfl
  have h2:=mapMo_of_mem (l:=as) (r:=bs) (by simpa using h) (fun i x y hx hy=>k (i+1) x y (by simpa using hx) (by simpa using hy))
  simp [mapMo,h1,h2]
theorem draw_sound {n:NF} {ops:Array Oper} {is:List AIns} (hm:P.follows .mixedOrders=true) (h:cDraw P an n ops=some is):DrawOk P n ops is:=by
 unfold cDraw at h
 split at h
 ·rename_i is0 h0
  simp only at h
  split at h
  ·rename_i R hR
   split at h
   ·rename_i hok
    injection h with h
    subst h
    obtain ⟨m1,m2⟩:=mapMo_get h0
    have hR':=pickO_spec hR
    unfold okDraw at hok
    simp only [Bool.and_eq_true] at hok
    obtain ⟨⟨⟨o1,o2⟩,o3⟩,o4⟩:=hok
    have hin:∀ p∈R,∃ o,ops[p.1]?=some o∧cIns P an n ops o=some p.2:=by
     intro p hp
     have h1:=hR' p hp
     have hlt:=lt_of_get h1
     have hlt':p.1<ops.size:=by rw [m1] at hlt;simpa using hlt
     refine ⟨ops[p.1],Array.getElem?_eq_getElem hlt',m2 p.1 _ _ ?_ h1⟩
     simp [hlt']
    intro X E0 w0 K T H a w id Q hQ hs hrun
    have hos:∃ os:List Oper,mapMo (cIns P an n ops) os=some (R.map (·.2)):=by
     refine ⟨R.map (fun p=>(ops[p.1]?).getD default),mapMo_of_mem (by simp) (fun i x y hx hy=>?_)⟩
     rw [List.getElem?_map] at hx hy
     cases hRi:R[i]? with
     | none=>rw [hRi] at hx;cases hx
     | some p =>
      rw [hRi] at hx hy
      simp at hx hy
      obtain ⟨o,q1,q2⟩:=hin p (List.mem_of_getElem? hRi)
      rw [q1] at hx
      simp at hx
      subst hx hy
      exact q2
    obtain ⟨os,hos⟩:=hos
    have hs':St X E0 w0 n T H a { w with drawn:=w.drawn+1 }:=by
     obtain ⟨E,hev,hr,ht,hn,hd⟩:=hs
     exact ⟨E,hev.drew _,hr.drew _,ht.mono ((Ev.refl E w).drew _),hn,n.mono ((Ev.refl E w).drew _) hd⟩
    obtain ⟨Tf,Hf,Tk,hch,hTk,hK⟩:=chain_of _ os T H a _ hos hs' hrun
    refine RegW.any hm ?_
    refine any_sound (D:=dtab ops.toList []) (Tf:=Tf) (Hf:=Hf) (fun i oi hi=>?_) (fun i oi hi j hj=>?_) (fun T' a' w' hte hst=>?_) ops.size _ R T H a _ Tf ?_ (fun k=>?_) (swapAll_pw o4) (fun i hi=>?_) hin hch (fun _=>rfl) hs'
    ·have hlt:i<ops.size:=by
      rcases Nat.lt_or_ge i ops.size with h'|h'
      ·exact h'
      ·rw [Array.getElem?_eq_none h'] at hi;cases hi
     have:=List.all_eq_true.1 o1 i (List.mem_range.2 (by simpa using hlt))
     rw [show ops.toList[i]?=some oi by simpa using hi] at this
     simp only [Bool.and_eq_true] at this
     simpa using this.1
    ·have hlt:i<ops.size:=by
      rcases Nat.lt_or_ge i ops.size with h'|h'
      ·exact h'
      ·rw [Array.getElem?_eq_none h'] at hi;cases hi
     have:=List.all_eq_true.1 o1 i (List.mem_range.2 (by simpa using hlt))
     rw [show ops.toList[i]?=some oi by simpa using hi] at this
     simp only [Bool.and_eq_true] at this
     have:=List.all_eq_true.1 this.2 j hj
     simpa using this
    ·obtain ⟨E,hev,hr,ht,hn,hd⟩:=hst
     exact hQ Tk Hf a' w' hK ⟨E,hev,hr,⟨fun k=>by rw [←hTk k,←hte k];exact ht.rel k⟩,hn,hd⟩
    ·simpa using o2
    ·constructor
     ·intro h
      have hlt:k<ops.size:=by
       rcases Nat.lt_or_ge k ops.size with h'|h'
       ·exact h'
       ·simp [Nat.not_lt.2 h'] at h
      have:=List.all_eq_true.1 o3 k (List.mem_range.2 (by simpa using hlt))
      obtain ⟨p,hp,hpk⟩:=List.any_eq_true.1 this
      exact List.mem_map.2 ⟨p,hp,by simpa using hpk⟩
     ·intro h
      obtain ⟨p,hp,rfl⟩:=List.mem_map.1 h
      obtain ⟨o,q1,_⟩:=hin p hp
      have hlt:p.1<ops.size:=by
       rcases Nat.lt_or_ge p.1 ops.size with h'|h'
       ·exact h'
       ·rw [Array.getElem?_eq_none h'] at q1;cases q1
      simp [hlt]
    ·exfalso
     by_cases hlt:i<ops.size
     ·simp [hlt] at hi
     ·simp [hlt] at hi
   ·cases h
  ·cases h
 ·cases h
def swapAllD (D:List Nat):List (Nat×AIns)→Bool
 | []=>true
 | (k,x)::rest=>rest.all (fun (k',y)=>k != k'&&((D.getD k' 0).testBit k||swapOK x y||memB x y)&&(!isM x||noW y x))&&swapAllD D rest
def needs (D:List Nat):List (Nat×AIns)→List (AIns×AIns)
 | []=>[]
 | (k,x)::rest=>(rest.filterMap fun (k',y)=>if (D.getD k' 0).testBit k||swapOK x y then none else some (x,y))++needs D rest
theorem disP_mem:∀ {prs:List (AIns×AIns)} {T:Tm},disP prs T→∀ p∈prs,indB p.1.op p.2.op (Opd.ev T)=true
 | [],T,h,p,hp=>by cases hp
 | (x,y)::ps,T,h,p,hp=>by
  rcases List.mem_cons.1 hp with rfl|hp
  ·exact h.1
  ·exact disP_mem h.2 p hp
theorem TEq.symm {T T':Tm} (h:TEq T T'):TEq T' T:=fun k=>(h k).symm
theorem disP_congr:∀ {prs:List (AIns×AIns)} {T T':Tm},TEq T T'→disP prs T→disP prs T'
 | [],T,T',e,h=>trivial
 | (x,y)::ps,T,T',e,h=>⟨by rw [←h.1];exact indB_congr (fun a _=>TEq_ev fun k _=>(e k).symm) (fun a _=>TEq_ev fun k _=>(e k).symm),disP_congr e h.2⟩
theorem swapAllD_pw {D:List Nat} {Tf:Tm}:∀ {R:List (Nat×AIns)},swapAllD D R=true→disP (needs D R) Tf→R.Pairwise fun x y=>x.1≠y.1∧((D.getD y.1 0).testBit x.1=true∨swapOK x.2 y.2=true∨swapD Tf x.2 y.2)∧(isM x.2=true→noW y.2 x.2=true)
 | [],_,_=>.nil
 | (k,x)::rest,h,hd=>by
  simp only [swapAllD,Bool.and_eq_true] at h
  have hd':=disP_mem hd
  refine .cons (fun y hy=>?_) (swapAllD_pw h.2 (by
   have:∀ (l m:List (AIns×AIns)),disP (l++m) Tf→disP m Tf:=by
    intro l
    induction l with
    | nil=>intro m h;exact h
    | cons a l ih=>intro m h;exact ih m h.2
   exact this _ _ hd))
  obtain ⟨k',y⟩:=y
  have:=List.all_eq_true.1 h.1 _ hy
  simp only [Bool.and_eq_true,bne_iff_ne,ne_eq,Bool.or_eq_true] at this
  refine ⟨this.1.1,?_,fun hm=>by have h3:=this.2;simpa [hm] using h3⟩
  rcases this.1.2 with (h1|h1)|h1
  ·exact .inl h1
  ·exact .inr (.inl h1)
  ·by_cases hc:((D.getD k' 0).testBit k||swapOK x y)=true
   ·simp only [Bool.or_eq_true] at hc
    rcases hc with hc|hc
    ·exact .inl hc
    ·exact .inr (.inl hc)
   ·refine .inr (.inr ⟨h1,hd' (x,y) ?_⟩)
    simp only [needs]
    refine List.mem_append.2 (.inl (List.mem_filterMap.2 ⟨(k',y),hy,?_⟩))
    simp only [hc]
    rfl
def okDrawD (D:List Nat) (os:List Oper) (R:List (Nat×AIns)):Bool :=
 (List.range os.length).all (fun i=>match os[i]? with|some o=>D.getD i 0==dmask D (direct o)&&(direct o).all (·<i)|none=>true) &&
 R.length==os.length&&(List.range os.length).all (fun i=>R.any (·.1==i))&&swapAllD D R&&R.all (fun p=>!isM p.2||noW p.2 p.2)
def cDrawD (P:Program) (an:An) (n:Nat) (ops:Array Oper):Option (List AIns×List (AIns×AIns)) :=
 match mapMo (cIns P an n ops) ops.toList with
 | some is =>
  let D:=dtab ops.toList []
  let canon:=greedy (fun k=>D.getD k 0) (fun k=>match is[k]? with|some i=>i.isP|none=>false) is.length 0 (List.range is.length)
  match pickO is canon with
  | some R=>if okDrawD D ops.toList R then some (R.map (·.2),needs D R) else none
  | none=>none
 | none=>none
def DrawOkD (P:Program) (n:NF) (ops:Array Oper) (is:List AIns) (prs:List (AIns×AIns)):Prop :=
 ∀ (X:Nat→Prop) (E0:Env) (w0:World) (K:Tm→AHeap→Prop) (T:Tm) (H:AHeap) (a:Act) (w:World) (id:Nat) (Q:Exit→Act→World→Prop),
  (∀ T H a w,K T H→St X E0 w0 n T H a w→Q .normal a w)→St X E0 w0 n T H a w→runOps P true is (fun T H=>disP prs T∧K T H) T H→RegW P ops true Q a w
theorem draw_soundD {n:NF} {ops:Array Oper} {is:List AIns} {prs:List (AIns×AIns)} (hm:P.follows .mixedOrders=true) (h:cDrawD P an n ops=some (is,prs)):DrawOkD P n ops is prs:=by
 unfold cDrawD at h
 split at h
 ·rename_i is0 h0
  simp only at h
  split at h
  ·rename_i R hR
   split at h
   ·rename_i hok
    injection h with h
    injection h with h h'
    subst h h'
    obtain ⟨m1,m2⟩:=mapMo_get h0
    have hR':=pickO_spec hR
    unfold okDrawD at hok
    simp only [Bool.and_eq_true] at hok
    obtain ⟨⟨⟨⟨o1,o2⟩,o3⟩,o4⟩,o5⟩:=hok
    have hin:∀ p∈R,∃ o,ops[p.1]?=some o∧cIns P an n ops o=some p.2:=by
     intro p hp
     have h1:=hR' p hp
     have hlt:=lt_of_get h1
     have hlt':p.1<ops.size:=by rw [m1] at hlt;simpa using hlt
     refine ⟨ops[p.1],Array.getElem?_eq_getElem hlt',m2 p.1 _ _ ?_ h1⟩
     simp [hlt']
    intro X E0 w0 K T H a w id Q hQ hs hrun
    have hos:∃ os:List Oper,mapMo (cIns P an n ops) os=some (R.map (·.2)):=by
     refine ⟨R.map (fun p=>(ops[p.1]?).getD default),mapMo_of_mem (by simp) (fun i x y hx hy=>?_)⟩
     rw [List.getElem?_map] at hx hy
     cases hRi:R[i]? with
     | none=>rw [hRi] at hx;cases hx
     | some p =>
      rw [hRi] at hx hy
      simp at hx hy
      obtain ⟨o,q1,q2⟩:=hin p (List.mem_of_getElem? hRi)
      rw [q1] at hx
      simp at hx
      subst hx hy
      exact q2
    obtain ⟨os,hos⟩:=hos
    have hs':St X E0 w0 n T H a { w with drawn:=w.drawn+1 }:=by
     obtain ⟨E,hev,hr,ht,hn,hd⟩:=hs
     exact ⟨E,hev.drew _,hr.drew _,ht.mono ((Ev.refl E w).drew _),hn,n.mono ((Ev.refl E w).drew _) hd⟩
    obtain ⟨Tf,Hf,Tk,hch,hTk,hdis,hK⟩:=chain_of _ os T H a _ hos hs' hrun
    refine RegW.any hm ?_
    refine any_soundD (D:=dtab ops.toList []) (Tf:=Tf) (Hf:=Hf) (fun i oi hi=>?_) (fun i oi hi j hj=>?_) (fun T' a' w' hte hst=>?_) ops.size _ R T H a _ Tf ?_ (fun k=>?_) (swapAllD_pw o4 (disP_congr hTk.symm hdis)) (fun i hi=>?_) (fun p hp hm=>by have:=List.all_eq_true.1 o5 p hp;simpa [hm] using this) hin hch (fun _=>rfl) hs'
    ·have hlt:i<ops.size:=by
      rcases Nat.lt_or_ge i ops.size with h'|h'
      ·exact h'
      ·rw [Array.getElem?_eq_none h'] at hi;cases hi
     have:=List.all_eq_true.1 o1 i (List.mem_range.2 (by simpa using hlt))
     rw [show ops.toList[i]?=some oi by simpa using hi] at this
     simp only [Bool.and_eq_true] at this
     simpa using this.1
    ·have hlt:i<ops.size:=by
      rcases Nat.lt_or_ge i ops.size with h'|h'
      ·exact h'
      ·rw [Array.getElem?_eq_none h'] at hi;cases hi
     have:=List.all_eq_true.1 o1 i (List.mem_range.2 (by simpa using hlt))
     rw [show ops.toList[i]?=some oi by simpa using hi] at this
     simp only [Bool.and_eq_true] at this
     have:=List.all_eq_true.1 this.2 j hj
     simpa using this
    ·obtain ⟨E,hev,hr,ht,hn,hd⟩:=hst
     exact hQ Tk Hf a' w' hK ⟨E,hev,hr,⟨fun k=>by rw [←hTk k,←hte k];exact ht.rel k⟩,hn,hd⟩
    ·simpa using o2
    ·constructor
     ·intro h
      have hlt:k<ops.size:=by
       rcases Nat.lt_or_ge k ops.size with h'|h'
       ·exact h'
       ·simp [Nat.not_lt.2 h'] at h
      have:=List.all_eq_true.1 o3 k (List.mem_range.2 (by simpa using hlt))
      obtain ⟨p,hp,hpk⟩:=List.any_eq_true.1 this
      exact List.mem_map.2 ⟨p,hp,by simpa using hpk⟩
     ·intro h
      obtain ⟨p,hp,rfl⟩:=List.mem_map.1 h
      obtain ⟨o,q1,_⟩:=hin p hp
      have hlt:p.1<ops.size:=by
       rcases Nat.lt_or_ge p.1 ops.size with h'|h'
       ·exact h'
       ·rw [Array.getElem?_eq_none h'] at q1;cases q1
      simp [hlt]
    ·exfalso
     by_cases hlt:i<ops.size
     ·simp [hlt] at hi
     ·simp [hlt] at hi
   ·cases h
  ·cases h
 ·cases h
theorem any_soundG {E0:Env} {w0:World} {n:NF} {ops:Array Oper} {D:List Nat} {Q:Exit→Act→World→Prop} {rest:List Nat}
  (hD:∀ (i:Nat) (oi:Oper),ops[i]?=some oi→D.getD i 0=dmask D (direct oi)) (hlt:∀ (i:Nat) (oi:Oper),ops[i]?=some oi→∀ j∈direct oi,j<i) {Tf:Tm} {Hf:AHeap}
  (hrin:∀ k∈rest,∃ o,ops[k]?=some o)
  (hQ:∀ (listed:Array Bool) T a w,(∀ k,listed.getD k true=false↔k∈rest)→(∀ i,listed.getD i false=true→∀ k,(D.getD i 0).testBit k=true→listed.getD k false=true)→TEq T Tf→St X E0 w0 n T Hf a w→wpAny P .any ops Q rest.length listed a w) :
  ∀ (fuel:Nat) (listed:Array Bool) (R:List (Nat×AIns)) (T:Tm) (H:AHeap) (a:Act) (w:World) (Tf':Tm),R.length=fuel→(∀ k,listed.getD k true=false↔k∈R.map (·.1)∨k∈rest) →
   (R.Pairwise fun x y=>x.1≠y.1∧((D.getD y.1 0).testBit x.1=true∨swapOK x.2 y.2=true))→(∀ k∈rest,∀ p∈R,(D.getD k 0).testBit p.1=true∧k≠p.1)→(∀ i,listed.getD i false=true→∀ k,(D.getD i 0).testBit k=true→listed.getD k false=true) →
   (∀ p∈R,∃ o,ops[p.1]?=some o∧cIns P an n ops o=some p.2)→Chain P (R.map (·.2)) T H Tf' Hf→TEq Tf' Tf→St X E0 w0 n T H a w→wpAny P .any ops Q (fuel+rest.length) listed a w
 | fuel,listed,R,T,H,a,w,Tf',hl,h1,hpw,hrest,hcl,hin,hch,hte,hs=>by
  have hready:∀ i,listed.getD i true=false→i∈R.map (·.1)∨i∈rest:=fun i h=>(h1 i).1 h
  cases fuel with
  | zero =>
   have hR:R=[]:=List.eq_nil_of_length_eq_zero hl
   subst hR
   simp only [List.map_nil] at hch
   cases hch
   rw [Nat.zero_add]
   exact hQ listed _ _ _ (fun k=>by rw [h1];simp) hcl hte hs
  | succ fuel =>
   have hne:Region.ready .any ops listed≠[]:=by
    have key:∀ k,listed.getD k true=false→∃ r,r∈Region.ready .any ops listed:=by
     intro k
     induction k using Nat.strongRecOn with
     | _ k ih =>
      intro hk
      have hex:∃ o,ops[k]?=some o:=by
       rcases (h1 k).1 hk with h|h
       ·obtain ⟨p,hp,rfl⟩:=List.mem_map.1 h
        obtain ⟨o,ho,_⟩:=hin p hp
        exact ⟨o,ho⟩
       ·exact hrin k h
      obtain ⟨o,ho⟩:=hex
      by_cases hall:∀ e∈o.after,Region.binds .any e=true→listed.getD e.on false=true
      ·exact ⟨k,mem_ready.2 ⟨hk,o,ho,hall⟩⟩
      ·simp only [Classical.not_forall] at hall
       obtain ⟨e,he,hb,hno⟩:=hall
       have hj:e.on∈direct o:=List.mem_map.2 ⟨e,List.mem_filter.2 ⟨by simpa using he,hb⟩,rfl⟩
       have hlt':=hlt _ o ho _ hj
       refine ih e.on hlt' ?_
       by_cases hsz:e.on<listed.size
       ·simp [hsz] at hno ⊢
        exact hno
       ·exfalso
        have hk2:¬ k<listed.size:=by omega
        simp [hk2] at hk
    cases R with
    | nil=>simp at hl
    | cons p R =>
     have:listed.getD p.1 true=false:=(h1 p.1).2 (by simp)
     obtain ⟨r,hr⟩:=key p.1 this
     intro h
     rw [h] at hr
     cases hr
   have hunl:∀ k,listed.getD k true=false→listed.getD k false=true→False:=by
    intro k a b
    by_cases hsz:k<listed.size
    ·simp [hsz] at a b
     rw [a] at b
     cases b
    ·simp [hsz] at a
   rw [show fuel+1+rest.length=(fuel+rest.length)+1 by omega]
   refine ⟨fun h=>absurd h hne,fun i hi=>?_⟩
   obtain ⟨hu,oi,hoi,hall⟩:=mem_ready.1 hi
   have hDl:∀ k,(D.getD i 0).testBit k=true→listed.getD k false=true:=by
    intro k hk
    rw [hD _ _ hoi] at hk
    obtain ⟨j,hj,hjk⟩:=dmask_bit hk
    obtain ⟨e,he,rfl⟩:=List.mem_map.1 hj
    obtain ⟨he1,he2⟩:=List.mem_filter.1 he
    have hjl:=hall e (by simpa using he1) he2
    rcases hjk with rfl|hjk
    ·exact hjl
    ·exact hcl _ hjl k hjk
   have hmem:i∈R.map (·.1):=by
    rcases hready i hu with h|h
    ·exact h
    ·exfalso
     cases R with
     | nil=>simp at hl
     | cons p R =>
      have hb:=(hrest i h p (by simp)).1
      exact hunl p.1 ((h1 p.1).2 (by simp)) (hDl _ hb)
   obtain ⟨⟨i',ins⟩,hp,rfl⟩:=List.mem_map.1 hmem
   obtain ⟨p,s,rfl⟩:=List.append_of_mem hp
   rw [List.pairwise_append] at hpw
   obtain ⟨pw1,pw2,pw3⟩:=hpw
   rw [List.pairwise_cons] at pw2
   have hsw:∀ x∈p.map (·.2),swapOK x ins=true:=by
    intro x hx
    obtain ⟨⟨k,x'⟩,hkx,rfl⟩:=List.mem_map.1 hx
    obtain ⟨_,hh⟩:=pw3 _ hkx (i',ins) (by simp)
    rcases hh with hh|hh
    ·have hkl:=hDl k hh
     have hku:listed.getD k true=false:=(h1 k).2 (.inl (by simp only [List.map_append,List.mem_append];exact .inl (List.mem_map.2 ⟨_,hkx,rfl⟩)))
     exact (hunl k hku hkl).elim
    ·exact hh
   rw [List.map_append,List.map_cons] at hch
   obtain ⟨v,H1,Tf2,hst,hch2,hte2⟩:=hch.front hsw
   obtain ⟨o',ho',hci⟩:=hin (i',ins) (by simp)
   have hoo:o'=oi:=by
    have:some o'=some oi:=ho'.symm.trans hoi
    injection this
   subst hoo
   refine wpOp_mono ?_ (stepV_sound (Q:=Q) hci hoi hs hst)
   intro a1 w1 hs1
   refine any_soundG hD hlt hrin hQ fuel (listed.setIfInBounds i' true) (p++s) _ H1 a1 w1 Tf2 (by simp at hl ⊢;omega) (fun k=>?_) ?_ (fun k hk q hq=>hrest k hk q (by simp at hq ⊢;rcases hq with h|h<;>simp [h])) (fun j hj k hk=>?_) (fun q hq=>hin q (by simp at hq ⊢;rcases hq with h|h<;>simp [h])) (by rw [List.map_append];exact hch2) (fun k=>(hte2 k).trans (hte k)) hs1
   ·by_cases hki:i'=k
    ·subst hki
     constructor
     ·intro h
      have:i'<listed.size:=by
       rcases Nat.lt_or_ge i' listed.size with h'|h'
       ·exact h'
       ·simp [Nat.not_lt.2 h'] at hu
      simp [this] at h
     ·intro h
      exfalso
      rcases h with h|h
      ·rw [List.map_append,List.mem_append] at h
       rcases h with h|h
       ·obtain ⟨q,hq,e⟩:=List.mem_map.1 h
        exact (pw3 q hq (i',ins) (by simp)).1 e
       ·obtain ⟨q,hq,e⟩:=List.mem_map.1 h
        exact (pw2.1 q hq).1 e.symm
      ·exact (hrest _ h (i',ins) (by simp)).2 rfl
    ·rw [getD_set_ne true hki,h1]
     simp only [List.map_append,List.map_cons,List.mem_append,List.mem_cons]
     constructor
     ·rintro ((h|h|h)|h)
      ·exact .inl (.inl h)
      ·exact absurd h.symm hki
      ·exact .inl (.inr h)
      ·exact .inr h
     ·rintro ((h|h)|h)
      ·exact .inl (.inl h)
      ·exact .inl (.inr (.inr h))
      ·exact .inr h
   ·rw [List.pairwise_append]
    exact ⟨pw1,pw2.2,fun x hx y hy=>pw3 x hx y (by simp [hy])⟩
   ·by_cases hji:i'=j
    ·subst hji
     exact getD_set_true (hDl k hk)
    ·have hj':listed.getD j false=true:=by
      rw [getD_set_ne false hji] at hj
      exact hj
     exact getD_set_true (hcl j hj' k hk)
def okSplit (D:List Nat) (os:List Oper) (G1:List (Nat×AIns)) (c:Nat×AIns) (G2:List (Nat×AIns)):Bool :=
 (List.range os.length).all (fun i=>match os[i]? with|some o=>D.getD i 0==dmask D (direct o)&&(direct o).all (·<i)|none=>true) &&
 (G1.length+G2.length+1==os.length)&&(List.range os.length).all (fun i=>(G1++c::G2).any (·.1==i))&&swapAll D G1&&swapAll D G2&&c.2.guard.isNone &&
 G1.all (fun p=>p.1 != c.1&&(D.getD c.1 0).testBit p.1&&G2.all fun q=>p.1 != q.1&&(D.getD q.1 0).testBit p.1)&&G2.all (fun q=>q.1 != c.1&&(D.getD q.1 0).testBit c.1)
def cSplit (P:Program) (an:An) (n:Nat) (ops:Array Oper):Option ACode :=
 match mapMo (cIns P an n ops) ops.toList with
 | some is =>
  let D:=dtab ops.toList []
  let canon:=greedy (fun k=>D.getD k 0) (fun k=>match is[k]? with|some i=>i.isP&&!i.op.isCall|none=>false) is.length 0 (List.range is.length)
  match pickO is canon with
  | some R=>match R.findIdx? (fun p=>p.2.op.isCall&&okSplit D ops.toList (R.takeWhile (fun q=>q.1 != p.1)) p ((R.dropWhile (fun q=>q.1 != p.1)).drop 1)) with
   | some j=>match R[j]? with
    | some p=>if okSplit D ops.toList (R.take j) p (R.drop (j+1)) then some (.seq (.reg true ((R.take j).map (·.2))) (.seq (.reg false [p.2]) (.reg true ((R.drop (j+1)).map (·.2))))) else none
    | none=>none
   | none=>none
  | none=>none
 | none=>none
theorem split_sound {n:NF} {lo:Nat} {ops:Array Oper} {ac:ACode} (hm:P.follows .mixedOrders=true) (h:cSplit P an n ops=some ac) {E0:Env} {w0:World} {K:AEx→Tm→AHeap→Prop} {T:Tm} {H:AHeap} {a:Act} {w:World} {Q:Exit→Act→World→Prop}
  (hQ:∀ T H a w,K .normal T H→St X E0 w0 n T H a w→Q .normal a w) (hs:St X E0 w0 n T H a w) (hrun:run P lo ac K T H):RegW P ops true Q a w:=by
 unfold cSplit at h
 split at h
 ·rename_i is0 h0
  simp only at h
  split at h
  ·rename_i R hR
   split at h
   ·rename_i j hj
    split at h
    ·rename_i c hc
     split at h
     ·rename_i hok
      injection h with h
      subst h
      have hR':=pickO_spec hR
      have hRsplit:R=R.take j++c::R.drop (j+1):=by
       have hjl:=lt_of_get hc
       have:=List.take_append_drop j R
       rw [List.drop_eq_getElem_cons hjl] at this
       rw [List.getElem?_eq_getElem hjl] at hc
       injection hc with hc
       rw [hc] at this
       exact this.symm
      have hmemR:∀ p,p∈R.take j∨p=c∨p∈R.drop (j+1)→p∈R:=by
       intro p hp
       rw [hRsplit]
       simp only [List.mem_append,List.mem_cons]
       exact hp
      generalize R.take j=G1 at *
      generalize R.drop (j+1)=G2 at *
      obtain ⟨m1,m2⟩:=mapMo_get h0
      unfold okSplit at hok
      simp only [Bool.and_eq_true] at hok
      obtain ⟨⟨⟨⟨⟨⟨⟨o1,o2⟩,o3⟩,o4⟩,o5⟩,o6⟩,o7⟩,o8⟩:=hok
      have hin0:∀ p∈R,∃ o,ops[p.1]?=some o∧cIns P an n ops o=some p.2:=by
       intro p hp
       have h1:=hR' p hp
       have hlt:=lt_of_get h1
       have hlt':p.1<ops.size:=by rw [m1] at hlt;simpa using hlt
       refine ⟨ops[p.1],Array.getElem?_eq_getElem hlt',m2 p.1 _ _ ?_ h1⟩
       simp [hlt']
      have hin1:∀ p∈G1,∃ o,ops[p.1]?=some o∧cIns P an n ops o=some p.2:=fun p hp=>hin0 p (hmemR p (.inl hp))
      have hin2:∀ p∈G2,∃ o,ops[p.1]?=some o∧cIns P an n ops o=some p.2:=fun p hp=>hin0 p (hmemR p (.inr (.inr hp)))
      have hinc:=hin0 c (hmemR c (.inr (.inl rfl)))
      have hos:∀ G:List (Nat×AIns),(∀ p∈G,∃ o,ops[p.1]?=some o∧cIns P an n ops o=some p.2)→∃ os:List Oper,mapMo (cIns P an n ops) os=some (G.map (·.2)):=by
       intro G hin
       refine ⟨G.map (fun p=>(ops[p.1]?).getD default),mapMo_of_mem (by simp) (fun i x y hx hy=>?_)⟩
       rw [List.getElem?_map] at hx hy
       cases hRi:G[i]? with
       | none=>rw [hRi] at hx;cases hx
       | some p =>
        rw [hRi] at hx hy
        simp at hx hy
        obtain ⟨o,q1,q2⟩:=hin p (List.mem_of_getElem? hRi)
        rw [q1] at hx
        simp at hx
        subst hx hy
        exact q2
      have hltS:∀ (i:Nat) (oi:Oper),ops[i]?=some oi→i<ops.size:=fun i oi hi=>by
       rcases Nat.lt_or_ge i ops.size with h'|h'
       ·exact h'
       ·rw [Array.getElem?_eq_none h'] at hi;cases hi
      have hD:∀ (i:Nat) (oi:Oper),ops[i]?=some oi→(dtab ops.toList []).getD i 0=dmask (dtab ops.toList []) (direct oi):=by
       intro i oi hi
       have:=List.all_eq_true.1 o1 i (List.mem_range.2 (by simpa using hltS i oi hi))
       rw [show ops.toList[i]?=some oi by simpa using hi] at this
       simp only [Bool.and_eq_true] at this
       simpa using this.1
      have hlt:∀ (i:Nat) (oi:Oper),ops[i]?=some oi→∀ j∈direct oi,j<i:=by
       intro i oi hi j hj
       have:=List.all_eq_true.1 o1 i (List.mem_range.2 (by simpa using hltS i oi hi))
       rw [show ops.toList[i]?=some oi by simpa using hi] at this
       simp only [Bool.and_eq_true] at this
       have:=List.all_eq_true.1 this.2 j hj
       simpa using this
      have hs':St X E0 w0 n T H a { w with drawn:=w.drawn+1 }:=by
       obtain ⟨E,hev,hr,ht,hn,hd⟩:=hs
       exact ⟨E,hev.drew _,hr.drew _,ht.mono ((Ev.refl E w).drew _),hn,n.mono ((Ev.refl E w).drew _) hd⟩
      have conv:∀ {T1 T2:Tm} {H':AHeap} {a':Act} {w':World},TEq T1 T2→St X E0 w0 n T1 H' a' w'→St X E0 w0 n T2 H' a' w':=by
       intro T1 T2 H' a' w' hte hst
       obtain ⟨E,hev,hr,ht,hn,hd⟩:=hst
       exact ⟨E,hev,hr,⟨fun k=>by rw [←hte k];exact ht.rel k⟩,hn,hd⟩
      obtain ⟨os1,hos1⟩:=hos G1 hin1
      obtain ⟨os2,hos2⟩:=hos G2 hin2
      have hrun:runOps P true (G1.map (·.2)) (fun T H=>runOps P false [c.2] (fun T H=>runOps P true (G2.map (·.2)) (K .normal) T H) T H) T H:=hrun
      obtain ⟨Tf,Hf,Tk,hch,hTk,hK⟩:=chain_of _ os1 T H a _ hos1 hs' hrun
      have a7:∀ p∈G1,p.1≠c.1∧((dtab ops.toList []).getD c.1 0).testBit p.1=true∧∀ q∈G2,p.1≠q.1∧((dtab ops.toList []).getD q.1 0).testBit p.1=true:=by
       intro p hp
       have:=List.all_eq_true.1 o7 p hp
       simp only [Bool.and_eq_true,bne_iff_ne,ne_eq] at this
       refine ⟨this.1.1,this.1.2,fun q hq=>?_⟩
       have:=List.all_eq_true.1 this.2 q hq
       simp only [Bool.and_eq_true,bne_iff_ne,ne_eq] at this
       exact this
      have a8:∀ q∈G2,q.1≠c.1∧((dtab ops.toList []).getD q.1 0).testBit c.1=true:=by
       intro q hq
       have:=List.all_eq_true.1 o8 q hq
       simp only [Bool.and_eq_true,bne_iff_ne,ne_eq] at this
       exact this
      refine RegW.any hm ?_
      have hlen:ops.size=G1.length+(c.1::G2.map (·.1)).length:=by
       have:G1.length+G2.length+1=ops.toList.length:=by simpa using o2
       simp at this ⊢
       omega
      suffices hh:wpAny P .any ops Q (G1.length+(c.1::G2.map (·.1)).length) (Array.replicate ops.size false) a { w with drawn:=w.drawn+1 } by
       rw [←hlen] at hh
       exact hh
      refine any_soundG (D:=dtab ops.toList []) (Tf:=Tf) (Hf:=Hf) (rest:=c.1::G2.map (·.1)) hD hlt (fun k hk=>?_) (fun listed T1 a1 w1 hl1 hcl1 hte1 hst1=>?_) G1.length _ G1 T H a _ Tf rfl (fun k=>?_) (swapAll_pw o4) (fun k hk p hp=>?_) (fun i hi=>?_) hin1 hch (fun _=>rfl) hs'
      ·rcases List.mem_cons.1 hk with rfl|hk
       ·obtain ⟨o,q1,_⟩:=hinc;exact ⟨o,q1⟩
       ·obtain ⟨q,hq,rfl⟩:=List.mem_map.1 hk
        obtain ⟨o,q1,_⟩:=hin2 q hq
        exact ⟨o,q1⟩
      ·have hst:St X E0 w0 n Tk Hf a1 w1:=conv (fun k=>(hte1 k).trans (hTk k)) hst1
       obtain ⟨oc,hoc,hcic⟩:=hinc
       have hguard:c.2.guard=none:=by cases hg:c.2.guard<;>simp [hg] at o6 ⊢
       have hunl:∀ k,listed.getD k true=false→listed.getD k false=true→False:=by
        intro k a b
        by_cases hsz:k<listed.size
        ·simp [hsz] at a b
         rw [a] at b
         cases b
        ·simp [hsz] at a
       have hsized:∀ k,ops[k]?≠none→listed.getD k true≠false→k<listed.size→listed.getD k false=true:=by
        intro k _ hk hsz
        simp [hsz] at hk ⊢
        exact hk
       have hcu:listed.getD c.1 true=false:=(hl1 c.1).2 (by simp)
       have hcready:c.1∈Region.ready .any ops listed:=by
        refine mem_ready.2 ⟨hcu,oc,hoc,fun e he hb=>?_⟩
        have hj:e.on∈direct oc:=List.mem_map.2 ⟨e,List.mem_filter.2 ⟨by simpa using he,hb⟩,rfl⟩
        have hlt1:=hlt _ oc hoc _ hj
        have hcs:c.1<listed.size:=by
         rcases Nat.lt_or_ge c.1 listed.size with h'|h'
         ·exact h'
         ·simp [Nat.not_lt.2 h'] at hcu
        have hes:e.on<listed.size:=by omega
        cases hb':listed.getD e.on true with
        | true=>simp [hes] at hb' ⊢;exact hb'
        | false =>
         exfalso
         rcases List.mem_cons.1 ((hl1 e.on).1 hb') with h'|h'
         ·omega
         ·obtain ⟨q,hq,hqe⟩:=List.mem_map.1 h'
          have hbit:=(a8 q hq).2
          obtain ⟨oq,hoq,_⟩:=hin2 q hq
          have up:∀ (m:Nat) (i:Nat) (oi:Oper),i≤m→ops[i]?=some oi→∀ k,((dtab ops.toList []).getD i 0).testBit k=true→k<i:=by
           intro m
           induction m with
           | zero =>
            intro i oi hi hoi k hk
            rw [hD i oi hoi] at hk
            obtain ⟨j,hj,hjk⟩:=dmask_bit hk
            have:=hlt i oi hoi j hj
            omega
           | succ m ih =>
            intro i oi hi hoi k hk
            rw [hD i oi hoi] at hk
            obtain ⟨j,hj,hjk⟩:=dmask_bit hk
            have hji:=hlt i oi hoi j hj
            rcases hjk with rfl|hjk
            ·exact hji
            ·have hjs:j<ops.size:=by have:=hltS i oi hoi;omega
             have:=ih j ops[j] (by omega) (Array.getElem?_eq_getElem hjs) k hjk
             omega
          have:=up q.1 q.1 oq (Nat.le_refl _) hoq c.1 hbit
          omega
       have hlen2:(c.1::G2.map (·.1)).length=G2.length+1:=by simp
       rw [hlen2]
       refine ⟨fun h=>(by rw [h] at hcready;cases hcready),fun i hi=>?_⟩
       obtain ⟨hu,oi,hoi,hall⟩:=mem_ready.1 hi
       have hDl:∀ k,((dtab ops.toList []).getD i 0).testBit k=true→listed.getD k false=true:=by
        intro k hk
        rw [hD _ _ hoi] at hk
        obtain ⟨j,hj,hjk⟩:=dmask_bit hk
        obtain ⟨e,he,rfl⟩:=List.mem_map.1 hj
        obtain ⟨he1,he2⟩:=List.mem_filter.1 he
        have hjl:=hall e (by simpa using he1) he2
        rcases hjk with rfl|hjk
        ·exact hjl
        ·exact hcl1 _ hjl k hjk
       have hic:i=c.1:=by
        rcases List.mem_cons.1 ((hl1 i).1 hu) with h'|h'
        ·exact h'
        ·exfalso
         obtain ⟨q,hq,rfl⟩:=List.mem_map.1 h'
         exact hunl c.1 hcu (hDl _ (a8 q hq).2)
       subst hic
       have hoo:oc=oi:=by
        have:some oc=some oi:=hoc.symm.trans hoi
        injection this
       subst hoo
       have hwant:Region.wanted oc (yielded ops a1.tmps)=true:=by
        have cc:=cIns_spec hcic
        obtain ⟨E,hev,hr,ht,hn,hd⟩:=hst
        exact (guard_run ht cc.2.1).1 hguard
       have hrunc:runIns P false c.2 (fun T H=>runOps P true (G2.map (·.2)) (K .normal) T H) Tk Hf:=by
        have:=hK
        simp only [runOps,hguard] at this
        exact this
       refine wpOp_mono ?_ (ins_sound (Q:=Q) hcic hoc hwant hst hrunc)
       rintro a2 w2 ⟨T2,H2,hK2,hst2⟩
       obtain ⟨Tf2,Hf2,Tk2,hch2,hTk2,hKf⟩:=chain_of _ os2 T2 H2 a2 w2 hos2 hst2 hK2
       have hcs:c.1<listed.size:=by
        rcases Nat.lt_or_ge c.1 listed.size with h'|h'
        ·exact h'
        ·simp [Nat.not_lt.2 h'] at hcu
       refine any_sound (D:=dtab ops.toList []) (Tf:=Tf2) (Hf:=Hf2) hD hlt (fun T' a' w' hte hst=>hQ Tk2 Hf2 a' w' hKf (conv (fun k=>(hte k).trans (hTk2 k)) hst)) G2.length _ G2 T2 H2 a2 w2 Tf2 rfl (fun k=>?_) (swapAll_pw o5) (fun j hj k hk=>?_) hin2 hch2 (fun _=>rfl) hst2
       ·by_cases hki:c.1=k
        ·subst hki
         constructor
         ·intro h;simp [hcs] at h
         ·intro h
          obtain ⟨q,hq,e⟩:=List.mem_map.1 h
          exact absurd e (a8 q hq).1
        ·rw [getD_set_ne true hki,hl1]
         simp only [List.mem_cons]
         constructor
         ·rintro (h|h)
          ·exact absurd h.symm hki
          ·exact h
         ·exact .inr
       ·by_cases hji:c.1=j
        ·subst hji
         exact getD_set_true (hDl k hk)
        ·have hj':listed.getD j false=true:=by
          rw [getD_set_ne false hji] at hj
          exact hj
         exact getD_set_true (hcl1 j hj' k hk)
      ·constructor
       ·intro h
        have hlt:k<ops.size:=by
         rcases Nat.lt_or_ge k ops.size with h'|h'
         ·exact h'
         ·simp [Nat.not_lt.2 h'] at h
        have:=List.all_eq_true.1 o3 k (List.mem_range.2 (by simpa using hlt))
        obtain ⟨p,hp,hpk⟩:=List.any_eq_true.1 this
        have hpk:p.1=k:=by simpa using hpk
        rcases List.mem_append.1 hp with hp|hp
        ·exact .inl (List.mem_map.2 ⟨p,hp,hpk⟩)
        ·rcases List.mem_cons.1 hp with rfl|hp
         ·exact .inr (by simp [hpk])
         ·exact .inr (List.mem_cons_of_mem _ (List.mem_map.2 ⟨p,hp,hpk⟩))
       ·intro h
        have:∃ o,ops[k]?=some o:=by
         rcases h with h|h
         ·obtain ⟨p,hp,rfl⟩:=List.mem_map.1 h
          obtain ⟨o,q1,_⟩:=hin1 p hp
          exact ⟨o,q1⟩
         ·rcases List.mem_cons.1 h with rfl|h
          ·obtain ⟨o,q1,_⟩:=hinc;exact ⟨o,q1⟩
          ·obtain ⟨p,hp,rfl⟩:=List.mem_map.1 h
           obtain ⟨o,q1,_⟩:=hin2 p hp
           exact ⟨o,q1⟩
        obtain ⟨o,q1⟩:=this
        simp [hltS k o q1]
      ·rcases List.mem_cons.1 hk with rfl|hk
       ·exact ⟨(a7 p hp).2.1,fun e=>(a7 p hp).1 e.symm⟩
       ·obtain ⟨q,hq,rfl⟩:=List.mem_map.1 hk
        have:=(a7 p hp).2.2 q hq
        exact ⟨this.2,fun e=>this.1 e.symm⟩
      ·exfalso
       by_cases hlt:i<ops.size
       ·simp [hlt] at hi
       ·simp [hlt] at hi
     ·cases h
    ·cases h
   ·cases h
  ·cases h
 ·cases h
def calm:Code→Bool
 | .region _ ops _=>ops.all (fun o=>!isDefer o.op)
 | .seq a b|.cond _ a b=>calm a&&calm b
 | .block _ a|.loop a|.scope a=>calm a
 | .rangeFunc ..|.refuse _=>false
 | _=>true
def cCode (P:Program) (an:An) (n:Nat):Code→Option ACode
 | .skip|.label _=>some .skip
 | .region id ops draw=>if an.marks.contains (id+2000000) then some .stuck else (if draw then (if an.marks.contains (id+1000000) then cSplit P an n ops else (match cDraw P an n ops with|some is=>some (.reg true is)|none=>(cDrawD P an n ops).map fun p=>.regD p.1 p.2)) else (mapMo (cIns P an n ops) ops.toList).map (.reg false)).map fun c=>if an.marks.contains id then .seq .mark c else c
 | .seq a b=>match cCode P an n a,cCode P an n b with
  | some a,some b=>some (.seq a b)
  | _,_=>none
 | .cond c a b=>match cOpd c,cCode P an n a,cCode P an n b with
  | some c,some a,some b=>some (.cond c a b)
  | _,_,_=>none
 | .block id a=>(cCode P an n a).map (.block id)
 | .loop a=>(cCode P an n a).map .loop
 | .exit id=>some (.exit id)
 | .ret=>some .ret
 | .rangeFunc f ps a b=>match cOpd f,cCode P an n a,cCode P an n b with
  | some f,some a',some b'=>if calm a&&calm b&&ps.toList.all (fun p=>decide (p<n)) then some (.range f ps.toList a' b') else none
  | _,_,_=>none
 | _=>none
theorem calm2 {A:Prop} {a b:Bool} (h:A∨(a&&b)=true):(A∨a=true)∧(A∨b=true):=by
 rcases h with h|h
 ·exact ⟨.inl h,.inl h⟩
 ·simp only [Bool.and_eq_true] at h
  exact ⟨.inr h.1,.inr h.2⟩
theorem run_sound {E0:Env} {w0:World} {n:NF} {lo:Nat} {F:Fence} {rm:Nat} (hF:FOk F) (hm:P.follows .mixedOrders=true) (hlo:E0.length≤lo∧n.lo≤lo):∀ (c:Code) (ac:ACode) (K:AEx→Tm→AHeap→Prop) (T:Tm) (H:AHeap) (a:Act) (w:World),((F.round=none∧NOk w0 n)∨calm c=true) →
  cCode P an n c=some ac→run P lo ac K T H→St X E0 w0 n T H a w→c.wpIn F rm P (Qf X E0 w0 n K) a w
 | .skip,ac,K,T,H,a,w,hd,hc,h,hs=>by
  injection hc with hc
  subst hc
  exact wpIn_skip ⟨T,H,h,hs⟩
 | .label l,ac,K,T,H,a,w,hd,hc,h,hs=>by
  injection hc with hc
  subst hc
  exact wpIn_label ⟨T,H,h,hs⟩
 | .region id ops draw,ac,K,T,H,a,w,hd,hc,h,hs=>by
  simp only [cCode] at hc
  split at hc
  ·injection hc with hc
   subst hc
   exact h.elim
  obtain ⟨ac0,hc0,rfl⟩:=map_some hc
  clear hc
  have key:∀ T H,run P lo ac0 K T H→St X E0 w0 n T H a w→(Code.region id ops draw).wpIn F rm P (Qf X E0 w0 n K) a w:=by
   intro T H h hs
   refine RegW.wpIn hF (fun ⟨a,w,h⟩=>h) (hd.imp (fun h=>h.1) (fun h=>h)) ?_
   split at hc0
   ·rename_i hd
    subst hd
    split at hc0
    ·exact split_sound hm hc0 (fun T H a w hK hS=>⟨T,H,hK,hS⟩) hs h
    split at hc0
    ·rename_i is h1
     injection hc0 with hc0
     subst hc0
     exact draw_sound hm h1 X E0 w0 _ T H a w id _ (fun T H a w hK hS=>⟨T,H,hK,hS⟩) hs h
    ·obtain ⟨⟨is,prs⟩,h1,rfl⟩:=map_some hc0
     exact draw_soundD hm h1 X E0 w0 _ T H a w id _ (fun T H a w hK hS=>⟨T,H,hK,hS⟩) hs h
   ·rename_i hd
    have hd:draw=false:=by simpa using hd
    subst hd
    obtain ⟨is,h1,rfl⟩:=map_some hc0
    refine ⟨fun h=>(by cases h),fun _=>?_⟩
    refine ops_sound (fun T H a w hK hS=>⟨T,H,hK,hS⟩) is ops.toList _ T H a w (by rw [←mapMo_eq];exact h1) ?_ hs h
    apply List.ext_getElem?
    intro i
    rw [List.getElem?_map,List.getElem?_map]
    by_cases hi:i<ops.size
    ·simp [hi]
    ·simp [hi]
  by_cases hmk:an.marks.contains id=true
  ·rw [if_pos hmk] at h
   obtain ⟨T',H',hwk,h'⟩:=h
   exact key T' H' h' (hwk X E0 w0 n a w hlo hs)
  ·rw [if_neg hmk] at h
   exact key T H h hs
 | .seq x y,ac,K,T,H,a,w,hd,hc,h,hs=>by
  simp only [cCode] at hc
  split at hc
  ·rename_i x' y' h1 h2
   injection hc with hc
   subst hc
   refine wpIn_seq (wpIn_mono (run_sound hF hm hlo x x' _ T H a w (calm2 hd).1 h1 h hs) ?_)
   intro e a w hq
   cases e with
   | normal =>
    obtain ⟨T',H',hK,hS⟩:=hq
    exact run_sound hF hm hlo y y' K T' H' a w (calm2 hd).2 h2 hK hS
   | exit id=>exact hq
   | ret=>exact hq
   | _=>exact hq.elim
  ·cases hc
 | .cond c x y,ac,K,T,H,a,w,hd,hc,h,hs=>by
  simp only [cCode] at hc
  split at hc
  ·rename_i c' x' y' h0 h1 h2
   injection hc with hc
   subst hc
   simp only [run] at h
   split at h
   ·rename_i t ht
    have hev:a.eval c=.bool t:=by
     obtain ⟨E,hev,hr,htr,hn,hdd⟩:=hs
     have:=(OR.of htr).rel c c' h0
     rw [ht] at this
     exact this.inv_bool
    exact wpIn_cond_split hev (fun hb=>run_sound hF hm hlo x x' K T H a w (calm2 hd).1 h1 (h.1 hb) hs) (fun hb=>run_sound hF hm hlo y y' K T H a w (calm2 hd).2 h2 (h.2 hb) hs)
   ·cases h
  ·cases hc
 | .block id x,ac,K,T,H,a,w,hd,hc,h,hs=>by
  simp only [cCode] at hc
  obtain ⟨x',h1,rfl⟩:=map_some hc
  refine wpIn_block (wpIn_mono (run_sound hF hm hlo x x' _ T H a w hd h1 h hs) ?_)
  intro e a w hq
  cases e with
  | normal=>exact hq
  | exit id' =>
   obtain ⟨T',H',hK,hS⟩:=hq
   simp only [Exit.inBlock]
   simp only at hK
   split at hK
   ·rename_i hid;rw [if_pos hid];exact ⟨T',H',hK,hS⟩
   ·rename_i hid;rw [if_neg hid];exact ⟨T',H',hK,hS⟩
  | ret=>exact hq
  | _=>exact hq.elim
 | .loop x,ac,K,T,H,a,w,hd,hc,h,hs=>by
  simp only [cCode] at hc
  obtain ⟨x',h1,rfl⟩:=map_some hc
  simp only [run] at h
  obtain ⟨I,m,⟨T0,H0,hwk,hI⟩,hround⟩:=h
  refine wpIn_loop_ghost (fun k a w=>∃ T H,I k T H∧St X E0 w0 n T H a w) m ⟨T0,H0,hI,hwk X E0 w0 n a w hlo hs⟩ ?_
  intro k a w ⟨T1,H1,hI1,hS1⟩
  refine wpIn_mono (run_sound hF hm hlo x x' _ T1 H1 a w hd h1 (hround k T1 H1 hI1) hS1) ?_
  intro e a w hq
  cases e with
  | normal =>
   obtain ⟨T',H',⟨j,T2,H2,hj,hwk2,hI2⟩,hS⟩:=hq
   exact ⟨j,hj,T2,H2,hI2,hwk2 X E0 w0 n a w hlo hS⟩
  | exit id=>exact hq
  | ret=>exact hq
  | _=>exact hq.elim
 | .exit id,ac,K,T,H,a,w,hd,hc,h,hs=>by
  injection hc with hc
  subst hc
  exact wpIn_exit ⟨T,H,h,hs⟩
 | .ret,ac,K,T,H,a,w,hd,hc,h,hs=>by
  injection hc with hc
  subst hc
  exact wpIn_ret ⟨T,H,h,hs⟩
 | .rangeFunc f ps ca cb,ac,K,T,H,a,w,hd,hc,h,hs=>by
  rcases hd with hd|hd
  rotate_left
  ·cases hd
  obtain ⟨hro,hN⟩:=hd
  simp only [cCode] at hc
  split at hc
  ·rename_i f' a' b' hcf hca hcb
   split at hc
   ·rename_i hcalm
    injection hc with hc
    subst hc
    simp only [Bool.and_eq_true,List.all_eq_true,decide_eq_true_eq] at hcalm
    obtain ⟨⟨hca1,hcb1⟩,hps⟩:=hcalm
    obtain ⟨g,cap,N,enc,I,lo',hlo',hTlo,hcaplo,hf',hseq,henc,hI0,hround,hdone⟩:=h
    obtain ⟨E,hev,hr,htr,hn,hp⟩:=hs
    -- the iterator's value
    have hvf:=(OR.of htr).rel f f' hcf
    rw [hf'] at hvf
    obtain ⟨caps,e1,e2,e3⟩:∃ caps:Array Value,a.eval f=.func (.func g) #[] caps∧caps.size=cap.length∧∀ j (hj:j<cap.length) (hj':j<caps.size),VR X E w cap[j] caps[j]:=by
     generalize a.eval f=u at hvf
     cases hvf with
     | fn _ _ _ fs' cs' h1 h2 h3 h4 =>
      have:fs'=#[]:=Array.eq_empty_of_size_eq_zero (by simpa using h1)
      subst this
      exact ⟨cs',rfl,h2,h4⟩
    have hcaps:ArgsR X E w cap caps:=⟨e2,e3⟩
    obtain ⟨⟨gfn,hg1,hg2,hg3⟩,hseq⟩:=hseq
    have eg:∀ args w,(callFunc g args).run P w=.ok (.enter g args) w:=by
     intro args w
     have h4:¬ gfn.body=none:=by cases hb:gfn.body<;>simp_all
     have h5:¬ gfn.name="runtime.NumGoroutine":=by simpa using hg3
     simp [callFunc,hg1]
     rw [if_neg h5,if_neg h4]
    have hfn:∀ f,F.fn f:=by rcases hF with rfl|⟨l,rfl⟩<;>exact fun _=>trivial
    have hdep:F.depth=none:=by rcases hF with rfl|⟨l,rfl⟩<;>rfl
    have hwide:F=Fence.wide:=by
     rcases hF with rfl|⟨l,rfl⟩
     ·rfl
     ·cases hro
    subst hwide
    refine wpIn_rangeFunc ?_
    intro fn _
    rw [hro]
    obtain ⟨rec,hrec⟩:∃ rec:LoopState→Option Code→Loop,rec=fun st pe=>{ state:=st,pending:=pe,fn,tmps:=a.tmps,params:=ps,assign:=ca,body:=cb,defers:=w.heap.size }:=⟨_,rfl⟩
    obtain ⟨W1,hW1⟩:∃ W1,(w.alloc (.deferred (some []))).alloc (.loop (rec .ready none))=W1:=⟨_,rfl⟩
    have hown:∀ B,Own E B→B<w.heap.size:=fun B ⟨e,he,hl,hb⟩=>by
     obtain ⟨i,hi⟩:=List.getElem?_of_mem he
     exact (hr.own i e B hi hl hb).2
    have hp1:=hN.push hp hev.size hown
    have ev1:Ev [] w [] W1:=by rw [←hW1];exact (Ev.alloc0 w _).trans (Ev.alloc0 _ _)
    have hp2:n.p E W1 (mkD w.heap.size::a.defers):=by rw [←hW1];exact n.mono (Ev.alloc0 _ _).still hp1
    have hL1:W1.heap[w.heap.size+1]?=some (.loop (rec .ready none)):=by
     rw [←hW1];have:=World.alloc_heap_new (w.alloc (.deferred (some []))) (.loop (rec .ready none));rwa [World.size_alloc] at this
    have hOl:¬ Own E (w.heap.size+1):=fun ho=>by have:=hown _ ho;omega
    have hB:w0.heap.size≤w.heap.size+1:=by have:=hev.size;omega
    -- between two rounds;where a round has said 'no more'
    let In (st:LoopState) (pe:Option Code) (E:Env) (H:AHeap) (W:World):Prop :=
     Ev E0 w0 E W∧HR X E W H∧TR X E W T a.tmps∧n.p E W (mkD w.heap.size::a.defers)∧¬ Own E (w.heap.size+1)∧W.heap[w.heap.size+1]?=some (.loop (rec st pe))∧ArgsR X E W cap caps
    let J (k:Nat) (W:World):Prop:=∃ E H,I k H∧In .ready none E H W
    let Jx (W:World):Prop:=∃ E H,(K .ret T H∧In .done (some .ret) E H W)∨∃ id,K (.exit id) T H∧In .done (some (.exit id)) E H W
    have hIn:∀ st pe E H W W',In st pe E H W→Ev [] W [] W'→In st pe E H W':=by
     rintro st pe E H W W' ⟨a1,a2,a3,a4,a5,a6,a7⟩ hw
     exact ⟨a1.trans hw.still,a2.still hw,a3.mono hw.still,n.mono hw.still a4,a5,(kept hw.still a6 a5).1,⟨a7.1,fun j hj hj'=>(a7.2 j hj hj').mono hw.still⟩⟩
    have hput:∀ st pe st' pe' E H W,In st pe E H W→In st' pe' E H (W.putObj (w.heap.size+1) (.loop (rec st' pe'))):=by
     rintro st pe st' pe' E H W ⟨a1,a2,a3,a4,a5,a6,a7⟩
     exact ⟨a1.put hB,a2.put a6 rfl a5,a3.put a6 rfl,hN.turn a4 a6,a5,World.putObj_heap_same (heap_lt a6),⟨a7.1,fun j hj hj'=>(a7.2 j hj hj').cells (cell_turn a6 rfl)⟩⟩
    have hJ0:J 0 W1:=⟨E,H,hI0,hev.trans ev1.still,hr.still ev1,htr.mono ev1.still,hp2,hOl,hL1,⟨hcaps.1,fun j hj hj'=>(hcaps.2 j hj hj').mono ev1.still⟩⟩
    refine ⟨w.heap.size+1,[mkD w.heap.size],W1,{ target:=.fn (.func g) caps,args:=#[.func (.yield (w.heap.size+1)) #[] #[]] },W1,g,
     #[.func (.yield (w.heap.size+1)) #[] #[]]++caps,W1,?_,?_,fun _ _=>hfn _,?_,fun h=>by simp [hdep] at h,?_⟩
    ·rw [←hW1,hrec];exact run_enterLoop_outer _ _ _ _ _
    ·simp only [resolve,e1]
     simp [Deferred.ofValue]
     rfl
    ·simp [invoke,eg]
    ·refine (calls_F (.inl rfl) (hseq X caps (w.heap.size+1) J Jx W1 ?_ ?_ ?_ ?_ hJ0)).mono ?_
     ·rintro k W W' ⟨E,H,h1,h2⟩ hw
      exact ⟨E,H,h1,hIn _ _ _ _ _ _ h2 hw⟩
     ·rintro W W' ⟨E,H,h⟩ hw
      exact ⟨E,H,h.imp (fun h=>⟨h.1,hIn _ _ _ _ _ _ h.2 hw⟩) fun ⟨id,h1,h2⟩=>⟨id,h1,hIn _ _ _ _ _ _ h2 hw⟩⟩
     ·rintro k W ⟨E,H,h1,h2⟩
      exact ⟨E,H,h2.2.1,h1,h2.2.2.2.2.2.2⟩
     ·rintro k W args hk ⟨E,H,hi,hin⟩ hargs
      obtain ⟨hlen,hflat⟩:=henc k hk
      obtain ⟨a1,a2,a3,a4,a5,a6,a7⟩:=id hin
      have hy:=run_yield (P:=P) (args:=args) a6 (by rw [hrec];show args.size=ps.size;rw [hargs.1,hlen];simp)
      rw [hrec] at hy
      refine ⟨fn,_,ca,cb,hy,roundIn_of_wpIn trivial ?_⟩
      have a6':=a6
      rw [hrec] at a6'
      -- the round's frame
      let nr (st:LoopState):NF:=⟨n.n,fun E W ds=>ds=[]∧W.heap[w.heap.size+1]?=some (.loop (rec st none))∧¬ Own E (w.heap.size+1)∧n.p E W (mkD w.heap.size::a.defers)∧TR X E W T a.tmps∧ArgsR X E W cap caps,by
       rintro E W E' W' ds hev ⟨b1,b2,b3,b4,b5,b6⟩
       exact ⟨b1,(kept hev b2 b3).1,(kept hev b2 b3).2,n.mono hev b4,b5.mono hev,⟨b6.1,fun j hj hj'=>(b6.2 j hj hj').mono hev⟩⟩,lo',by
       rintro E W ds k hk ⟨b1,b2,b3,b4,b5,b6⟩
       exact ⟨b1,b2,fun ho=>b3 ho.take,n.cut k (by omega) b4,b5.take k (fun p hp=>(hTlo p hp).mono hk),⟨b6.1,fun j hj hj'=>(b6.2 j hj hj').take k ((hcaplo _ (List.getElem_mem _)).mono hk)⟩⟩⟩
      have hFr:FOk (Fence.wide.inRound (w.heap.size+1)):=.inr ⟨_,rfl⟩
      have hput':∀ st st' pe' (T1:Tm) (H1:AHeap) (a1:Act) (W1:World),St X E0 w0 (nr st) T1 H1 a1 W1 →
        ∃ E1,In st' pe' E1 H1 (W1.putObj (w.heap.size+1) (.loop (rec st' pe')))∧W1.heap[w.heap.size+1]?=some (.loop (rec st none))∧TR X E1 (W1.putObj (w.heap.size+1) (.loop (rec st' pe'))) T1 a1.tmps∧a1.tmps.size=n.n∧a1.defers=[]:=by
       rintro st st' pe' T1 H1 a1 W1 ⟨E1,b1,b2,b3,b4,c1,c2,c3,c4,c5,c6⟩
       refine ⟨E1,hput st none st' pe' E1 H1 W1 ⟨b1,b2,c5,c4,c3,c2,c6⟩,c2,b3.put c2 rfl,b4,c1⟩
      have hz:∀ (l:List Nat) (vs:List AV) (us:List Value) (T:Tm) (tmps:Array Value),vs.length=l.length→us.length=l.length→(∀ p∈l,p<tmps.size)→(∀ j (hj:j<vs.length) (hj':j<us.length),VR X E W vs[j] us[j])→TR X E W T tmps →
        TR X E W (putps T l vs) ((l.zip us).foldl (fun t (p,v)=>t.setIfInBounds p v) tmps)∧((l.zip us).foldl (fun t (p,v)=>t.setIfInBounds p v) tmps).size=tmps.size:=by
       intro l
       induction l with
       | nil=>intro vs us T tmps h1 h2 h3 h4 h5;cases vs<;>cases us<;>first|(exact ⟨h5,rfl⟩)|(simp at h1 h2)
       | cons p l ih =>
        intro vs us T tmps h1 h2 h3 h4 h5
        match vs,us,h1,h2 with
        | v::vs,u::us,h1,h2 =>
         simp only [List.zip_cons_cons,List.foldl_cons,putps]
         have:=ih vs us ((p,v)::T) (tmps.setIfInBounds p u) (by simpa using h1) (by simpa using h2) (fun q hq=>by simpa using h3 q (List.mem_cons_of_mem _ hq)) (fun j hj hj'=>h4 (j+1) (by simpa using hj) (by simpa using hj'))
          (h5.set (h3 p (List.mem_cons_self ..)) (h4 0 (by simp) (by simp)))
         exact ⟨this.1,by rw [this.2];simp⟩
      have hzz:=hz ps.toList (enc k) args.toList T a.tmps hlen (by simp [hargs.1,hlen]) (fun p hp=>by rw [hn];exact hps p hp) (fun j hj hj'=>(hargs.2 j hj (by simpa using hj')).flat (flat_go hflat j hj)) a3
      have hst0:St X E0 w0 (nr .ready) (putps T ps.toList (enc k)) H { tmps:=(ps.zip args).foldl (fun t (p,v)=>t.setIfInBounds p v) a.tmps,defers:=[] } W:=by
       have e:(ps.zip args).foldl (fun t (p,v)=>t.setIfInBounds p v) a.tmps=(ps.toList.zip args.toList).foldl (fun t (p,v)=>t.setIfInBounds p v) a.tmps:=by
        rw [←Array.foldl_toList,Array.toList_zip]
       refine ⟨E,a1,a2,?_,?_,rfl,a6,a5,a4,a3,a7⟩
       ·show TR X E W _ ((ps.zip args).foldl (fun t (p,v)=>t.setIfInBounds p v) a.tmps)
        rw [e];exact hzz.1
       ·show ((ps.zip args).foldl (fun t (p,v)=>t.setIfInBounds p v) a.tmps).size=n.n
        rw [e,hzz.2];exact hn
      refine wpIn_mono (run_sound (n:=nr .ready) (lo:=lo') hFr hm ⟨by omega,Nat.le_refl _⟩ ca a' _ _ H _ W (.inr hca1) hca (hround k H hk hi) hst0) ?_
      rintro e2 a2' W2 hq
      cases e2 with
      | normal =>
       obtain ⟨T2,H2,⟨_,hbody⟩,hs2⟩:=hq
       obtain ⟨E2,i1,i2,i3,i4,i5⟩:=hput' .ready .busy none T2 H2 a2' W2 hs2
       refine ⟨_,run_beginRound i2 (by rw [hrec]),?_⟩
       have e3:W2.putObj (w.heap.size+1) (.loop { rec .ready none with state:=.busy })=W2.putObj (w.heap.size+1) (.loop (rec .busy none)):=by rw [hrec]
       rw [e3]
       have hs3:St X E0 w0 (nr .busy) T2 H2 a2' (W2.putObj (w.heap.size+1) (.loop (rec .busy none))):=⟨E2,i1.1,i1.2.1,i3,i4,i5,i1.2.2.2.2.2.1,i1.2.2.2.2.1,i1.2.2.2.1,i1.2.2.1,i1.2.2.2.2.2.2⟩
       refine wpIn_mono (run_sound (n:=nr .busy) (lo:=lo') hFr hm ⟨by omega,Nat.le_refl _⟩ cb b' _ T2 H2 a2' _ (.inr hcb1) hcb hbody hs3) ?_
       rintro e4 a4' W4 hq4
       cases e4 with
       | normal =>
        obtain ⟨T4,H4,⟨H5,hwk,hI5⟩,hs4⟩:=hq4
        obtain ⟨E4,j1,j2,j3,j4,j5⟩:=hput' .busy .ready none T4 H4 a4' W4 hs4
        refine ⟨_,_,run_endRound none j2,.inl ⟨rfl,?_⟩⟩
        have e5:W4.putObj (w.heap.size+1) (.loop { rec .busy none with state:=if (none:Option Code).isNone then .ready else .done,pending:=none })=W4.putObj (w.heap.size+1) (.loop (rec .ready none)):=by rw [hrec];rfl
        rw [e5]
        let nk:NF:=⟨n.n,fun E W ds=>n.p E W ds∧¬ Own E (w.heap.size+1)∧W.heap[w.heap.size+1]?=some (.loop (rec .ready none))∧ArgsR X E W cap caps,by
         rintro E W E' W' ds hev ⟨b1,b2,b3,b4⟩
         exact ⟨n.mono hev b1,(kept hev b3 b2).2,(kept hev b3 b2).1,⟨b4.1,fun j hj hj'=>(b4.2 j hj hj').mono hev⟩⟩,lo',by
         rintro E W ds k hk ⟨b1,b2,b3,b4⟩
         exact ⟨n.cut k (by omega) b1,fun ho=>b2 ho.take,b3,⟨b4.1,fun j hj hj'=>(b4.2 j hj hj').take k ((hcaplo _ (List.getElem_mem _)).mono hk)⟩⟩⟩
        obtain ⟨E5,k1,k2,k3,k4,k5,k6,k7,k8⟩:=hwk X E0 w0 nk { tmps:=a.tmps,defers:=mkD w.heap.size::a.defers } _ ⟨by omega,Nat.le_refl _⟩ ⟨E4,j1.1,j1.2.1,j1.2.2.1,hn,j1.2.2.2.1,j1.2.2.2.2.1,j1.2.2.2.2.2.1,j1.2.2.2.2.2.2⟩
        exact ⟨E5,H5,hI5,k1,k2,k3,k5,k6,k7,k8⟩
       | ret =>
        obtain ⟨T4,H4,hk4,hs4⟩:=hq4
        obtain ⟨E4,j1,j2,j3,j4,j5⟩:=hput' .busy .done (some .ret) T4 H4 a4' W4 hs4
        refine ⟨_,_,run_endRound (some .ret) j2,.inr ⟨rfl,E4,H4,.inl ⟨hk4,?_⟩⟩⟩
        have e5:W4.putObj (w.heap.size+1) (.loop { rec .busy none with state:=if (some Code.ret).isNone then .ready else .done,pending:=some .ret })=W4.putObj (w.heap.size+1) (.loop (rec .done (some .ret))):=by rw [hrec];rfl
        rw [e5]
        exact j1
       | exit id =>
        obtain ⟨T4,H4,hk4,hs4⟩:=hq4
        obtain ⟨E4,j1,j2,j3,j4,j5⟩:=hput' .busy .done (some (.exit id)) T4 H4 a4' W4 hs4
        refine ⟨_,_,run_endRound (some (.exit id)) j2,.inr ⟨rfl,E4,H4,.inr ⟨id,hk4,?_⟩⟩⟩
        have e5:W4.putObj (w.heap.size+1) (.loop { rec .busy none with state:=if (some (Code.exit id)).isNone then .ready else .done,pending:=some (.exit id) })=W4.putObj (w.heap.size+1) (.loop (rec .done (some (.exit id)))):=by rw [hrec];rfl
        rw [e5]
        exact j1
       | _=>exact hq4.elim
      | exit id =>
       obtain ⟨_,_,⟨h,_⟩,_⟩:=hq
       cases h
      | ret =>
       obtain ⟨_,_,⟨h,_⟩,_⟩:=hq
       cases h
      | _=>exact hq.elim
     ·rintro e W2 ⟨⟨v,rfl⟩,h⟩
      rcases h with ⟨E,H,hi,hin⟩|⟨E,H,h⟩
      ·have hl:=hin.2.2.2.2.2.1
       have hq:=hput _ _ .exhausted none _ _ _ hin
       refine ⟨none,_,by have:=run_endLoop (P:=P) hl (by rw [hrec];simp);rw [hrec] at this;exact this,?_⟩
       rw [hrec] at hq
       exact ⟨T,H,hdone H hi,E,hq.1,hq.2.1,hq.2.2.1,hn,hq.2.2.2.1⟩
      ·rcases h with ⟨hk,hin⟩|⟨id,hk,hin⟩
       ·have hl:=hin.2.2.2.2.2.1
        have hq:=hput _ _ .exhausted (some .ret) _ _ _ hin
        refine ⟨some .ret,_,by have:=run_endLoop (P:=P) hl (by rw [hrec];simp);rw [hrec] at this;exact this,?_⟩
        rw [hrec] at hq
        exact wpIn_ret ⟨T,H,hk,E,hq.1,hq.2.1,hq.2.2.1,hn,hq.2.2.2.1⟩
       ·have hl:=hin.2.2.2.2.2.1
        have hq:=hput _ _ .exhausted (some (.exit id)) _ _ _ hin
        refine ⟨some (.exit id),_,by have:=run_endLoop (P:=P) hl (by rw [hrec];simp);rw [hrec] at this;exact this,?_⟩
        rw [hrec] at hq
        exact wpIn_exit ⟨T,H,hk,E,hq.1,hq.2.1,hq.2.2.1,hn,hq.2.2.2.1⟩
   ·cases hc
  ·cases hc
 | .scope _,ac,K,T,H,a,w,hd,hc,h,hs=>by cases hc
 | .goto _,ac,K,T,H,a,w,hd,hc,h,hs=>by cases hc
 | .refuse _,ac,K,T,H,a,w,hd,hc,h,hs=>by cases hc
end Go.AM
namespace Go.AM
set_option linter.unusedVariables false
set_option linter.unusedSimpArgs false
variable {P:Program} {X:Nat→Prop} {E:Env} {w:World} {H:AHeap} {ρ:Opd→AV} {ρc:Operand→Value} {o:Oper}
variable {an:An}
inductive ARes where
 | tmp (t:Nat)
 | cell (t n:Nat) (agg:Bool)
 deriving Inhabited
def cRes1 (P:Program):ResultVar→Option ARes
 | .tmp t=>some (.tmp t)
 | .cell a t=>match tyOf P t with
  | some (n,agg)=>some (.cell a n agg)
  | none=>none
def ares1 (T:Tm) (H:AHeap):ARes→Option AV
 | .tmp t=>some (T.get t)
 | .cell t n agg=>aload n agg H (T.get t)
def ares (rs:List ARes) (T:Tm) (H:AHeap):Option AV :=
 match mapMo (ares1 T H) rs with
 | some [v]=>some v
 | some vs=>some (.tuple vs)
 | none=>none
def argsT:Nat→List AV→Tm
 | _,[]=>[]
 | k,a::as=>(k,a)::argsT (k+1) as
theorem argsT_get:∀ (as:List AV) (k n:Nat),(argsT k as).get n=if h:k≤n∧n<k+as.length then as[n - k]'(by omega) else .any
 | [],k,n=>by
  simp only [argsT,Tm.get]
  rw [dif_neg (by rintro ⟨h1,h2⟩;simp at h2;omega)]
 | a::as,k,n=>by
  simp only [argsT,Tm.get]
  by_cases hk:k=n
  ·subst hk
   rw [if_pos rfl,dif_pos (by simp)]
   simp
  ·rw [if_neg hk,argsT_get as (k+1) n]
   by_cases h:k+1≤n∧n<k+1+as.length
   ·rw [dif_pos h,dif_pos (by simp;omega)]
    have:n - k=(n - (k+1))+1:=by omega
    simp only [this,List.getElem_cons_succ]
   ·rw [dif_neg h,dif_neg (by simp;omega)]
theorem load_run {t:TypeId} {n:Nat} {agg:Bool} {x av:AV} {v:Value} (ht:tyOf P t=some (n,agg)) (hv:VR X E w x v) (hr:HR X E w H) (h:aload n agg H x=some av) :
  ∃ ad u,v=.pointer (some ad)∧(loadVar t ad).run P w=.ok u w∧VR X E w av u:=by
 obtain ⟨i,d,a1,a2,a3,a4,a5,a6⟩:=tyOf_spec ht
 have key:∃ (ad:Addr) (cs:List AV) (f:Nat→Value),v=.pointer (some ad)∧loadCs n agg cs=some av∧(∀ j,j<cs.length→w.cell? (ad.add j)=some (f j))∧∀ j (hj:j<cs.length),VR X E w cs[j] (f j):=by
  unfold aload at h
  split at h
  ·rename_i j g off
   split at h
   ·rename_i g' cs hH
    split at h
    ·rename_i hg
     subst hg
     obtain ⟨e,B,he,hB,hp⟩:=ptr_own hv hr hH
     obtain ⟨f,hf⟩:=hr.row hH he hB
     refine ⟨⟨B,e.base+off,none⟩,cs.drop off,fun k=>f (off+k),hp,h,fun k hk=>?_,fun k hk=>?_⟩
     ·simp at hk
      rw [add_none,Nat.add_assoc]
      exact (hf (off+k) (by omega)).1
     ·simp at hk
      simpa using (hf (off+k) (by omega)).2.1
    ·cases h
   ·cases h
  ·rename_i cs
   obtain ⟨B,o',f,hp,_,hc,hv⟩:=hv.inv_rptr
   exact ⟨⟨B,o',none⟩,cs,f,hp,h,fun k hk=>by rw [add_none];exact hc k hk,hv⟩
  ·cases h
 obtain ⟨ad,cs,f,e1,e2,e3,e4⟩:=key
 obtain ⟨k1,k2⟩:=loadCs_sound e2 a6 f e4
 exact ⟨ad,_,e1,isAgg_run a2 a1 ad n a3 agg a5 a6 f (fun j hj=>e3 j (by omega)),k2⟩
theorem res_run {T:Tm} {tmps:Array Value} (ht:TR X E w T tmps) (hr:HR X E w H):∀ (rs:List ResultVar) (as:List ARes) (vs:List AV),mapMo (cRes1 P) rs=some as→mapMo (ares1 T H) as=some vs →
  ∃ us:List Value,(rs.mapM (fun r=>match r with
   | ResultVar.tmp t=>(Pure.pure (tmps.getD t undef):Sem Value)
   | ResultVar.cell a t=>do loadVar t (← asAddr (tmps.getD a undef)))).run P w=.ok us w∧us.length=vs.length∧∀ j (hj:j<vs.length) (hj':j<us.length),VR X E w vs[j] us[j]
 | [],as,vs,h1,h2=>by
  simp [mapMo] at h1
  subst h1
  simp [mapMo] at h2
  subst h2
  exact ⟨[],rfl,rfl,fun j hj=>by simp at hj⟩
 | r::rs,as,vs,h1,h2=>by
  simp only [mapMo] at h1
  split at h1
  ·rename_i a as' e1 e2
   injection h1 with h1
   subst h1
   simp only [mapMo] at h2
   split at h2
   ·rename_i v vs' e3 e4
    injection h2 with h2
    subst h2
    obtain ⟨us,q1,q2,q3⟩:=res_run ht hr rs as' vs' e2 e4
    have hone:∃ u,((match r with
      | ResultVar.tmp t=>(Pure.pure (tmps.getD t undef):Sem Value)
      | ResultVar.cell a t=>do loadVar t (← asAddr (tmps.getD a undef)))).run P w=.ok u w∧VR X E w v u:=by
     cases r with
     | tmp t =>
      injection e1 with e1
      subst e1
      injection e3 with e3
      subst e3
      exact ⟨tmps.getD t undef,rfl,ht.rel t⟩
     | cell c t =>
      simp only [cRes1] at e1
      split at e1
      ·rename_i n agg hty
       injection e1 with e1
       subst e1
       obtain ⟨ad,u,hp,hl,hv⟩:=load_run hty (ht.rel c) hr e3
       refine ⟨u,?_,hv⟩
       simp only [Sem.run_bind,hp,asAddr,Sem.run_pure,Result.andThen_ok]
       exact hl
      ·cases e1
    obtain ⟨u,r1,r2⟩:=hone
    refine ⟨u::us,?_,by simp [q2],fun j hj hj'=>?_⟩
    ·rw [List.mapM_cons]
     simp only [Sem.run_bind,Sem.run_pure]
     rw [r1]
     simp only [Result.andThen_ok]
     rw [q1]
     rfl
    ·cases j with
     | zero=>exact r2
     | succ j=>exact q3 j (by simpa using hj) (by simpa using hj')
   ·cases h2
  ·cases h1
structure AFn where
 n:Nat
 code:ACode
 res:List ARes
def cFn (P:Program) (an:An) (fn:Func):Option AFn :=
 match fn.body with
 | some c=>match cCode P an fn.ntmps c,mapMo (cRes1 P) fn.results.toList with
  | some ac,some rs=>if (fn.name=="runtime.NumGoroutine")=false then some ⟨fn.ntmps,ac,rs⟩ else none
  | _,_=>none
 | none=>none
theorem FT_of {f:FuncId} {fn:Func} {af:AFn} {args:List AV} {R:AV→AHeap→Prop} (hm:P.follows .mixedOrders=true) (hf:P.funcs[f]?=some fn) (hc:cFn P an fn=some af) (hn:args.length≤af.n)
  (h:run P H.length af.code (fun e T H'=>(e=.normal∨e=.ret)∧∃ rv,ares af.res T H'=some rv∧R rv H') (argsT 0 args) H):FT P f args H R:=by
 unfold cFn at hc
 split at hc
 ·rename_i c hb
  split at hc
  ·rename_i ac rs h1 h2
   split at hc
   ·rename_i hname
    injection hc with hc
    subst hc
    refine ⟨⟨fn,hf,by simp [hb],hname⟩,fun X E w vals hr ha=>?_⟩
    refine (callsIn_wide (n:=0)).1 (callsIn_of_wp_marks hf hb trivial ?_)
    have hs:St X E w (NF.fn fn.ntmps w.heap.size) (argsT 0 args) H { tmps:=vals++Array.replicate (fn.ntmps - vals.size) undef,defers:=[] } w:=by
     refine ⟨E,Ev.refl E w,hr,⟨fun k=>?_⟩,by have:=ha.1;show (vals++Array.replicate (fn.ntmps - vals.size) undef).size=fn.ntmps;simp;simp at hn;omega,[],rfl,List.nodup_nil,fun D hD=>by cases hD⟩
     rw [argsT_get]
     split
     ·rename_i hk
      have hk':k<vals.size:=by rw [ha.1];omega
      have:(vals++Array.replicate (fn.ntmps - vals.size) undef).getD k undef=vals[k]:=by
       simp [Array.getD,hk',Array.getElem_append_left hk']
       intro h
       omega
      simp only [this,Nat.sub_zero]
      exact ha.2 k (by omega) hk'
     ·exact .any _
    refine wpIn_mono (run_sound (n:=NF.fn fn.ntmps w.heap.size) (.inl rfl) hm ⟨by rw [hr.len];exact Nat.le_refl _,Nat.zero_le _⟩ c ac _ _ H _ w (.inl ⟨rfl,NOk.fn _ _⟩) h1 h hs) ?_
    have fin0:∀ (e:AEx) (a:Act) (w':World) (T:Tm) (H':AHeap),((e=.normal∨e=.ret)∧∃ rv,ares rs T H'=some rv∧R rv H')→∀ (E':Env),Ev E w E' w'→HR X E' w' H'→TR X E' w' T a.tmps →
      ∃ v,(results fn a.tmps).run P w'=.ok v w'∧∃ (v_1:Value) (rv:AV) (E':Env) (H':AHeap),Ending.returned v=.returned v_1∧R rv H'∧VR X E' w' rv v_1∧HR X E' w' H'∧Ev E w E' w':=by
     rintro e a w' T H' ⟨_,rv,hres,hR⟩ E' hev hr' ht
     unfold ares at hres
     cases hmm:mapMo (ares1 T H') rs with
     | none=>rw [hmm] at hres;cases hres
     | some vs =>
      obtain ⟨us,q1,q2,q3⟩:=res_run ht hr' _ _ _ h2 hmm
      have hmapM:((fn.results.mapM (fun r=>match r with
        | ResultVar.tmp t=>(Pure.pure (a.tmps.getD t undef):Sem Value)
        | ResultVar.cell c t=>do loadVar t (← asAddr (a.tmps.getD c undef)))):Sem (Array Value)).run P w'=.ok us.toArray w':=by
       rw [Array.mapM_eq_mapM_toList]
       simp only [Sem.run_map]
       rw [q1]
       rfl
      have hrun:(results fn a.tmps).run P w'=.ok (if h:us.toArray.size=1 then us.toArray[0] else .tuple us.toArray) w':=by
       unfold results
       simp only [Sem.run_bind]
       exact (congrArg (fun r=>Result.andThen r _) hmapM).trans rfl
      refine ⟨_,hrun,_,rv,E',H',rfl,hR,?_,hr',hev⟩
      rw [hmm] at hres
      split at hres
      ·rename_i v hv
       injection hv with hv
       subst hv
       injection hres with hres
       subst hres
       have hu:us.length=1:=by simpa using q2
       rw [dif_pos (by simpa using hu)]
       have:=q3 0 (by simp) (by omega)
       simpa using this
      ·rename_i vs' hno hv
       injection hv with hv
       subst hv
       injection hres with hres
       subst hres
       have hu:¬ us.toArray.size=1:=by
        intro hu
        simp at hu
        rw [q2] at hu
        match vs,hu,hno with
        | [v],_,hno=>exact hno v rfl
       rw [dif_neg hu]
       exact .tuple _ _ (by simpa using q2) (fun j hj hj'=>by simpa using q3 j hj (by simpa using hj'))
      ·rename_i hv
       cases hv
    have fin:∀ (e:AEx) (a:Act) (w':World),(∃ T H',((e=.normal∨e=.ret)∧∃ rv,ares rs T H'=some rv∧R rv H')∧St X E w (NF.fn fn.ntmps w.heap.size) T H' a w') →
      LeavesInM Fence.wide 0 P fn a.tmps (fun e w'=>∃ (v:Value) (rv:AV) (E':Env) (H':AHeap),e=.returned v∧R rv H'∧VR X E' w' rv v∧HR X E' w' H'∧Ev E w E' w') a.defers .returning w':=by
     rintro e a w' ⟨T,H',hend,E',hev0,hr0,ht0,_,Ds,hds,hnd,hD⟩
     rw [hds]
     refine leaves_marks Ds w' hnd hD hev0 hr0 ht0 fun w' hev hr' ht=>?_
     refine fin0 e a w' T H' hend E' hev hr' ht
    intro e a w' hq
    cases e with
    | normal=>exact fin .normal a w' hq
    | ret=>exact fin .ret a w' hq
    | exit id =>
     obtain ⟨T,H',⟨h,_⟩,_⟩:=hq
     rcases h with h|h<;>cases h
    | _=>exact hq.elim
   ·cases hc
  ·cases hc
 ·cases hc
end Go.AM
namespace Go.AM
set_option linter.unusedVariables false
set_option linter.unusedSimpArgs false
variable {P:Program} {X:Nat→Prop} {E:Env} {w:World} {H:AHeap}
variable {an:An}
def frz (k:Bool) (H:AHeap):Nat→AV→AV
 | 0,_=>.any
 | n+1,av=>match av with
  | .rows c sz es=>.rows (k&&c) sz (es.map fun e=>e.map (frz k H n))
  | .loc i g off len sz c=>match H[i]? with
   | some (.cells g' cs)=>if g=g'∧off+len*sz≤cs.length then .rows (k&&c) sz ((chunk sz (cs.drop off) len).map fun e=>e.map (frz k H n)) else .any
   | _=>.any
  | .ptr i g off=>match H[i]? with
   | some (.cells g' cs)=>if g=g' then .rptr ((cs.drop off).map (frz k H n)) else .any
   | _=>.any
  | .rptr cs=>.rptr (cs.map (frz k H n))
  | .mapr _ _=>.any
  | .fn f fs cs=>.fn f (fs.map (frz k H n)) (cs.map (frz k H n))
  | .iface t v=>.iface t (frz k H n v)
  | .agg cs=>.agg (cs.map (frz k H n))
  | .tuple cs=>.tuple (cs.map (frz k H n))
  | av=>av
theorem RL_frz (k:Bool) (H:AHeap):∀ (n:Nat) (av:AV),RL 0 (frz k H n av)
 | 0,av=>by simp [frz]
 | n+1,av=>by
  have ih:=RL_frz k H n
  cases av<;>simp [frz,ih]
  ·split
   ·split
    ·simp [ih]
    ·simp
   ·simp
  ·split
   ·split
    ·simp
     intro y hy
     obtain ⟨x,_,rfl⟩:=List.mem_map.1 (List.mem_of_mem_drop hy)
     exact ih x
    ·simp
   ·simp
theorem VR.frz (hr:HR X E w H) (k:Bool):∀ (n:Nat) {av:AV} {v:Value},VR X E w av v→VR X [] w (frz k H n av) v
 | 0,av,v,h=>.any v
 | n+1,av,v,h=>by
  have no:∀ B,¬ Own [] B:=fun B ⟨e,he,_⟩=>by cases he
  cases h with
  | any v=>exact .any v
  | bool b=>exact .bool b
  | int k n=>exact .int k n
  | str s hs=>exact .str s hs
  | nilFunc=>exact .nilFunc
  | nilIface=>exact .nilIface
  | nilPtr=>exact .nilPtr
  | nilMap=>exact .nilMap
  | nilS=>exact .nilS
  | rows clip sz es a c ad f hn hc hclip hsz ha hL hcell hv =>
   simp only [Go.AM.frz]
   have e:es.length=(es.map fun e=>e.map (Go.AM.frz k H n)).length:=by simp
   rw [e]
   refine .rows _ sz _ a c ad f (by simpa using hn) (by simpa using hc) (fun h=>by simp at h;simpa using hclip h.2) (fun i hi=>?_) (fun h0=>ha (by simpa using h0)) (fun h0 hz=>⟨(hL (by simpa using h0) hz).1,no _⟩) (fun i j hi hj=>hcell i j (by simpa using hi) hj) (fun i hi j hj=>?_)
   ·simp only [List.getElem_map,List.length_map]
    exact hsz i (by simpa using hi)
   ·simp only [List.getElem_map]
    simp at hi
    simp only [List.getElem_map,List.length_map] at hj
    exact (hv i hi j hj).frz hr k n
  | loc i g off len sz clip e v he ho hg hl =>
   simp only [Go.AM.frz]
   split
   ·rename_i g' cs hH
    split
    ·rename_i hc
     obtain ⟨hgg,hlen⟩:=hc
     subst hgg
     have hb:=hr.br i e _ he hH
     obtain ⟨a,c,q1,q2,q3,q4,q5⟩:=hl hb.1.symm
     have hbl:=hb.2.2.2
     obtain ⟨c1,c2,c3⟩:=chunk_spec (sz:=sz) len (cs.drop off) (by simp;omega)
     have c1:(chunk sz (cs.drop off) len).length=len:=c1
     have el:((chunk sz (cs.drop off) len).map fun e=>e.map (Go.AM.frz k H n)).length=len:=by simp [c1]
     subst q1
     have key:∀ B,e.blk=some B→∀ j,j<cs.length→∃ u,w.cell? ⟨B,e.base+j,none⟩=some u∧∀ hj:j<cs.length,VR X E w cs[j] u:=fun B hB j hj=>by
      obtain ⟨u,u1,u2,_⟩:=hr.cell hH he hB j hj
      exact ⟨u,u1,fun _=>u2⟩
     by_cases hc0:c=0
     ·have hl0:len=0:=by omega
      subst hl0
      simp only [chunk,List.map_nil]
      exact .rows _ sz [] a c ⟨0,0,none⟩ (fun _ _=>undef) (by simp) (by simp) (fun h=>by simp at h;have:=q4 h.2;omega) (fun i hi=>by simp at hi) (fun h=>by simp at h) (fun h=>by simp at h) (fun i j hi=>by simp at hi) (fun i hi=>by simp at hi)
     ·obtain ⟨B,hB,ha,hroom⟩:=q5 hc0
      have hX:=(hr.own i e B he hb.2.1 hB).1
      have:=VR.rows (X:=X) (E:=[]) (w:=w) (k&&clip) sz ((chunk sz (cs.drop off) len).map fun e=>e.map (Go.AM.frz k H n)) a c ⟨B,e.base+off,none⟩ (fun p j=>(w.cell? ⟨B,e.base+(off+(p*sz+j)),none⟩).getD undef)
       (by rw [el];exact q2) (by rw [el];exact q3) (fun h=>by rw [el];simp at h;exact q4 h.2) (fun p hp=>?_) (fun _=>by rw [ha]) (fun _ _=>⟨hX,no _⟩) (fun p j hp hj=>?_) (fun p hp j hj=>?_)
      ·rw [el] at this
       exact this
      ·simp only [List.getElem_map,List.length_map]
       exact c2 _ (List.getElem_mem _)
      ·rw [el] at hp
       have hlt:p*sz+j<len*sz:=by
        have:p*sz+sz≤len*sz:=by
         have:=Nat.mul_le_mul_right sz (show p+1≤len by omega)
         rw [Nat.add_mul] at this
         omega
        omega
       obtain ⟨u,u1,_⟩:=key B hB (off+(p*sz+j)) (by omega)
       rw [u1,show e.base+off+(p*sz+j)=e.base+(off+(p*sz+j)) by omega,u1]
       rfl
      ·simp only [List.getElem_map,List.length_map] at hp hj
       have hp':p<len:=by rw [c1] at hp;exact hp
       have hjs:j<sz:=by have:=c2 _ (List.getElem_mem (l:=chunk sz (cs.drop off) len) (n:=p) (by rw [c1];exact hp'));omega
       have hlt:p*sz+j<len*sz:=by
        have:p*sz+sz≤len*sz:=by
         have:=Nat.mul_le_mul_right sz (show p+1≤len by omega)
         rw [Nat.add_mul] at this
         omega
        omega
       obtain ⟨u,u1,u2⟩:=key B hB (off+(p*sz+j)) (by omega)
       simp only [u1,Option.getD_some,List.getElem_map]
       have hfe:=flat_get c2 p j (by rw [c1];exact hp') hjs
       rw [c3,List.getElem?_take,if_pos hlt,List.getElem?_drop,List.getElem?_eq_getElem (by omega),List.getElem?_eq_getElem hj] at hfe
       injection hfe with hfe
       rw [←hfe]
       exact (u2 (by omega)).frz hr k n
    ·exact .any _
   ·exact .any _
  | ptr i g off e v he ho hg hl =>
   simp only [Go.AM.frz]
   split
   ·rename_i g' cs hH
    split
    ·rename_i hgg
     subst hgg
     have hb:=hr.br i e _ he hH
     obtain ⟨B,hB,hp⟩:=hl hb.1.symm
     subst hp
     have hX:=(hr.own i e B he hb.2.1 hB).1
     refine .rptr _ ⟨B,e.base+off,none⟩ (fun j=>(w.cell? ⟨B,e.base+(off+j),none⟩).getD undef) (fun _=>⟨hX,no _⟩) (fun j hj=>?_) (fun j hj=>?_)
     ·simp at hj
      obtain ⟨u,u1,u2,_⟩:=hr.cell hH he hB (off+j) (by omega)
      rw [show e.base+off+j=e.base+(off+j) by omega,u1]
      rfl
     ·simp at hj
      obtain ⟨u,u1,u2,_⟩:=hr.cell hH he hB (off+j) (by omega)
      simp only [u1,Option.getD_some,List.getElem_map,List.getElem_drop]
      exact u2.frz hr k n
    ·exact .any _
   ·exact .any _
  | rptr cs ad f hL hcell hv =>
   simp only [Go.AM.frz]
   refine .rptr _ ad f (fun h0=>⟨(hL (by simpa using h0)).1,no _⟩) (fun j hj=>hcell j (by simpa using hj)) (fun j hj=>?_)
   simp at hj
   simp only [List.getElem_map]
   exact (hv j hj).frz hr k n
  | mapr i g e v he ho hg hl=>exact .any _
  | fn f fs cs fs' cs' h1 h2 hf hc =>
   simp only [Go.AM.frz]
   refine .fn f _ _ fs' cs' (by simpa using h1) (by simpa using h2) (fun j hj hj'=>?_) (fun j hj hj'=>?_)
   ·simp at hj
    simp only [List.getElem_map]
    exact (hf j hj hj').frz hr k n
   ·simp at hj
    simp only [List.getElem_map]
    exact (hc j hj hj').frz hr k n
  | iface t v u h =>
   simp only [Go.AM.frz]
   exact .iface t _ u (h.frz hr k n)
  | agg cs vs h1 h =>
   simp only [Go.AM.frz]
   refine .agg _ vs (by simpa using h1) (fun j hj hj'=>?_)
   simp at hj
   simp only [List.getElem_map]
   exact (h j hj hj').frz hr k n
  | tuple cs vs h1 h =>
   simp only [Go.AM.frz]
   refine .tuple _ vs (by simpa using h1) (fun j hj hj'=>?_)
   simp at hj
   simp only [List.getElem_map]
   exact (h j hj hj').frz hr k n
def lePs (R:AV→AV→Prop):List AV→List AV→Prop
 | [],[]=>True
 | a::as,b::bs=>R a b∧lePs R as bs
 | _,_=>False
def leP:Nat→AV→AV→Prop
 | 0,a,b=>a=b
 | n+1,a,b=>match b with
  | .any=>True
  | .agg bs=>match a with
   | .agg as=>lePs (leP n) as bs
   | _=>False
  | .tuple bs=>match a with
   | .tuple as=>lePs (leP n) as bs
   | _=>False
  | .rows c sz es=>match a with
   | .nilS=>es=[]
   | .rows c' sz' es'=>sz'=sz∧es'=es∧(c=true→c'=true)
   | _=>False
  | b=>a=b
theorem lePs_spec {R:AV→AV→Prop}:∀ {as bs:List AV},lePs R as bs→as.length=bs.length∧∀ j (hj:j<as.length) (hj':j<bs.length),R as[j] bs[j]
 | [],[],_=>⟨rfl,fun j hj=>by simp at hj⟩
 | a::as,b::bs,h=>by
  obtain ⟨h1,h2⟩:=h
  obtain ⟨k1,k2⟩:=lePs_spec h2
  refine ⟨by simp [k1],fun j hj hj'=>?_⟩
  cases j with
  | zero=>exact h1
  | succ j=>exact k2 j (by simpa using hj) (by simpa using hj')
 | [],_::_,h=>h.elim
 | _::_,[],h=>h.elim
theorem VR.le:∀ (n:Nat) {a b:AV} {v:Value},leP n a b→VR X E w a v→VR X E w b v
 | 0,a,b,v,h,hv=>by cases h;exact hv
 | n+1,a,b,v,h,hv=>by
  unfold leP at h
  split at h
  ·exact .any _
  ·split at h
   ·obtain ⟨k1,k2⟩:=lePs_spec h
    cases hv with
    | agg _ vs h1 hvv=>exact .agg _ vs (by omega) (fun j hj hj'=>(hvv j (by omega) hj').le n (k2 j (by omega) hj))
   ·cases h
  ·split at h
   ·obtain ⟨k1,k2⟩:=lePs_spec h
    cases hv with
    | tuple _ vs h1 hvv=>exact .tuple _ vs (by omega) (fun j hj hj'=>(hvv j (by omega) hj').le n (k2 j (by omega) hj))
   ·cases h
  ·split at h
   ·subst h
    cases hv
    exact .rows _ _ [] none 0 ⟨0,0,none⟩ (fun _ _=>undef) (by simp) (by simp) (fun _=>rfl) (fun i hi=>by simp at hi) (fun h=>by simp at h) (fun h=>by simp at h) (fun i j hi=>by simp at hi) (fun i hi=>by simp at hi)
   ·obtain ⟨rfl,rfl,hc⟩:=h
    cases hv with
    | rows _ _ _ a c ad f hn hc' hclip hsz ha hL hcell hvv=>exact .rows _ _ _ a c ad f hn hc' (fun h=>hclip (hc h)) hsz ha hL hcell hvv
   ·cases h
  ·subst h
   exact hv
theorem PF_of {an:An} {f:FuncId} {fn:Func} {af:AFn} {args:List AV} {r:AV} (n:Nat) (hm:P.follows .mixedOrders=true) (hf:P.funcs[f]?=some fn) (hc:cFn P an fn=some af) (hn:args.length≤af.n) (ha:∀ a∈args,RL 0 a) (hrl:RL 0 r)
  (h:run P 0 af.code (fun e T H'=>(e=.normal∨e=.ret)∧∃ rv,ares af.res T H'=some rv∧leP n (frz true H' n rv) r) (argsT 0 args) []):PF P f args r:=by
 have hft:=FT_of (P:=P) (R:=fun rv H'=>leP n (frz true H' n rv) r) hm hf hc hn (H:=[]) h
 refine ⟨ha,hrl,hft.1,?_⟩
 intro X E w vals hr hA
 refine (hft.2 X E w vals hr hA).mono ?_
 rintro e w' ⟨v,rv,E',H',rfl,hle,q1,q2,q3⟩
 have hE:E=[]:=List.length_eq_zero_iff.1 (by rw [hr.len];rfl)
 subst hE
 exact ⟨v,_,[],[],rfl,rfl,(q1.frz q2 true n).le n hle,⟨rfl,fun i j ei ej B h=>by simp at h,fun i e B h=>by simp at h,fun i e b h=>by simp at h,q2.bound⟩,
  ⟨q3.os,q3.tape,q3.output,q3.size,q3.keep,fun B hB=>.inl hB,(fun i e h=>by simp at h),q3.draw⟩⟩
theorem FT.le {f:FuncId} {as bs:List AV} {H:AHeap} {R:AV→AHeap→Prop} (n:Nat) (h:FT P f bs H R) (hl:lePs (leP n) as bs):FT P f as H R:=by
 obtain ⟨h1,h2⟩:=lePs_spec hl
 exact ⟨h.1,fun X E w vals hr ha=>h.2 X E w vals hr ⟨by rw [ha.1,h1],fun j hj hj'=>(ha.2 j (by omega) hj').le n (h2 j (by omega) hj)⟩⟩
theorem FT.mono {f:FuncId} {as:List AV} {H:AHeap} {R R':AV→AHeap→Prop} (h:FT P f as H R) (hR:∀ rv H',R rv H'→R' rv H'):FT P f as H R' :=
 ⟨h.1,fun X E w vals hr ha=>(h.2 X E w vals hr ha).mono fun e w' ⟨v,rv,E',H',k1,k2,k3⟩=>⟨v,rv,E',H',k1,hR rv H' k2,k3⟩⟩
theorem PF.call {f:FuncId} {as bs:List AV} {r:AV} {H:AHeap} {R:AV→AHeap→Prop} (h:PF P f bs r) (n:Nat) (hl:lePs (leP n) as bs) (hR:R r H):FT P f as H R :=
 ((h.frame H).mono (fun rv H' ⟨h1,h2⟩=>by rw [h1,h2];exact hR)).le n hl
theorem PF.le {f:FuncId} {as bs:List AV} {r:AV} (h:PF P f bs r) (n:Nat) (hl:lePs (leP n) as bs) (ha:∀ a∈as,RL 0 a):PF P f as r :=
 ⟨ha,h.2.1,h.2.2.le n hl⟩
end Go.AM
namespace Go.AM
set_option linter.unusedVariables false
set_option linter.unusedSimpArgs false
variable {P:Program}
theorem Wk.refl (lo:Nat) (T:Tm) (H:AHeap):Wk lo T H T H:=fun _ _ _ _ _ _ _ h=>h
theorem Wk.trans {lo:Nat} {T T' T'':Tm} {H H' H'':AHeap} (h:Wk lo T H T' H') (k:Wk lo T' H' T'' H''):Wk lo T H T'' H'' :=
 fun X E0 w0 n a w hlo hs=>k X E0 w0 n a w hlo (h X E0 w0 n a w hlo hs)
theorem Wk.sub {lo:Nat} {T T':Tm} {H:AHeap} (h:∀ p∈T',T.get p.1=p.2):Wk lo T H T' H:=by
 rintro X E0 w0 n a w hlo ⟨E,h1,h2,h3,h4⟩
 refine ⟨E,h1,h2,h3.sub fun k=>?_,h4⟩
 rcases get_mem (T:=T') (k:=k) with h'|⟨p,q1,q2,q3⟩
 ·exact .inl h'
 ·refine .inr ?_
  rw [q3,←h p q1,q2]
theorem Wk.trunc {lo:Nat} {T:Tm} {H:AHeap} (n:Nat) (hlo:lo≤n) (hT:∀ p∈T,RL n p.2) (hH:∀ b∈H.take n,RLB n b):Wk lo T H T (H.take n):=by
 rintro X E0 w0 m a w hlo' ⟨E,h1,h2,h3,h4⟩
 refine ⟨E.take n,h1.take n (by omega),h2.take n hH,⟨fun k=>?_⟩,h4.1,m.cut n (by omega) h4.2⟩
 rcases get_mem (T:=T) (k:=k) with h'|⟨p,q1,q2,q3⟩
 ·rw [h'];exact .any _
 ·have:=h3.rel k
  rw [q3] at this ⊢
  exact this.take n (hT p q1)
theorem Wk.to {lo:Nat} {T T':Tm} {H H':AHeap} (n:Nat) (hlo:lo≤n) (h1:∀ p∈T',T.get p.1=p.2) (h2:∀ p∈T',RL n p.2) (h3:H.take n=H') (h4:∀ b∈H',RLB n b):Wk lo T H T' H':=by
 subst h3
 exact (Wk.sub h1).trans (Wk.trunc n hlo h2 h4)
theorem Wk.resv {lo:Nat} {T:Tm} {H:AHeap}:Wk lo T H T (H++[.dead 0]):=by
 rintro X E0 w0 n a w hlo ⟨E,h1,h2,h3,h4⟩
 have hev:Ev E w (E++[⟨0,none,0,0,false⟩]) w:=by
  refine ⟨rfl,rfl,rfl,Nat.le_refl _,fun _ _ _=>rfl,fun B hB=>?_,fun i e he=>⟨e,?_,Nat.le_refl _,fun _=>⟨rfl,rfl,rfl⟩⟩,Nat.le_refl _⟩
  ·rcases Own.app.1 hB with h|⟨e,he,_,hb⟩
   ·exact .inl h
   ·simp at he;subst he;cases hb
  ·rw [List.getElem?_append_left (lt_of_get he)];exact he
 have hr:HR X (E++[⟨0,none,0,0,false⟩]) w (H++[.dead 0]):=by
  have last:∀ (i:Nat) (e:Ent),(E++[⟨0,none,0,0,false⟩])[i]?=some e→E[i]?=some e∨(i=E.length∧e=⟨0,none,0,0,false⟩):=by
   intro i e he
   rcases Nat.lt_or_ge i E.length with h'|h'
   ·rw [List.getElem?_append_left h'] at he;exact .inl he
   ·rw [List.getElem?_append_right h'] at he
    rcases Nat.eq_zero_or_pos (i - E.length) with h0|h0
    ·rw [h0] at he;simp at he;exact .inr ⟨by omega,he.symm⟩
    ·rw [List.getElem?_eq_none (by simp;omega)] at he;cases he
  refine ⟨by simp [h2.len],fun i j ei ej B q1 q2 q3 q4 q5 q6=>?_,fun i e B q1 q2 q3=>?_,fun i e b q1 q2=>?_,h2.bound⟩
  ·rcases last i ei q1 with q1|⟨_,rfl⟩
   ·rcases last j ej q2 with q2|⟨_,rfl⟩
    ·exact h2.inj i j ei ej B q1 q2 q3 q4 q5 q6
    ·cases q6
   ·cases q5
  ·rcases last i e q1 with q1|⟨_,rfl⟩
   ·exact h2.own i e B q1 q2 q3
   ·cases q3
  ·rcases last i e q1 with q1|⟨hi,rfl⟩
   ·rw [List.getElem?_append_left (by rw [←h2.len];exact lt_of_get q1)] at q2
    exact (h2.br i e b q1 q2).mono hev (fun _ _ _=>rfl)
   ·subst hi
    rw [h2.len,List.getElem?_append_right (Nat.le_refl _)] at q2
    simp at q2
    subst q2
    exact ⟨rfl,rfl⟩
 exact ⟨_,h1.trans hev,hr,h3.mono hev,h4.1,n.mono hev h4.2⟩
theorem Wk.resv2 {lo:Nat} {T:Tm} {H:AHeap}:Wk lo T H T (H++[.dead 0,.dead 0]):=by
 have:=(Wk.resv (lo:=lo) (T:=T) (H:=H)).trans Wk.resv
 rw [List.append_assoc] at this
 exact this
theorem Wk.nil {lo:Nat} {T:Tm} {H:AHeap} (t sz:Nat) (h:T.get t=.nilS):Wk lo T H ((t,.loc H.length 0 0 0 sz false)::T) (H++[.cells 0 []]):=by
 rintro X E0 w0 n a w hlo ⟨E,h1,h2,h3,h4⟩
 have hev:Ev E w (E++[⟨0,none,0,0,true⟩]) w:=by
  refine ⟨rfl,rfl,rfl,Nat.le_refl _,fun _ _ _=>rfl,fun B hB=>?_,fun i e he=>⟨e,?_,Nat.le_refl _,fun _=>⟨rfl,rfl,rfl⟩⟩,Nat.le_refl _⟩
  ·rcases Own.app.1 hB with h|⟨e,he,_,hb⟩
   ·exact .inl h
   ·simp at he;subst he;cases hb
  ·rw [List.getElem?_append_left (lt_of_get he)];exact he
 have hr:HR X (E++[⟨0,none,0,0,true⟩]) w (H++[.cells 0 []]):=by
  have last:∀ (i:Nat) (e:Ent),(E++[⟨0,none,0,0,true⟩])[i]?=some e→E[i]?=some e∨(i=E.length∧e=⟨0,none,0,0,true⟩):=by
   intro i e he
   rcases Nat.lt_or_ge i E.length with h'|h'
   ·rw [List.getElem?_append_left h'] at he;exact .inl he
   ·rw [List.getElem?_append_right h'] at he
    rcases Nat.eq_zero_or_pos (i - E.length) with h0|h0
    ·rw [h0] at he;simp at he;exact .inr ⟨by omega,he.symm⟩
    ·rw [List.getElem?_eq_none (by simp;omega)] at he;cases he
  refine ⟨by simp [h2.len],fun i j ei ej B q1 q2 q3 q4 q5 q6=>?_,fun i e B q1 q2 q3=>?_,fun i e b q1 q2=>?_,h2.bound⟩
  ·rcases last i ei q1 with q1|⟨_,rfl⟩
   ·rcases last j ej q2 with q2|⟨_,rfl⟩
    ·exact h2.inj i j ei ej B q1 q2 q3 q4 q5 q6
    ·cases q6
   ·cases q5
  ·rcases last i e q1 with q1|⟨_,rfl⟩
   ·exact h2.own i e B q1 q2 q3
   ·cases q3
  ·rcases last i e q1 with q1|⟨hi,rfl⟩
   ·rw [List.getElem?_append_left (by rw [←h2.len];exact lt_of_get q1)] at q2
    exact (h2.br i e b q1 q2).mono hev (fun _ _ _=>rfl)
   ·subst hi
    rw [h2.len,List.getElem?_append_right (Nat.le_refl _)] at q2
    simp at q2
    subst q2
    exact ⟨rfl,rfl,fun _=>rfl,fun B hB=>by cases hB⟩
 refine ⟨_,h1.trans hev,hr,⟨fun k=>?_⟩,h4.1,n.mono hev h4.2⟩
 simp only [Tm.get]
 split
 ·rename_i hk
  subst hk
  have:=h3.rel t
  rw [h] at this
  have hv:a.tmps.getD t undef=.slice none 0 0:=by generalize a.tmps.getD t undef=u at this;cases this;rfl
  rw [hv]
  exact .loc _ _ _ _ _ _ ⟨0,none,0,0,true⟩ _ (by rw [←h2.len];simp) rfl (Nat.le_refl _) (fun _=>⟨none,0,rfl,by simp,Nat.le_refl _,fun _=>rfl,fun h=>absurd rfl h⟩)
 ·exact (h3.rel k).mono hev
def ob {α:Type} (x:Option α) (K:α→Prop):Prop :=
 match x with
 | some a=>K a
 | none=>False
@[simp] theorem ob_some {α:Type} (a:α) (K:α→Prop):ob (some a) K=K a:=rfl
@[simp] theorem ob_none {α:Type} (K:α→Prop):ob none K=False:=rfl
@[simp] theorem ob_ite {α:Type} {c:Prop} [Decidable c] (x y:Option α) (K:α→Prop):ob (if c then x else y) K=if c then ob x K else ob y K:=by split<;>rfl
@[simp] theorem ob_map {α β:Type} (f:α→β) (x:Option α) (K:β→Prop):ob (x.map f) K=ob x fun a=>K (f a):=by cases x<;>rfl
def obK (x:Option AV) (K:Tm→AHeap→Prop) (T:Tm) (dst:Option Nat) (H:AHeap):Prop:=ob x fun v=>K (put T dst v) H
@[simp] theorem obK_some {v K T dst H}:obK (some v) K T dst H=K (put T dst v) H:=rfl
@[simp] theorem obK_none {K T dst H}:obK none K T dst H=False:=rfl
@[simp] theorem obK_ite {c:Prop} [Decidable c] {x y K T dst H}:obK (if c then x else y) K T dst H=if c then obK x K T dst H else obK y K T dst H:=by split<;>rfl
def obP (x:Option (AV×AHeap)) (K:Tm→AHeap→Prop) (T:Tm) (dst:Option Nat):Prop:=ob x fun p=>K (put T dst p.1) p.2
@[simp] theorem obP_some {v H K T dst}:obP (some (v,H)) K T dst=K (put T dst v) H:=rfl
@[simp] theorem obP_none {K T dst}:obP none K T dst=False:=rfl
@[simp] theorem obP_ite {c:Prop} [Decidable c] {x y K T dst}:obP (if c then x else y) K T dst=if c then obP x K T dst else obP y K T dst:=by split<;>rfl
def obH (x:Option AHeap) (K:Tm→AHeap→Prop) (T:Tm) (dst:Option Nat):Prop:=ob x fun H'=>K (put T dst .any) H'
@[simp] theorem obH_some {H K T dst}:obH (some H) K T dst=K (put T dst .any) H:=rfl
@[simp] theorem obH_none {K T dst}:obH none K T dst=False:=rfl
@[simp] theorem obH_ite {c:Prop} [Decidable c] {x y K T dst}:obH (if c then x else y) K T dst=if c then obH x K T dst else obH y K T dst:=by split<;>rfl
def obL (x:Option Int) (A:Prop) (K:Tm→AHeap→Prop) (T:Tm) (dst:Option Nat) (H:AHeap):Prop:=ob x fun n=>A→K (put T dst (.int .i64 n)) H
@[simp] theorem obL_some {n A K T dst H}:obL (some n) A K T dst H=(A→K (put T dst (.int .i64 n)) H):=rfl
@[simp] theorem obL_none {A K T dst H}:obL none A K T dst H=False:=rfl
@[simp] theorem obL_ite {c:Prop} [Decidable c] {x y A K T dst H}:obL (if c then x else y) A K T dst H=if c then obL x A K T dst H else obL y A K T dst H:=by split<;>rfl
def obS (x:Option (Bool→Prop)) (d neg:Bool) (K:Tm→AHeap→Prop) (T:Tm) (dst:Option Nat) (H:AHeap):Prop:=ob x fun p=>d=false∧∀ b,p b→K (put T dst (.bool (b != neg))) H
@[simp] theorem obS_some {p d neg K T dst H}:obS (some p) d neg K T dst H=(d=false∧∀ b,p b→K (put T dst (.bool (b != neg))) H):=rfl
@[simp] theorem obS_none {d neg K T dst H}:obS none d neg K T dst H=False:=rfl
def gi {α:Type} [Inhabited α] (l:List α) (i:Int):α:=l.getD i.toNat default
def aIa (sz:Nat) (H:AHeap) (x i:AV):Option AV :=
 match x with
 | .rows _ sz' es=>match aindex es.length i with
  | some k=>if sz'=sz then (match es[k]? with|some e=>some (.rptr e)|none=>none) else none
  | none=>none
 | .loc j g off len sz' _=>match aindex len i with
  | some k=>if sz'=sz∧alive H j g=true then some (.ptr j g (off+k*sz)) else none
  | none=>none
 | _=>none
def aIarr (len sz:Nat) (H:AHeap) (x i:AV):Option AV :=
 match aindex len i with
 | some k=>match x with
  | .ptr j g o=>if alive H j g then some (.ptr j g (o+k*sz)) else none
  | .rptr cs=>some (.rptr (cs.drop (k*sz)))
  | _=>none
 | none=>none
def aIdx (len sz:Nat) (agg:Bool) (x i:AV):Option AV :=
 match aindex len i with
 | some k=>match x with
  | .agg cs=>apart sz agg cs (k*sz)
  | _=>none
 | none=>none
def aIdxs (x i:AV):Option AV :=
 match x with
 | .str s=>match aindex s.size i with
  | some k=>some (.int .u8 (s.data.getD k 0).toNat)
  | none=>none
 | _=>none
def aFa (off:Nat) (H:AHeap) (x:AV):Option AV :=
 match x with
 | .ptr i g o=>if alive H i g then some (.ptr i g (o+off)) else none
 | .rptr cs=>some (.rptr (cs.drop off))
 | _=>none
def aFld (off n:Nat) (agg:Bool) (x:AV):Option AV :=
 match x with
 | .agg cs=>apart n agg cs off
 | _=>none
def aNot (x:AV):Option AV:=match x with|.bool b=>some (.bool (!b))|_=>none
def aNeg (x:AV):Option AV:=match x with|.int k n=>some (.int k (k.wrap (0 - n)))|_=>none
def aCint (k:IntKind) (x:AV):Option AV:=match x with|.int _ n=>some (.int k (k.wrap n))|_=>none
def aCid (x:AV):Option AV:=match x with|.str s=>some (.str s)|_=>none
def aExt (x:AV) (i:Nat):Option AV:=match x with|.tuple vs=>vs[i]?|_=>none
def aLens (x:AV):Option Int:=match x with|.str s=>some (s.size:Int)|_=>none
def aPick (c a b:AV):Option AV:=match c with|.bool t=>some (if t then a else b)|_=>none
def aMx (x y:AV):Option AV:=match x,y with|.int k a,.int k' b=>if k=k' then some (.int k (if b>a then b else a)) else none|_,_=>none
def aMn (x y:AV):Option AV:=match x,y with|.int k a,.int k' b=>if k=k' then some (.int k (if b<a then b else a)) else none|_,_=>none
def aNilc (H:AHeap) (x:AV):Option AV:=match x with
 | .ptr i g o=>if alive H i g then some (.ptr i g o) else none
 | .rptr cs=>some (.rptr cs)
 | .fn (.func f) a b=>some (.fn (.func f) a b)
 | _=>none
def aEqa (neg agg:Bool) (ks:List LK) (x y:AV):Option AV:=match cellsK agg ks x,cellsK agg ks y with
 | some cs,some ds=>some (.bool (leavesA cs ds != neg))
 | _,_=>none
def aB2s (H:AHeap) (x:AV):Option AV:=match elems H x with
 | some (_,es)=>match bytesA es with
  | some bs=>some (.str ⟨bs.toArray⟩)
  | none=>none
 | none=>none
def aS2b (x:AV):Option AV:=match x with|.str s=>if s.size≤maxA then some (.rows false 1 (s.data.toList.map fun b=>[.int .u8 b.toNat])) else none|_=>none
def aSlstr (ρ:Opd→AV) (x:AV) (lo hi:Option Opd):Option AV:=match x with
 | .str s=>match abound ρ s.size s.size hi with
  | some h=>match abound ρ h 0 lo with
   | some l=>some (.str (s.extract l h))
   | none=>none
  | none=>none
 | _=>none
def aMksl (sz bytes:Nat) (zero:List AV) (H:AHeap) (len cap:AV):Option (AV×AHeap):=match len,cap with
 | .int _ l,.int _ c=>if 0≤l∧l≤c∧c*bytes≤limB∧c≤maxA then
   some (.loc H.length 0 0 l.toNat sz false,H++[.cells 0 (List.replicate l.toNat zero).flatten]) else none
 | _,_=>none
variable {d:Bool} {dst:Option Nat} {g:Option (Nat×Bool)} {K:Tm→AHeap→Prop} {T:Tm} {H:AHeap} {x y z:Opd}
@[simp] theorem rI_mov:runIns P d ⟨dst,.mov x,g⟩ K T H=K (put T dst (x.ev T)) H:=by simp [runIns,apre,aop,asm]
@[simp] theorem rI_pick:runIns P d ⟨dst,.pick z x y,g⟩ K T H=obK (aPick (z.ev T) (x.ev T) (y.ev T)) K T dst H:=by
 simp only [runIns,apre,true_implies,aop,asm,aPick];cases z.ev T<;>simp
@[simp] theorem rI_alloc {cs:List AV}:runIns P d ⟨dst,.alloc cs,g⟩ K T H=K (put T dst (.ptr H.length 0 0)) (H++[.cells 0 cs]):=by simp [runIns,apre,aop,asm]
@[simp] theorem rI_box:runIns P d ⟨dst,.box x,g⟩ K T H=obP ((x.ev T).cells.map fun cs=>(.ptr H.length 0 0,H++[.cells 0 cs])) K T dst:=by
 simp only [runIns,apre,true_implies,aop,asm];cases (x.ev T).cells<;>simp
@[simp] theorem rI_build {cs:List AV} {ps}:runIns P d ⟨dst,.build cs ps,g⟩ K T H=obK ((bldParts (Opd.ev T) cs ps).map .agg) K T dst H:=by
 simp only [runIns,apre,true_implies,aop,asm];cases bldParts (Opd.ev T) cs ps<;>simp
@[simp] theorem rI_bslice {sz len cs ps}:runIns P d ⟨dst,.bslice sz len cs ps,g⟩ K T H=obK ((bslParts (Opd.ev T) sz (List.replicate len cs) ps).map (.rows true sz)) K T dst H:=by
 simp only [runIns,apre,true_implies,aop,asm];cases bslParts (Opd.ev T) sz (List.replicate len cs) ps<;>simp
@[simp] theorem rI_bsloc {sz len cs ps}:runIns P d ⟨dst,.bsloc sz len cs ps,g⟩ K T H=obP ((bslParts (Opd.ev T) sz (List.replicate len cs) ps).map fun v=>(.loc H.length 0 0 len sz false,H++[.cells 0 v.flatten])) K T dst:=by
 simp only [runIns,apre,true_implies,aop,asm];cases bslParts (Opd.ev T) sz (List.replicate len cs) ps<;>simp
@[simp] theorem rI_load {n agg}:runIns P d ⟨dst,.load n agg x,g⟩ K T H=obK (aload n agg H (x.ev T)) K T dst H:=by
 simp only [runIns,apre,true_implies,aop,asm];cases aload n agg H (x.ev T)<;>simp
@[simp] theorem rI_store {n}:runIns P d ⟨dst,.store n x y,g⟩ K T H=obH (astore n H (x.ev T) (y.ev T)) K T dst:=by
 simp only [runIns,apre,true_implies,aop,asm];cases astore n H (x.ev T) (y.ev T)<;>simp
@[simp] theorem rI_bin {op}:runIns P d ⟨dst,.bin op x y,g⟩ K T H=obK (abin op (x.ev T) (y.ev T)) K T dst H:=by
 simp only [runIns,apre,true_implies,aop,asm];cases abin op (x.ev T) (y.ev T)<;>simp
@[simp] theorem rI_not:runIns P d ⟨dst,.not x,g⟩ K T H=obK (aNot (x.ev T)) K T dst H:=by
 simp only [runIns,apre,true_implies,aop,asm,aNot];cases x.ev T<;>simp
@[simp] theorem rI_neg:runIns P d ⟨dst,.neg x,g⟩ K T H=obK (aNeg (x.ev T)) K T dst H:=by
 simp only [runIns,apre,true_implies,aop,asm,aNeg];cases x.ev T<;>simp
@[simp] theorem rI_cint {k}:runIns P d ⟨dst,.cint k x,g⟩ K T H=obK (aCint k (x.ev T)) K T dst H:=by
 simp only [runIns,apre,true_implies,aop,asm,aCint];cases x.ev T<;>simp
@[simp] theorem rI_cid:runIns P d ⟨dst,.cid x,g⟩ K T H=obK (aCid (x.ev T)) K T dst H:=by
 simp only [runIns,apre,true_implies,aop,asm,aCid];cases x.ev T<;>simp
@[simp] theorem rI_b2s:runIns P d ⟨dst,.b2s x,g⟩ K T H=obK (aB2s H (x.ev T)) K T dst H:=by
 simp only [runIns,apre,true_implies,aop,asm,aB2s]
 cases h1:elems H (x.ev T) with
 | none=>simp
 | some p=>obtain ⟨a,b⟩:=p;simp;cases h2:bytesA b<;>simp
@[simp] theorem rI_s2b:runIns P d ⟨dst,.s2b x,g⟩ K T H=obK (aS2b (x.ev T)) K T dst H:=by
 simp only [runIns,apre,true_implies,aop,asm,aS2b]
 cases x.ev T<;>simp
 rename_i s
 by_cases h:s.size≤maxA<;>simp [h]
@[simp] theorem rI_mkif {t}:runIns P d ⟨dst,.mkif t x,g⟩ K T H=K (put T dst (.iface t (x.ev T))) H:=by simp [runIns,apre,aop,asm]
@[simp] theorem rI_mkfn {f xs ys}:runIns P d ⟨dst,.mkfn f xs ys,g⟩ K T H=K (put T dst (.fn f (xs.map (Opd.ev T)) (ys.map (Opd.ev T)))) H:=by simp [runIns,apre,aop,asm]
@[simp] theorem rI_mkmap:runIns P d ⟨dst,.mkmap,g⟩ K T H=K (put T dst (.mapr H.length 0)) (H++[.map 0 []]):=by simp [runIns,apre,aop,asm]
@[simp] theorem rI_mksl {sz bytes cs}:runIns P d ⟨dst,.mksl sz bytes cs x y,g⟩ K T H=obP (aMksl sz bytes cs H (x.ev T) (y.ev T)) K T dst:=by
 simp only [runIns,apre,true_implies,aop,asm,aMksl]
 cases x.ev T<;>simp
 cases y.ev T<;>simp
 rename_i l _ c
 by_cases hc:0≤l∧l≤c∧c*bytes≤limB∧c≤maxA
 ·simp only [if_pos hc,ob_some]
  simp [hc]
 ·simp only [if_neg hc,ob_none]
  simp
  intro a b c' d'
  exact absurd ⟨a,b,c',d'⟩ hc
theorem rI_slc {sz lo hi mx}:runIns P d ⟨dst,.slc sz x lo hi mx,g⟩ K T H=obK (aslc H (Opd.ev T) sz x lo hi mx) K T dst H:=by
 simp only [runIns,apre,true_implies,aop,asm];cases aslc H (Opd.ev T) sz x lo hi mx<;>simp
@[simp] theorem rI_slstr {lo hi}:runIns P d ⟨dst,.slstr x lo hi,g⟩ K T H=obK (aSlstr (Opd.ev T) (x.ev T) lo hi) K T dst H:=by
 simp only [runIns,apre,true_implies,aop,asm,aSlstr]
 cases x.ev T<;>simp
 rename_i s
 cases h1:abound (Opd.ev T) s.size s.size hi with
 | none=>simp
 | some h=>simp;cases h2:abound (Opd.ev T) h 0 lo<;>simp
@[simp] theorem rI_fa {off}:runIns P d ⟨dst,.fa off x,g⟩ K T H=obK (aFa off H (x.ev T)) K T dst H:=by
 simp only [runIns,apre,true_implies,aop,asm,aFa];cases x.ev T<;>simp
 rename_i i g' o
 by_cases hc:alive H i g'=true<;>simp [hc]
@[simp] theorem rI_fld {off n agg}:runIns P d ⟨dst,.fld off n agg x,g⟩ K T H=obK (aFld off n agg (x.ev T)) K T dst H:=by
 simp only [runIns,apre,true_implies,aop,asm,aFld];cases x.ev T<;>simp
 rename_i cs
 cases apart n agg cs off<;>simp
@[simp] theorem rI_ia {sz}:runIns P d ⟨dst,.ia sz x y,g⟩ K T H=obK (aIa sz H (x.ev T) (y.ev T)) K T dst H:=by
 simp only [runIns,apre,true_implies,aop,asm,aIa];cases x.ev T<;>simp
 ·rename_i c sz' es
  cases h1:aindex es.length (y.ev T) with
  | none=>simp
  | some k =>
   simp only
   by_cases hc:sz'=sz
   ·simp only [if_pos hc];cases h2:es[k]?<;>simp
   ·simp [hc]
 ·rename_i i g' off len sz' c
  cases h1:aindex len (y.ev T) with
  | none=>simp
  | some k =>
   simp only
   by_cases hc:sz'=sz∧alive H i g'=true
   ·simp [hc]
   ·simp only [if_neg hc]
    simp
@[simp] theorem rI_iarr {len sz}:runIns P d ⟨dst,.iarr len sz x y,g⟩ K T H=obK (aIarr len sz H (x.ev T) (y.ev T)) K T dst H:=by
 simp only [runIns,apre,true_implies,aop,asm,aIarr]
 cases h1:aindex len (y.ev T) with
 | none=>simp
 | some k =>
  simp only
  cases x.ev T<;>simp
  rename_i i g' o
  by_cases hc:alive H i g'=true<;>simp [hc]
@[simp] theorem rI_idx {len sz agg}:runIns P d ⟨dst,.idx len sz agg x y,g⟩ K T H=obK (aIdx len sz agg (x.ev T) (y.ev T)) K T dst H:=by
 simp only [runIns,apre,true_implies,aop,asm,aIdx]
 cases h1:aindex len (y.ev T) with
 | none=>simp
 | some k =>
  simp only
  cases x.ev T<;>simp
  rename_i cs
  cases apart sz agg cs (k*sz)<;>simp
@[simp] theorem rI_idxs:runIns P d ⟨dst,.idxs x y,g⟩ K T H=obK (aIdxs (x.ev T) (y.ev T)) K T dst H:=by
 simp only [runIns,apre,true_implies,aop,asm,aIdxs]
 cases x.ev T<;>simp
 rename_i s
 cases h1:aindex s.size (y.ev T)<;>simp
@[simp] theorem rI_ext {i}:runIns P d ⟨dst,.ext x i,g⟩ K T H=obK (aExt (x.ev T) i) K T dst H:=by
 simp only [runIns,apre,true_implies,aop,asm,aExt]
 cases x.ev T<;>simp
 rename_i vs
 cases vs[i]?<;>simp
@[simp] theorem rI_len:runIns P d ⟨dst,.len x,g⟩ K T H=obL (alen H (x.ev T)) (alenOk (x.ev T)) K T dst H:=by
 simp only [runIns,apre,true_implies,aop,asm];cases alen H (x.ev T)<;>simp
@[simp] theorem rI_lens:runIns P d ⟨dst,.lens x,g⟩ K T H=obL (aLens (x.ev T)) (alenOk (x.ev T)) K T dst H:=by
 simp only [runIns,apre,true_implies,aop,asm,aLens]
 cases x.ev T<;>simp
@[simp] theorem rI_appc {sz bytes}:runIns P d ⟨dst,.appc sz bytes x y,g⟩ K T H=obP (aappc sz bytes H (x.ev T) (y.ev T)) K T dst:=by
 simp only [runIns,apre,true_implies,aop,asm]
 cases h:aappc sz bytes H (x.ev T) (y.ev T) with
 | none=>simp
 | some p =>
  obtain ⟨a,b⟩:=p
  simp
@[simp] theorem rI_app {sz bytes}:runIns P d ⟨dst,.app sz bytes x y,g⟩ K T H=(preLen H (x.ev T)→preLen H (y.ev T)→obP (aapp sz bytes H (x.ev T) (y.ev T)) K T dst):=by
 simp only [runIns,apre,true_implies,aop,asm]
 cases h:aapp sz bytes H (x.ev T) (y.ev T) with
 | none=>simp [h]
 | some p =>
  obtain ⟨a,b⟩:=p
  simp [h]
@[simp] theorem rI_mx:runIns P d ⟨dst,.mx x y,g⟩ K T H=obK (aMx (x.ev T) (y.ev T)) K T dst H:=by
 simp only [runIns,apre,true_implies,aop,asm,aMx]
 cases x.ev T<;>simp
 cases y.ev T<;>simp
 rename_i k a k' b
 by_cases hc:k=k'<;>simp [hc]
@[simp] theorem rI_mn:runIns P d ⟨dst,.mn x y,g⟩ K T H=obK (aMn (x.ev T) (y.ev T)) K T dst H:=by
 simp only [runIns,apre,true_implies,aop,asm,aMn]
 cases x.ev T<;>simp
 cases y.ev T<;>simp
 rename_i k a k' b
 by_cases hc:k=k'<;>simp [hc]
@[simp] theorem rI_nilc:runIns P d ⟨dst,.nilc x,g⟩ K T H=obK (aNilc H (x.ev T)) K T dst H:=by
 simp only [runIns,apre,true_implies,aop,asm,aNilc]
 cases x.ev T<;>simp
 ·rename_i i g' o
  by_cases hc:alive H i g'=true<;>simp [hc]
 ·rename_i f a b
  cases f<;>simp
@[simp] theorem rI_eqa {neg agg ks}:runIns P d ⟨dst,.eqa neg agg ks x y,g⟩ K T H=obK (aEqa neg agg ks (x.ev T) (y.ev T)) K T dst H:=by
 simp only [runIns,apre,true_implies,aop,asm,aEqa]
 cases cellsK agg ks (x.ev T)<;>simp
 cases cellsK agg ks (y.ev T)<;>simp
@[simp] theorem rI_isnil {neg k}:runIns P d ⟨dst,.isnil neg k x,g⟩ K T H=obK ((nilD k (x.ev T)).map fun b=>.bool (b != neg)) K T dst H:=by
 simp only [runIns,apre,true_implies,aop,asm]
 cases nilD k (x.ev T)<;>simp
@[simp] theorem rI_snil {neg}:runIns P d ⟨dst,.snil neg x,g⟩ K T H=obS (snilP H (x.ev T)) d neg K T dst H:=by
 simp only [runIns]
 cases snilP H (x.ev T)<;>simp
@[simp] theorem rI_lkp {agg ks df ok}:runIns P d ⟨dst,.lkp agg ks df x y ok,g⟩ K T H=obK (alkp agg ks df ok H (x.ev T) (y.ev T)) K T dst H:=by
 simp only [runIns,apre,true_implies,aop,asm];cases alkp agg ks df ok H (x.ev T) (y.ev T)<;>simp
@[simp] theorem rI_upd {agg ks}:runIns P d ⟨dst,.upd agg ks x y z,g⟩ K T H=obH (aupd agg ks H (x.ev T) (y.ev T) (z.ev T)) K T dst:=by
 simp only [runIns,apre,true_implies,aop,asm];cases aupd agg ks H (x.ev T) (y.ev T) (z.ev T)<;>simp
def Kc (K:Tm→AHeap→Prop) (dst:Option Nat) (T:Tm) (rv:AV) (H:AHeap):Prop:=K (put T dst rv) H
@[simp] theorem rI_callF {f as}:runIns P false ⟨dst,.call f as,g⟩ K T H=ob (callArgs T f as) fun p=>FT P p.1 p.2 H (Kc K dst T):=by
 simp only [runIns];cases callArgs T f as<;>simp<;>rfl
@[simp] theorem rI_callT {f as}:runIns P true ⟨dst,.call f as,g⟩ K T H=ob (callArgs T f as) fun p=>∃ r,PF P p.1 p.2 r∧Kc K dst T r H:=by
 simp only [runIns];cases callArgs T f as<;>simp<;>rfl
@[simp] theorem rI_callhF {f as}:runIns P false ⟨dst,.callh f as,g⟩ K T H=ob (callArgs T f as) fun p=>FT P p.1 p.2 H (Kc K dst T):=by
 simp only [runIns];cases callArgs T f as<;>simp<;>rfl
@[simp] theorem rI_callhT {f as}:runIns P true ⟨dst,.callh f as,g⟩ K T H=ob (callArgs T f as) fun p=>∃ r,(∀ X,FT P p.1 p.2 (H++X) (fun rv H'=>rv=r∧H'=H++X))∧Kc K dst T r H:=by
 simp only [runIns];cases callArgs T f as<;>simp<;>rfl
@[simp] theorem rI_callaT {k j f as}:runIns P true ⟨dst,.calla k j f as,g⟩ K T H=ob (callArgs T f as) fun p=>(∃ r,PF P p.1 p.2 r∧Kc K dst T r H)∨∃ len sz c cs g0,PFA P p.1 p.2 len sz c cs∧H[k*10+j]?=some (.dead g0)∧Kc K dst T (.loc (k*10+j) (g0+1) 0 len sz c) (H.set (k*10+j) (.cells (g0+1) cs)):=by
 simp only [runIns];cases callArgs T f as<;>simp<;>rfl
@[simp] theorem runOps_nil:runOps P d [] K T H=K T H:=rfl
@[simp] theorem runOps_cons {op is}:runOps P d (⟨dst,op,none⟩::is) K T H=runIns P d ⟨dst,op,none⟩ (runOps P d is K) T H:=rfl
def gsplit (b:Bool) (A B:Prop):Prop:=(b=true→A)∧(b=false→B)
@[simp ↓] theorem gsplit_true {A B:Prop}:gsplit true A B=A:=by simp [gsplit]
@[simp ↓] theorem gsplit_false {A B:Prop}:gsplit false A B=B:=by simp [gsplit]
@[simp] theorem gsplit_eq {b:Bool} {A B:Prop}:gsplit b A B=((b=true→A)∧(b=false→B)):=rfl
def gdo (v:AV) (P:Program) (d:Bool) (dst:Option Nat) (op:AOp) (gg:Nat) (want:Bool) (is:List AIns) (K:Tm→AHeap→Prop) (T:Tm) (H:AHeap):Prop :=
 match v with
 | .bool b=>(b=want→runIns P d ⟨dst,op,some (gg,want)⟩ (runOps P d is K) ((gg,.bool want)::T) H)∧(b≠want→runOps P d is K (put ((gg,.bool (!want))::T) dst (.tuple [])) H)
 | .tuple vs=>vs=[]∧runOps P d is K (put T dst (.tuple [])) H
 | _=>False
@[simp] theorem runOps_guard {op is gg want}:runOps P d (⟨dst,op,some (gg,want)⟩::is) K T H=gdo (T.get gg) P d dst op gg want is K T H:=rfl
@[simp high] theorem gdo_tt {op is gg}:gdo (.bool true) P d dst op gg true is K T H=runIns P d ⟨dst,op,some (gg,true)⟩ (runOps P d is K) ((gg,.bool true)::T) H:=by simp [gdo]
@[simp high] theorem gdo_ff {op is gg}:gdo (.bool false) P d dst op gg false is K T H=runIns P d ⟨dst,op,some (gg,false)⟩ (runOps P d is K) ((gg,.bool false)::T) H:=by simp [gdo]
@[simp high] theorem gdo_tf {op is gg}:gdo (.bool true) P d dst op gg false is K T H=runOps P d is K (put ((gg,.bool true)::T) dst (.tuple [])) H:=by simp [gdo]
@[simp high] theorem gdo_ft {op is gg}:gdo (.bool false) P d dst op gg true is K T H=runOps P d is K (put ((gg,.bool false)::T) dst (.tuple [])) H:=by simp [gdo]
@[simp low] theorem gdo_T {b op is gg}:gdo (.bool b) P d dst op gg true is K T H=((b=true→runIns P d ⟨dst,op,some (gg,true)⟩ (runOps P d is K) ((gg,.bool true)::T) H)∧(b=false→runOps P d is K (put ((gg,.bool false)::T) dst (.tuple [])) H)):=by
 cases b<;>simp [gdo]
@[simp low] theorem gdo_F {b op is gg}:gdo (.bool b) P d dst op gg false is K T H=((b=true→runOps P d is K (put ((gg,.bool true)::T) dst (.tuple [])) H)∧(b=false→runIns P d ⟨dst,op,some (gg,false)⟩ (runOps P d is K) ((gg,.bool false)::T) H)):=by
 cases b<;>simp [gdo]
@[simp] theorem gdo_skip {op is gg want}:gdo (.tuple []) P d dst op gg want is K T H=runOps P d is K (put T dst (.tuple [])) H:=by simp [gdo]
section
variable {lo:Nat} {K:AEx→Tm→AHeap→Prop}
@[simp] theorem run_skip:run P lo .skip K T H=K .normal T H:=rfl
@[simp] theorem run_stuck:run P lo .stuck K T H=False:=rfl
@[simp] theorem run_regD {ops prs}:run P lo (.regD ops prs) K T H=runOps P true ops (fun T H=>disP prs T∧K .normal T H) T H:=rfl
@[simp] theorem disP_nil {T:Tm}:disP [] T=True:=rfl
@[simp] theorem disP_cons {x y:AIns} {ps} {T:Tm}:disP ((x,y)::ps) T=(indB x.op y.op (Opd.ev T)=true∧disP ps T):=rfl
@[simp] theorem run_reg {d ops}:run P lo (.reg d ops) K T H=runOps P d ops (K .normal) T H:=rfl
def Ks (P:Program) (lo:Nat) (b:ACode) (K:AEx→Tm→AHeap→Prop):AEx→Tm→AHeap→Prop
 | .normal=>run P lo b K
 | e=>K e
def Kb (id:Nat) (K:AEx→Tm→AHeap→Prop):AEx→Tm→AHeap→Prop
 | .exit id'=>if id'=id then K .normal else K (.exit id')
 | e=>K e
@[simp] theorem run_seq {a b}:run P lo (.seq a b) K T H=run P lo a (Ks P lo b K) T H:=by
 simp only [run]
 congr 1
def cdo (v:AV) (P:Program) (lo:Nat) (a b:ACode) (K:AEx→Tm→AHeap→Prop) (T:Tm) (H:AHeap):Prop :=
 match v with
 | .bool t=>(t=true→run P lo a K T H)∧(t=false→run P lo b K T H)
 | _=>False
@[simp] theorem run_cond {c a b}:run P lo (.cond c a b) K T H=cdo (c.ev T) P lo a b K T H:=rfl
@[simp high] theorem cdo_t {a b}:cdo (.bool true) P lo a b K T H=run P lo a K T H:=by simp [cdo]
@[simp high] theorem cdo_f {a b}:cdo (.bool false) P lo a b K T H=run P lo b K T H:=by simp [cdo]
@[simp low] theorem cdo_b {t a b}:cdo (.bool t) P lo a b K T H=((t=true→run P lo a K T H)∧(t=false→run P lo b K T H)):=rfl
@[simp] theorem run_block {id a}:run P lo (.block id a) K T H=run P lo a (Kb id K) T H:=by
 simp only [run]
 congr 1
@[simp] theorem run_exit {id}:run P lo (.exit id) K T H=K (.exit id) T H:=rfl
@[simp] theorem run_ret:run P lo .ret K T H=K .ret T H:=rfl
@[simp] theorem Ks_normal {b}:Ks P lo b K .normal=run P lo b K:=rfl
@[simp] theorem Ks_exit {b id}:Ks P lo b K (.exit id)=K (.exit id):=rfl
@[simp] theorem Ks_ret {b}:Ks P lo b K .ret=K .ret:=rfl
@[simp] theorem Kb_normal {id}:Kb id K .normal=K .normal:=rfl
@[simp] theorem Kb_exit {id id'}:Kb id K (.exit id')=if id'=id then K .normal else K (.exit id'):=rfl
@[simp] theorem Kb_ret {id}:Kb id K .ret=K .ret:=rfl
def Kl (lo:Nat) (I:Nat→Tm→AHeap→Prop) (n:Nat) (K:AEx→Tm→AHeap→Prop):AEx→Tm→AHeap→Prop
 | .normal=>fun T' H'=>∃ m T'' H'',m<n∧Wk lo T' H' T'' H''∧I m T'' H''
 | e=>K e
@[simp] theorem Kl_exit {I n id}:Kl lo I n K (.exit id)=K (.exit id):=rfl
@[simp] theorem Kl_ret {I n}:Kl lo I n K .ret=K .ret:=rfl
theorem run_loop {a} (I:Nat→Tm→AHeap→Prop) (n:Nat) (T':Tm) (H':AHeap) (hw:Wk lo T H T' H') (hi:I n T' H') (h:∀ n T H,I n T H→run P lo a (Kl lo I n K) T H):run P lo (.loop a) K T H:=by
 refine ⟨I,n,⟨T',H',hw,hi⟩,fun n T H hI=>?_⟩
 have:=h n T H hI
 exact Eq.mp (congrArg (fun q=>run P lo a q T H) (funext (fun e=>by cases e<;>rfl))) this
end
theorem FT.monoK {f:FuncId} {as:List AV} {H:AHeap} {R R':AV→AHeap→Prop} (hR:∀ rv H',R rv H'→R' rv H') (h:FT P f as H R):FT P f as H R':=h.mono hR
theorem runIns_mono {d:Bool} {i:AIns} {K K':Tm→AHeap→Prop} (hK:∀ T H,K T H→K' T H) {T:Tm} {H:AHeap} (h:runIns P d i K T H):runIns P d i K' T H:=by
 unfold runIns at *
 split at h
 ·split at h
  ·exact ⟨h.1,fun b hb=>hK _ _ (h.2 b hb)⟩
  ·exact h
 ·split at h
  ·split at h
   ·rename_i hd
    obtain ⟨r,h1,h2⟩:=h
    rw [if_pos hd]
    exact ⟨r,h1,hK _ _ h2⟩
   ·rename_i hd
    rw [if_neg hd]
    exact h.monoK (fun rv H'=>hK _ _)
  ·exact h
 ·split at h
  ·split at h
   ·rename_i hd
    obtain ⟨r,h1,h2⟩:=h
    rw [if_pos hd]
    exact ⟨r,h1,hK _ _ h2⟩
   ·rename_i hd
    rw [if_neg hd]
    exact h.monoK (fun rv H'=>hK _ _)
  ·exact h
 ·split at h
  ·obtain ⟨hd,⟨r,h1,h2⟩|⟨len,sz,c,cs,g0,h1,h2,h3⟩⟩:=h
   ·exact ⟨hd,.inl ⟨r,h1,hK _ _ h2⟩⟩
   ·exact ⟨hd,.inr ⟨len,sz,c,cs,g0,h1,h2,hK _ _ h3⟩⟩
  ·exact h
 ·intro hp
  have h:=h hp
  split at h
  ·exact fun ha=>hK _ _ (h ha)
  ·exact h
theorem runOps_mono {d:Bool}:∀ {is:List AIns} {K K':Tm→AHeap→Prop},(∀ T H,K T H→K' T H)→∀ {T:Tm} {H:AHeap},runOps P d is K T H→runOps P d is K' T H
 | [],K,K',hK,T,H,h=>hK _ _ h
 | i::is,K,K',hK,T,H,h=>by
  simp only [runOps] at h ⊢
  split at h
  ·exact runIns_mono (fun T H=>runOps_mono hK) h
  ·split at h
   ·exact ⟨fun hb=>runIns_mono (fun T H=>runOps_mono hK) (h.1 hb),fun hb=>runOps_mono hK (h.2 hb)⟩
   ·exact ⟨h.1,runOps_mono hK h.2⟩
   ·exact h
theorem run_mono {lo:Nat}:∀ {c:ACode} {K K':AEx→Tm→AHeap→Prop},(∀ e T H,K e T H→K' e T H)→∀ {T:Tm} {H:AHeap},run P lo c K T H→run P lo c K' T H
 | .skip,K,K',hK,T,H,h=>hK _ _ _ h
 | .mark,K,K',hK,T,H,h=>by
  obtain ⟨T',H',h1,h2⟩:=h
  exact ⟨T',H',h1,hK _ _ _ h2⟩
 | .reg d ops,K,K',hK,T,H,h=>runOps_mono (hK _) h
 | .stuck,K,K',hK,T,H,h=>h.elim
 | .regD ops prs,K,K',hK,T,H,h=>runOps_mono (fun T H h=>⟨h.1,hK _ _ _ h.2⟩) h
 | .seq a b,K,K',hK,T,H,h=>by
  rw [run_seq] at h ⊢
  refine run_mono (fun e T H h=>?_) h
  cases e with
  | normal=>exact run_mono hK h
  | exit id=>exact hK _ _ _ h
  | ret=>exact hK _ _ _ h
 | .cond c a b,K,K',hK,T,H,h=>by
  simp only [run] at h ⊢
  split at h
  ·exact ⟨fun ht=>run_mono hK (h.1 ht),fun ht=>run_mono hK (h.2 ht)⟩
  ·exact h
 | .block id a,K,K',hK,T,H,h=>by
  rw [run_block] at h ⊢
  refine run_mono (fun e T H h=>?_) h
  cases e with
  | normal=>exact hK _ _ _ h
  | exit id' =>
   simp only [Kb_exit] at h ⊢
   split at h
   ·rename_i hid;rw [if_pos hid];exact hK _ _ _ h
   ·rename_i hid;rw [if_neg hid];exact hK _ _ _ h
  | ret=>exact hK _ _ _ h
 | .loop a,K,K',hK,T,H,h=>by
  obtain ⟨I,n,hI,hr⟩:=h
  refine ⟨I,n,hI,fun n T H hI=>run_mono (fun e T H h=>?_) (hr n T H hI)⟩
  cases e with
  | normal=>exact h
  | exit id=>exact hK _ _ _ h
  | ret=>exact hK _ _ _ h
 | .exit id,K,K',hK,T,H,h=>hK _ _ _ h
 | .ret,K,K',hK,T,H,h=>hK _ _ _ h
 | .range f ps a b,K,K',hK,T,H,h=>by
  obtain ⟨g,cap,N,enc,I,lo',h1,h2,h3,h4,h5,h6,h7,hr,hd⟩:=h
  refine ⟨g,cap,N,enc,I,lo',h1,h2,h3,h4,h5,h6,h7,fun k H1 hk hi=>run_mono (fun e T2 H2 ⟨he,hb⟩=>⟨he,run_mono (fun e T3 H3 hq=>?_) hb⟩) (hr k H1 hk hi),fun H1 hi=>hK _ _ _ (hd H1 hi)⟩
  cases e with
  | normal=>exact hq
  | exit id=>exact hK _ _ _ hq
  | ret=>exact hK _ _ _ hq
def Kend (res:List ARes) (R:AV→AHeap→Prop):AEx→Tm→AHeap→Prop:=fun e T H=>(e=.normal∨e=.ret)∧ob (ares res T H) fun rv=>R rv H
@[simp] theorem Kend_ret {res R}:Kend res R .ret T H=ob (ares res T H) fun rv=>R rv H:=by simp [Kend]
@[simp] theorem Kend_normal {res R}:Kend res R .normal T H=ob (ares res T H) fun rv=>R rv H:=by simp [Kend]
@[simp] theorem Kend_exit {res R id}:Kend res R (.exit id) T H=False:=by simp [Kend]
theorem ob_iff {α:Type} {x:Option α} {K:α→Prop}:ob x K↔∃ a,x=some a∧K a:=by cases x<;>simp
def Rle (n:Nat) (r:AV) (rv:AV) (H:AHeap):Prop:=leP n (frz true H n rv) r
theorem PFk {an:An} {f:FuncId} {fn:Func} {af:AFn} {args:List AV} {r:AV} (n:Nat) (hm:P.follows .mixedOrders=true) (hf:P.funcs[f]?=some fn) (hc:cFn P an fn=some af) (hn:args.length≤af.n) (ha:∀ a∈args,RL 0 a) (hrl:RL 0 r)
  (h:run P 0 af.code (Kend af.res (Rle n r)) (argsT 0 args) []):PF P f args r:=by
 refine PF_of n hm hf hc hn ha hrl ?_
 have e:(Kend af.res (Rle n r))=(fun e T H'=>(e=.normal∨e=.ret)∧∃ rv,ares af.res T H'=some rv∧leP n (frz true H' n rv) r):=by
  funext e T H'
  simp only [Kend,ob_iff]
  rfl
 rw [e] at h
 exact h
theorem FTk {an:An} {f:FuncId} {fn:Func} {af:AFn} {args:List AV} {R:AV→AHeap→Prop} (hm:P.follows .mixedOrders=true) (hf:P.funcs[f]?=some fn) (hc:cFn P an fn=some af) (hn:args.length≤af.n)
  (h:run P H.length af.code (Kend af.res R) (argsT 0 args) H):FT P f args H R:=by
 refine FT_of hm hf hc hn ?_
 have e:(Kend af.res R)=(fun e T H'=>(e=.normal∨e=.ret)∧∃ rv,ares af.res T H'=some rv∧R rv H'):=by
  funext e T H'
  simp only [Kend,ob_iff]
 rw [e] at h
 exact h
def aSlc (H:AHeap) (sz:Nat) (v:AV) (lo hi mx:Option AV):Option AV :=
 let b (m d:Nat) (x:Option AV):Option Nat:=match x with
  | none=>some d
  | some x=>match aint x with
   | some n=>if 0≤n∧n≤m then some n.toNat else none
   | none=>none
 match v with
 | .rows clip sz' es=>if sz'=sz then
   match b es.length es.length hi with
   | some h=>match b h 0 lo with
    | some l=>match mx with
     | none=>some (.rows (clip&&h==es.length) sz ((es.take h).drop l))
     | some m=>match b es.length 0 (some m) with
      | some m=>if m=h then some (.rows true sz ((es.take h).drop l)) else none
      | none=>none
    | none=>none
   | none=>none
  else none
 | .loc i g off len sz' clip=>if sz'=sz∧alive H i g=true then
   match b len len hi with
   | some h=>match b h 0 lo with
    | some l=>match mx with
     | none=>some (.loc i g (off+l*sz) (h - l) sz (clip&&h==len))
     | some m=>match b len 0 (some m) with
      | some m=>if m=h then some (.loc i g (off+l*sz) (h - l) sz true) else none
      | none=>none
    | none=>none
   | none=>none
  else none
 | .nilS=>match b 0 0 hi,b 0 0 lo with
  | some _,some _=>match mx with
   | none=>some .nilS
   | some m=>match b 0 0 (some m) with
    | some _=>some .nilS
    | none=>none
  | _,_=>none
 | _=>none
theorem abound_v {ρ:Opd→AV} {m d:Nat} {x:Option Opd}:abound ρ m d x=(match x.map ρ with
  | none=>some d
  | some x=>match aint x with
   | some n=>if 0≤n∧n≤m then some n.toNat else none
   | none=>none):=by cases x<;>rfl
theorem aslc_v {ρ:Opd→AV} {sz:Nat} {x:Opd} {lo hi mx:Option Opd}:aslc H ρ sz x lo hi mx=aSlc H sz (ρ x) (lo.map ρ) (hi.map ρ) (mx.map ρ):=by
 unfold aslc aSlc
 simp only [abound_v]
 cases mx<;>simp only [Option.map_none,Option.map_some]<;>rfl
@[simp] theorem rI_slcV {sz lo hi mx}:runIns P d ⟨dst,.slc sz x lo hi mx,g⟩ K T H=obK (aSlc H sz (x.ev T) (lo.map (Opd.ev T)) (hi.map (Opd.ev T)) (mx.map (Opd.ev T))) K T dst H:=by
 rw [rI_slc,aslc_v]
end Go.AM
namespace Go.AM
set_option linter.unusedVariables false
set_option linter.unusedSimpArgs false
abbrev i64 (n:Int):AV:=.int .i64 n
abbrev ints (l:List Int):AV:=.rows false 1 (l.map fun n=>[.int .i64 n])
abbrev intss (ks:List (List Int)):AV:=.rows false 1 (ks.map fun k=>[ints k])
@[simp] theorem aindex_int {n:Nat} {k:IntKind} {i:Int}:aindex n (.int k i)=if 0≤i∧i<n then some i.toNat else none:=rfl
theorem gi_get {α:Type} [Inhabited α] {l:List α} {i:Int} (h0:0≤i) (h1:i<l.length):l[i.toNat]?=some (gi l i):=by
 unfold gi
 rw [List.getElem?_eq_getElem (by omega)]
 simp [List.getD,List.getElem?_eq_getElem (show i.toNat<l.length by omega)]
@[simp] theorem aIa_map {α:Type} [Inhabited α] {sz sz':Nat} {c:Bool} {H:AHeap} {f:α→List AV} {l:List α} {k:IntKind} {i:Int} :
  aIa sz H (.rows c sz' (l.map f)) (.int k i)=if 0≤i∧i<l.length∧sz'=sz then some (.rptr (f (gi l i))) else none:=by
 unfold aIa
 by_cases h:0≤i∧i<l.length
 ·simp only [aindex_int,List.length_map,if_pos h]
  by_cases hs:sz'=sz
  ·rw [if_pos hs,if_pos ⟨h.1,h.2,hs⟩]
   rw [List.getElem?_map,gi_get h.1 h.2]
   rfl
  ·rw [if_neg hs,if_neg (fun hh=>hs hh.2.2)]
 ·simp only [aindex_int,List.length_map,if_neg h]
  rw [if_neg (fun hh=>h ⟨hh.1,hh.2.1⟩)]
@[simp] theorem aIa_loc {sz sz' j g off len:Nat} {c:Bool} {H:AHeap} {k:IntKind} {i:Int} :
  aIa sz H (.loc j g off len sz' c) (.int k i)=if 0≤i∧i<len then (if sz'=sz∧alive H j g=true then some (.ptr j g (off+i.toNat*sz)) else none) else none:=by
 unfold aIa
 by_cases h:0≤i∧i<len
 ·simp only [aindex_int,if_pos h]
 ·simp only [aindex_int,if_neg h]
theorem loadCs_drop {α:Type} [Inhabited α] {f:α→AV} {l:List α} {k:Nat} (h:k<l.length):loadCs 1 false ((l.map f).drop k)=some (f (gi l k)):=by
 unfold loadCs
 have:1≤((l.map f).drop k).length:=by simp;omega
 rw [if_pos this]
 simp [gi,List.getD,h]
theorem chunk_one {α:Type} {f:α→AV}:∀ {l:List α},chunk 1 (l.map f) l.length=l.map fun x=>[f x]
 | []=>rfl
 | a::l=>by
  simp only [List.map_cons,List.length_cons,chunk]
  rw [List.drop_succ_cons,List.drop_zero,chunk_one]
  rfl
@[simp] theorem alen_map {α:Type} {sz:Nat} {c:Bool} {H:AHeap} {f:α→List AV} {l:List α}:alen H (.rows c sz (l.map f))=some (l.length:Int):=by simp [alen]
@[simp] theorem alenOk_map {α:Type} {sz:Nat} {c:Bool} {f:α→List AV} {l:List α}:alenOk (.rows c sz (l.map f))=(l.length≤maxA):=by simp [alenOk]
@[simp] theorem aload_rptr {n:Nat} {agg:Bool} {H:AHeap} {cs:List AV}:aload n agg H (.rptr cs)=loadCs n agg cs:=rfl
@[simp] theorem chunk_flat {α:Type} {sz:Nat} {f:α→List AV} {l:List α} (h:∀ x,(f x).length=sz):chunk sz (l.map f).flatten l.length=l.map f:=by
 induction l with
 | nil=>rfl
 | cons a l ih =>
  simp only [List.map_cons,List.flatten_cons,List.length_cons,chunk]
  rw [List.take_left' (h a),List.drop_left' (h a),ih]
theorem len_flat {α:Type} {sz:Nat} {f:α→List AV} {l:List α} (h:∀ x,(f x).length=sz):(l.map f).flatten.length=l.length*sz:=by
 induction l with
 | nil=>simp
 | cons a l ih =>
  simp only [List.map_cons,List.flatten_cons,List.length_append,List.length_cons,ih,h a]
  rw [Nat.add_mul]
  omega
@[simp] theorem aSlc_lo {α:Type} {H:AHeap} {sz sz':Nat} {c:Bool} {f:α→List AV} {l:List α} {q:IntKind} {i:Int} :
  aSlc H sz (.rows c sz' (l.map f)) (some (.int q i)) none none=if sz'=sz∧0≤i∧i≤l.length then some (.rows c sz ((l.drop i.toNat).map f)) else none:=by
 unfold aSlc
 by_cases hs:sz'=sz
 ·by_cases h:0≤i∧i≤l.length
  ·have e:(l.map f).take l.length=l.map f:=List.take_of_length_le (by simp)
   simp [hs,h,aint,e]
  ·simp only [hs,aint,List.length_map,if_true,Option.map,true_and,if_neg h]
 ·simp [hs]
@[simp] theorem aSlc_hi {α:Type} {H:AHeap} {sz sz':Nat} {f:α→List AV} {l:List α} {q:IntKind} {i:Int} :
  aSlc H sz (.rows false sz' (l.map f)) none (some (.int q i)) none=if sz'=sz∧0≤i∧i≤l.length then some (.rows false sz ((l.take i.toNat).map f)) else none:=by
 unfold aSlc
 by_cases hs:sz'=sz
 ·by_cases h:0≤i∧i≤l.length
  ·simp [hs,h,aint]
  ·simp [hs,aint]
   split<;>simp_all
 ·simp [hs]
section
variable {k:Bool} {H:AHeap} {n:Nat}
@[simp] theorem frz_any:frz k H (n+1) .any=.any:=rfl
@[simp] theorem frz_bool {b}:frz k H (n+1) (.bool b)=.bool b:=rfl
@[simp] theorem frz_int {q v}:frz k H (n+1) (.int q v)=.int q v:=rfl
@[simp] theorem frz_str {s}:frz k H (n+1) (.str s)=.str s:=rfl
@[simp] theorem frz_nilFunc:frz k H (n+1) .nilFunc=.nilFunc:=rfl
@[simp] theorem frz_nilIface:frz k H (n+1) .nilIface=.nilIface:=rfl
@[simp] theorem frz_nilPtr:frz k H (n+1) .nilPtr=.nilPtr:=rfl
@[simp] theorem frz_nilMap:frz k H (n+1) .nilMap=.nilMap:=rfl
@[simp] theorem frz_nilS:frz k H (n+1) .nilS=.nilS:=rfl
@[simp] theorem frz_rows {c sz es}:frz k H (n+1) (.rows c sz es)=.rows (k&&c) sz (es.map fun e=>e.map (frz k H n)):=rfl
@[simp] theorem frz_loc {i g off len sz c}:frz k H (n+1) (.loc i g off len sz c)=match H[i]? with
   | some (.cells g' cs)=>if g=g'∧off+len*sz≤cs.length then .rows (k&&c) sz ((chunk sz (cs.drop off) len).map fun e=>e.map (frz k H n)) else .any
   | _=>.any:=rfl
@[simp] theorem frz_ptr {i g off}:frz k H (n+1) (.ptr i g off)=match H[i]? with
   | some (.cells g' cs)=>if g=g' then .rptr ((cs.drop off).map (frz k H n)) else .any
   | _=>.any:=rfl
@[simp] theorem frz_rptr {cs}:frz k H (n+1) (.rptr cs)=.rptr (cs.map (frz k H n)):=rfl
@[simp] theorem frz_fn {f fs cs}:frz k H (n+1) (.fn f fs cs)=.fn f (fs.map (frz k H n)) (cs.map (frz k H n)):=rfl
@[simp] theorem frz_iface {t v}:frz k H (n+1) (.iface t v)=.iface t (frz k H n v):=rfl
@[simp] theorem frz_agg {cs}:frz k H (n+1) (.agg cs)=.agg (cs.map (frz k H n)):=rfl
@[simp] theorem frz_tuple {cs}:frz k H (n+1) (.tuple cs)=.tuple (cs.map (frz k H n)):=rfl
@[simp] theorem leP_any {a}:leP (n+1) a .any=True:=by simp [leP]
@[simp] theorem leP_rows {c sz es c' sz' es'}:leP (n+1) (.rows c' sz' es') (.rows c sz es)=(sz'=sz∧es'=es∧(c=true→c'=true)):=rfl
@[simp] theorem leP_nil {c sz es}:leP (n+1) .nilS (.rows c sz es)=(es=[]):=rfl
@[simp] theorem leP_agg {as bs}:leP (n+1) (.agg as) (.agg bs)=lePs (leP n) as bs:=rfl
@[simp] theorem leP_tuple {as bs}:leP (n+1) (.tuple as) (.tuple bs)=lePs (leP n) as bs:=rfl
@[simp] theorem leP_bool {a b}:leP (n+1) a (.bool b)=(a=.bool b):=rfl
@[simp] theorem leP_int {a q v}:leP (n+1) a (.int q v)=(a=.int q v):=rfl
@[simp] theorem leP_str {a s}:leP (n+1) a (.str s)=(a=.str s):=rfl
@[simp] theorem leP_nilS {a}:leP (n+1) a .nilS=(a=.nilS):=rfl
@[simp] theorem leP_fn {a f fs cs}:leP (n+1) a (.fn f fs cs)=(a=.fn f fs cs):=rfl
@[simp] theorem leP_loc {a i g off len sz c}:leP (n+1) a (.loc i g off len sz c)=(a=.loc i g off len sz c):=rfl
end
def al {α:Type} (p:α→Prop):List α→Prop
 | []=>True
 | x::l=>p x∧al p l
@[simp] theorem al_nil {α:Type} {p:α→Prop}:al p []=True:=rfl
@[simp] theorem al_cons {α:Type} {p:α→Prop} {x:α} {l:List α}:al p (x::l)=(p x∧al p l):=rfl
theorem al_mem {α:Type} {p:α→Prop}:∀ {l:List α},al p l→∀ x∈l,p x
 | y::l,h,x,hx=>by
  rcases List.mem_cons.1 hx with rfl|hx
  ·exact h.1
  ·exact al_mem h.2 x hx
theorem Wk.tell {lo:Nat} {T T':Tm} {H H':AHeap} (k:Nat) (hlo:lo≤k) (h1:al (fun p=>T.get p.1=p.2) T') (h2:al (fun p=>RL k p.2) T') (h3:H.take k=H') (h4:al (RLB k) H'):Wk lo T H T' H' :=
 Wk.to k hlo (al_mem h1) (al_mem h2) h3 (al_mem h4)
theorem Kl_next {lo:Nat} {I:Nat→Tm→AHeap→Prop} {n:Nat} {K:AEx→Tm→AHeap→Prop} {T T':Tm} {H H':AHeap} (m:Nat) (k:Nat) (hlo:lo≤k) (hi:I m T' H') (h1:al (fun p=>T.get p.1=p.2) T') (h2:al (fun p=>RL k p.2) T') (h3:H.take k=H') (h4:al (RLB k) H') (hm:m<n):Kl lo I n K .normal T H :=
 ⟨m,T',H',hm,Wk.tell k hlo h1 h2 h3 h4,hi⟩
theorem Wk.freeze {lo:Nat} {T:Tm} {H:AHeap} (t:Nat) {i g off len sz:Nat} {c:Bool} {cs:List AV} (h:T.get t=.loc i g off len sz c) (hH:H[i]?=some (.cells g cs)) (hlen:off+len*sz≤cs.length) :
  Wk lo T H ((t,.rows c sz (chunk sz (cs.drop off) len))::T) (H.set i (.dead g)):=by
 rintro X E0 w0 n a w hE0 ⟨E,h1,h2,h3,h4⟩
 obtain ⟨e,he,hb⟩:=h2.ent hH
 obtain ⟨hg,hlive,hnone,hbl⟩:=hb
 obtain ⟨hev,hr'⟩:=h2.kill he
 have hr2:HR X (E.set i { e with live:=false }) w (H.set i (.dead g)):=by
  have:=hr'
  rw [show e.gen=g from hg] at this
  first|exact this|exact hg▸hr'
 refine ⟨_,h1.trans hev,hr2,⟨fun k=>?_⟩,h4.1,n.mono hev h4.2⟩
 simp only [Tm.get]
 split
 ·rename_i hk
  subst hk
  have hv:=h3.rel t
  rw [h] at hv
  obtain ⟨e',he',a',c',q1,q0,q2,q3,q4⟩:=hv.inv_loc h2 hH
  rw [he] at he'
  injection he' with he'
  subst he'
  rw [q1]
  obtain ⟨c1,c2,c3⟩:=chunk_spec (sz:=sz) len (cs.drop off) (by simp;omega)
  by_cases hc0:c'=0
  ·have hl0:len=0:=by omega
   subst hl0
   simp only [chunk]
   exact .rows c sz [] a' c' ⟨0,0,none⟩ (fun _ _=>undef) (by simp) (by simp) (fun h=>by have:=q3 h;omega) (fun i hi=>by simp at hi) (fun h=>by simp at h) (fun h=>by simp at h) (fun i j hi=>by simp at hi) (fun i hi=>by simp at hi)
  ·obtain ⟨B,hB,ha,hroom⟩:=q4 hc0
   have hL:=kill_lone h2 he hlive hB
   have key:∀ j,j<cs.length→∃ u,w.cell? ⟨B,e.base+j,none⟩=some u∧∀ hj:j<cs.length,VR X E w cs[j] u:=fun j hj=>by
    obtain ⟨u,u1,u2,_⟩:=h2.cell hH he hB j hj
    exact ⟨u,u1,fun _=>u2⟩
   have:=VR.rows (X:=X) (E:=E.set i { e with live:=false }) (w:=w) c sz (chunk sz (cs.drop off) len) a' c' ⟨B,e.base+off,none⟩ (fun p j=>(w.cell? ⟨B,e.base+(off+(p*sz+j)),none⟩).getD undef)
    (by rw [c1];exact q0) (by rw [c1];exact q2) (fun h=>by rw [c1];exact q3 h) (fun p hp=>c2 _ (List.getElem_mem _)) (fun _=>by rw [ha]) (fun _ _=>hL) (fun p j hp hj=>?_) (fun p hp j hj=>?_)
   ·rw [c1] at this
    exact this
   ·rw [c1] at hp
    have hlt:p*sz+j<len*sz:=by
     have:p*sz+sz≤len*sz:=by
      have:=Nat.mul_le_mul_right sz (show p+1≤len by omega)
      rw [Nat.add_mul] at this
      omega
     omega
    obtain ⟨u,u1,_⟩:=key (off+(p*sz+j)) (by omega)
    rw [u1,show e.base+off+(p*sz+j)=e.base+(off+(p*sz+j)) by omega,u1]
    rfl
   ·have hp':p<len:=by rw [c1] at hp;exact hp
    have hjs:j<sz:=by have:=c2 _ (List.getElem_mem (l:=chunk sz (cs.drop off) len) (n:=p) hp);omega
    have hlt:p*sz+j<len*sz:=by
     have:p*sz+sz≤len*sz:=by
      have:=Nat.mul_le_mul_right sz (show p+1≤len by omega)
      rw [Nat.add_mul] at this
      omega
     omega
    obtain ⟨u,u1,u2⟩:=key (off+(p*sz+j)) (by omega)
    simp only [u1,Option.getD_some]
    have hfe:=flat_get c2 p j hp hjs
    rw [c3,List.getElem?_take,if_pos hlt,List.getElem?_drop,List.getElem?_eq_getElem (by omega),List.getElem?_eq_getElem hj] at hfe
    injection hfe with hfe
    rw [←hfe]
    exact (u2 (by omega)).mono hev
 ·exact (h3.rel k).mono hev
def Kn (lo N t:Nat) (B:Tm) (H0:AHeap) (φ:Nat→Prop) (i:Nat) (K:AEx→Tm→AHeap→Prop):AEx→Tm→AHeap→Prop
 | .normal=>fun T' H'=>i+1≤N∧φ (i+1)∧Wk lo T' H' ((t,i64 ((i+1:Nat):Int))::B) H0
 | e=>K e
@[simp] theorem Kn_exit {lo N t B H0 φ i K id}:Kn lo N t B H0 φ i K (.exit id)=K (.exit id):=rfl
@[simp] theorem Kn_ret {lo N t B H0 φ i K}:Kn lo N t B H0 φ i K .ret=K .ret:=rfl
theorem Kn_next {lo N t:Nat} {B:Tm} {H0:AHeap} {φ:Nat→Prop} {i:Nat} {K:AEx→Tm→AHeap→Prop} {T:Tm} {H:AHeap} (k:Nat) (hlo:lo≤k) (h1:i+1≤N) (h2:φ (i+1)) (ht:al (fun p=>T.get p.1=p.2) ((t,i64 ((i+1:Nat):Int))::B))
  (hr:al (fun p=>RL k p.2) B) (h3:H.take k=H0) (h4:al (RLB k) H0):Kn lo N t B H0 φ i K .normal T H :=
 ⟨h1,h2,Wk.tell k hlo ht ⟨by simp,hr⟩ h3 h4⟩
theorem run_count {P:Program} {lo:Nat} {a:ACode} {K:AEx→Tm→AHeap→Prop} {T:Tm} {H:AHeap} (N t:Nat) (B:Tm) (H0:AHeap) (φ:Nat→Prop) (hw:Wk lo T H ((t,i64 0)::B) H0) (h0:φ 0)
  (h:∀ i:Nat,i≤N→φ i→run P lo a (Kn lo N t B H0 φ i K) ((t,i64 i)::B) H0):run P lo (.loop a) K T H:=by
 refine run_loop (fun n T H=>∃ i:Nat,n=N - i∧i≤N∧φ i∧T=(t,i64 i)::B∧H=H0) N _ _ hw ⟨0,by simp,by simp,h0,rfl,rfl⟩ ?_
 rintro n T H ⟨i,rfl,hi,hf,rfl,rfl⟩
 have:=h i hi hf
 have e:Kn lo N t B H φ i K=Kl lo (fun n T H_1=>∃ i:Nat,n=N - i∧i≤N∧φ i∧T=(t,i64 i)::B∧H_1=H) (N - i) K∨True:=.inr trivial
 clear e
 refine run_mono (fun e T' H' hk=>?_) this
 cases e with
 | normal =>
  obtain ⟨k1,k2,k3⟩:=hk
  exact ⟨N - (i+1),_,_,by omega,k3,i+1,rfl,k1,k2,rfl,rfl⟩
 | exit id=>exact hk
 | ret=>exact hk
def byte (s:ByteArray) (i:Int):Int:=((s.data.getD i.toNat 0).toNat:Int)
@[simp] theorem aIdxs_str {s:ByteArray} {k:IntKind} {i:Int}:aIdxs (.str s) (.int k i)=if 0≤i∧i<s.size then some (.int .u8 (byte s i)) else none:=by
 unfold aIdxs
 by_cases h:0≤i∧i<s.size
 ·simp [h,byte]
 ·simp [h]
theorem w64 {n:Int} (h0:-9223372036854775808≤n) (h1:n<9223372036854775808):IntKind.i64.wrap n=n:=by
 rw [IntKind.wrap_i64];omega
theorem nxt {i n:Nat} (h:i<n) (hn:n≤maxA):IntKind.i64.wrap ((i:Int)+1)=((i+1:Nat):Int):=by
 unfold maxA at hn
 rw [w64 (by omega) (by omega)]
 simp
end Go.AM
namespace Go.AM
set_option linter.unusedVariables false
set_option linter.unusedSimpArgs false
variable {P:Program} {w:World}
inductive Ty where
 | bool
 | int (k:IntKind)
 | str
 | slice (e:Ty)
 | struct (fs:List Ty)
mutual
def Ty.size:Ty→Nat
 | .struct fs=>Ty.sizes fs
 | _=>1
def Ty.sizes:List Ty→Nat
 | []=>0
 | f::fs=>f.size+Ty.sizes fs
end
mutual
def Ty.fits (P:Program):Ty→TypeId→Bool
 | .bool,t=>match P.underlying t with|some .bool=>true|_=>false
 | .int k,t=>match P.underlying t with|some (.int k')=>decide (k'=k)|_=>false
 | .str,t=>match P.underlying t with|some .string=>true|_=>false
 | .slice e,t=>match P.underlying t with|some (.slice e')=>e.fits P e'&&P.cellsOf e'==e.size&&decide (0<e.size)|_=>false
 | .struct fs,t=>match P.underlying t with|some (.struct gs)=>Ty.fitsL P fs 0 gs.toList&&P.cellsOf t==Ty.sizes fs|_=>false
def Ty.fitsL (P:Program):List Ty→Nat→List Field→Bool
 | [],_,[]=>true
 | f::fs,o,g::gs=>f.fits P g.type&&g.offset==o&&P.cellsOf g.type==f.size&&Ty.fitsL P fs (o+f.size) gs
 | _,_,_=>false
end
def lim:Nat:=1048576
mutual
def Ty.is:Ty→List AV→Prop
 | .bool,cs=>∃ b,cs=[.bool b]
 | .int k,cs=>∃ n,cs=[.int k n]∧(Lit.int k n).wf=true
 | .str,cs=>∃ s:ByteArray,cs=[.str s]∧s.size≤lim
 | .slice e,cs=>∃ es,cs=[.rows false e.size es]∧es.length≤lim∧∀ x∈es,e.is x
 | .struct fs,cs=>Ty.isL fs cs
def Ty.isL:List Ty→List AV→Prop
 | [],cs=>cs=[]
 | f::fs,cs=>∃ a b,cs=a++b∧f.is a∧Ty.isL fs b
end
theorem is_rows {α:Type} {e:List AV→Prop} {f:α→List AV} {p:α→Prop} (h:∀ x,e x→∃ a,x=f a∧p a):∀ {es:List (List AV)},(∀ x∈es,e x)→∃ l:List α,es=l.map f∧∀ a∈l,p a
 | [],_=>⟨[],rfl,fun a ha=>by cases ha⟩
 | x::es,hx=>by
  obtain ⟨a,h1,h2⟩:=h x (hx x (by simp))
  obtain ⟨l,k1,k2⟩:=is_rows h (es:=es) (fun y hy=>hx y (by simp [hy]))
  exact ⟨a::l,by simp [h1,k1],fun b hb=>by rcases List.mem_cons.1 hb with rfl|hb;exact h2;exact k2 b hb⟩
def VRs (w:World) (as:List AV) (cs:List Value):Prop:=cs.length=as.length∧∀ j (hj:j<as.length) (hj':j<cs.length),VR (fun _=>False) [] w as[j] cs[j]
theorem VRs.app {as bs:List AV} {cs ds:List Value} (h:VRs w as cs) (k:VRs w bs ds):VRs w (as++bs) (cs++ds):=by
 refine ⟨by simp [h.1,k.1],fun j hj hj'=>?_⟩
 by_cases hlt:j<as.length
 ·rw [List.getElem_append_left hlt,List.getElem_append_left (by rw [h.1];exact hlt)]
  exact h.2 j hlt (by rw [h.1];exact hlt)
 ·have hl:=h.1
  rw [List.getElem_append_right (by omega),List.getElem_append_right (by omega)]
  have:=k.2 (j - as.length) (by simp at hj;omega) (by rw [k.1];simp at hj;omega)
  simpa only [hl] using this
theorem add_add (a:Addr) (m j:Nat):(a.add m).add j=a.add (m+j):=by
 unfold Addr.add
 by_cases hj:j=0
 ·subst hj;simp
 ·by_cases hm:m=0
  ·subst hm;simp [hj]
  ·simp [hj,hm,Nat.add_assoc]
structure Bulk {H:Type} (B:DataW H→Nat):Prop where
 str:∀ bs,bs.length≤B (.lit (.string bs))
 len:∀ es sp,es.length≤B (.slice es sp)
 el:∀ es sp,∀ e∈es,B e≤B (.slice es sp)
 part:∀ ps,∀ p∈ps,B p≤B (.agg ps)
theorem choose_list {α β:Type} {R:α→β→Prop}:∀ {l:List α},(∀ x∈l,∃ y,R x y)→∃ r:List β,r.length=l.length∧∀ i (h1:i<l.length) (h2:i<r.length),R l[i] r[i]
 | [],_=>⟨[],rfl,fun i h=>by simp at h⟩
 | x::l,h=>by
  obtain ⟨y,hy⟩:=h x (by simp)
  obtain ⟨r,h1,h2⟩:=choose_list (l:=l) (fun z hz=>h z (by simp [hz]))
  refine ⟨y::r,by simp [h1],fun i k1 k2=>?_⟩
  cases i with
  | zero=>exact hy
  | succ i=>exact h2 i (by simpa using k1) (by simpa using k2)
section
variable {H:Type} {enc:TypeId×Value→H} {base:Nat} {sp:Nat→Bool} {held:Bool} {B:DataW H→Nat}
mutual
theorem trod_is (hB:Bulk B):∀ (ty:Ty) (t:TypeId) (fuel:Nat) (cs:List Value) (x:DataW H×List MemPlace),ty.fits P t=true→DataW.trod enc P w base sp held fuel t cs=some x→B x.1≤lim →
  ∃ as,ty.is as∧VRs w as cs∧as.length=ty.size∧∀ a∈as,RL 0 a
 | .bool,t,fuel,cs,x,hf,h,hb=>by
  simp only [Ty.fits] at hf
  split at hf
  ·rename_i hu
   obtain ⟨b,rfl,rfl⟩:=DataW.trod_bool hu h
   exact ⟨[.bool b],⟨b,rfl⟩,⟨rfl,fun j hj hj'=>by simp at hj;subst hj;exact .bool b⟩,rfl,by simp⟩
  ·cases hf
 | .int k,t,fuel,cs,x,hf,h,hb=>by
  simp only [Ty.fits] at hf
  split at hf
  ·rename_i k' hu
   have:k'=k:=by simpa using hf
   subst this
   obtain ⟨n,rfl,rfl,hw⟩:=DataW.trod_int hu h
   exact ⟨[.int k' n],⟨n,rfl,hw⟩,⟨rfl,fun j hj hj'=>by simp at hj;subst hj;exact .int k' n⟩,rfl,by simp⟩
  ·cases hf
 | .str,t,fuel,cs,x,hf,h,hb=>by
  simp only [Ty.fits] at hf
  split at hf
  ·rename_i hu
   obtain ⟨s,rfl,rfl,hm⟩:=DataW.trod_string hu h
   have hs:s.size≤lim:=by
    have:=hB.str s.data.toList
    have e:s.data.toList.length=s.size:=by rw [Array.length_toList];rfl
    simp only at hb
    omega
   exact ⟨[.str s],⟨s,rfl,hs⟩,⟨rfl,fun j hj hj'=>by simp at hj;subst hj;exact .str s (by unfold lim at hs;omega)⟩,rfl,by simp⟩
  ·cases hf
 | .slice e,t,fuel,cs,x,hf,h,hb=>by
  simp only [Ty.fits] at hf
  split at hf
  ·rename_i e' hu
   simp only [Bool.and_eq_true,beq_iff_eq,decide_eq_true_eq] at hf
   obtain ⟨⟨hf1,hf2⟩,hf3⟩:=hf
   rcases DataW.trod_slice hu h with ⟨rfl,rfl⟩|⟨a,len,cap,elems,rest,n,rfl,rfl,rfl,hba,hl,hm,hlen,hel,_,_⟩
   ·refine ⟨[.rows false e.size []],⟨[],rfl,by simp [lim],fun x hx=>by cases hx⟩,⟨rfl,fun j hj hj'=>?_⟩,rfl,by simp⟩
    simp at hj
    subst hj
    exact .rows _ _ [] none 0 ⟨0,0,none⟩ (fun _ _=>undef) (by simp) (by simp) (fun _=>rfl) (fun i hi=>by simp at hi) (fun h=>by simp at h) (fun h=>by simp at h) (fun i j hi=>by simp at hi) (fun i hi=>by simp at hi)
   ·simp only at hb
    have hll:elems.length≤lim:=by
     have:=hB.len (elems.map (·.1)) (rest.map (·.1))
     simp at this
     omega
    have each:∀ i (hi:i<elems.length),∃ cs',w.cells? base (a.add (i*P.cellsOf e')) (P.cellsOf e')=some cs'∧DataW.trod enc P w base sp held n e' cs'=some elems[i]:=by
     intro i hi
     have:=hel i (by omega)
     rw [List.getElem?_eq_getElem hi,Option.bind_eq_some_iff] at this
     exact this
    have one:∀ i (hi:i<elems.length),∃ q:List AV×List Value,(e.is q.1∧VRs w q.1 q.2∧q.1.length=e.size∧∀ a∈q.1,RL 0 a)∧w.cells? base (a.add (i*P.cellsOf e')) (P.cellsOf e')=some q.2:=by
     intro i hi
     obtain ⟨cs',h1,h2⟩:=each i hi
     have hbi:B elems[i].1≤lim:=Nat.le_trans (hB.el (elems.map (·.1)) (rest.map (·.1)) elems[i].1 (List.mem_map.2 ⟨_,List.getElem_mem _,rfl⟩)) hb
     obtain ⟨as,k1,k2,k3,k4⟩:=trod_is hB e e' n cs' elems[i] hf1 h2 hbi
     exact ⟨(as,cs'),⟨k1,k2,k3,k4⟩,h1⟩
    obtain ⟨r,r1,r2⟩:=choose_list (l:=List.range elems.length) (R:=fun i (q:List AV×List Value)=>(e.is q.1∧VRs w q.1 q.2∧q.1.length=e.size∧∀ a∈q.1,RL 0 a)∧w.cells? base (a.add (i*P.cellsOf e')) (P.cellsOf e')=some q.2) (fun i hi=>one i (List.mem_range.1 hi))
    have r1':r.length=elems.length:=by simpa using r1
    have rr:∀ i (hi:i<r.length),(e.is r[i].1∧VRs w r[i].1 r[i].2∧r[i].1.length=e.size∧∀ a∈r[i].1,RL 0 a)∧w.cells? base (a.add (i*P.cellsOf e')) (P.cellsOf e')=some r[i].2:=by
     intro i hi
     have:=r2 i (by simp;omega) hi
     simpa using this
    have cell:∀ i j (hi:i<r.length) (hj:j<e.size),∃ hj':j<r[i].2.length,w.cell? (a.add (i*e.size+j))=some r[i].2[j]:=by
     intro i j hi hj
     obtain ⟨⟨k1,k2,k3,_⟩,hc⟩:=rr i hi
     rw [hf2] at hc
     obtain ⟨c1,c2,c3⟩:=World.cells?_some hc
     have hj':j<r[i].2.length:=by omega
     refine ⟨hj',?_⟩
     have:=c3 j hj
     rw [add_add] at this
     rw [this]
     exact List.getElem?_eq_getElem hj'
    have spot:0<r.length→a=⟨a.block,a.off,none⟩:=by
     intro h0
     obtain ⟨_,hc⟩:=cell 0 0 h0 hf3
     have e0:a.add (0*e.size+0)=a:=by simp [Addr.add]
     rw [e0] at hc
     unfold World.cell? at hc
     split at hc
     ·split at hc
      ·cases hc
      ·rename_i hsp
       obtain ⟨b,o,s⟩:=a
       simp at hsp
       subst hsp
       rfl
     ·cases hc
    refine ⟨[.rows false e.size (r.map (·.1))],⟨r.map (·.1),rfl,by simp;omega,fun x hx=>?_⟩,⟨rfl,fun j hj hj'=>?_⟩,rfl,?_⟩
    ·obtain ⟨q,hq,rfl⟩:=List.mem_map.1 hx
     obtain ⟨i,hi,rfl⟩:=List.getElem_of_mem hq
     exact (rr i hi).1.1
    ·simp at hj
     subst hj
     have hlr:(r.map (·.1)).length=len:=by simp;omega
     have:=VR.rows (X:=fun _=>False) (E:=[]) (w:=w) false e.size (r.map (·.1)) (some a) cap ⟨a.block,a.off,none⟩ (fun i j=>(w.cell? (a.add (i*e.size+j))).getD undef)
      (by rw [hlr];unfold maxA;unfold lim at hll;omega) (by rw [hlr];exact hl) (fun h=>by cases h) (fun i hi=>by
       simp at hi
       simp only [List.getElem_map]
       exact (rr i hi).1.2.2.1) (fun h0=>by rw [←spot (by simpa using h0)]) (fun _ _=>⟨fun h=>h,fun ⟨e,he,_⟩=>by cases he⟩) (fun i j hi hj=>by
       simp at hi
       obtain ⟨hj',hc⟩:=cell i j hi hj
       have e0:=spot (by omega)
       rw [hc]
       rw [e0,add_none] at hc
       exact hc) (fun i hi j hj=>by
       simp at hi
       simp only [List.getElem_map] at hj ⊢
       obtain ⟨⟨_,k2,k3,_⟩,_⟩:=rr i hi
       obtain ⟨hj',hc⟩:=cell i j hi (by omega)
       rw [hc]
       exact k2.2 j hj hj')
     rw [hlr] at this
     exact this
    ·intro x hx
     simp at hx
     subst hx
     simp
     intro y z hq u hu
     obtain ⟨i,hi,he⟩:=List.getElem_of_mem hq
     have:=(rr i hi).1.2.2.2
     rw [he] at this
     exact this u hu
  ·cases hf
 | .struct fs,t,fuel,cs,x,hf,h,hb=>by
  simp only [Ty.fits] at hf
  split at hf
  ·rename_i gs hu
   simp only [Bool.and_eq_true,beq_iff_eq] at hf
   obtain ⟨xs,n,rfl,rfl,hc,hxl,hall⟩:=DataW.trod_struct hu h
   obtain ⟨as,k1,k2,k3,k4⟩:=trod_isL hB fs gs.toList 0 cs xs n hf.1 (by simpa using hxl.symm) (fun i f hi=>hall i f (by simpa using hi)) (fun y hy=>Nat.le_trans (hB.part (xs.map (·.1)) y.1 (List.mem_map.2 ⟨y,hy,rfl⟩)) hb) (by rw [hc,hf.2];omega)
   exact ⟨as,k1,by simpa using k2,k3,k4⟩
  ·cases hf
theorem trod_isL (hB:Bulk B):∀ (fs:List Ty) (gs:List Field) (o:Nat) (cs:List Value) (xs:List (DataW H×List MemPlace)) (n:Nat),Ty.fitsL P fs o gs=true→gs.length=xs.length →
  (∀ (i:Nat) (f:Field),gs[i]?=some f→DataW.trod enc P w base sp held n f.type ((cs.drop f.offset).take (P.cellsOf f.type))=xs[i]?)→(∀ y∈xs,B y.1≤lim)→cs.length=o+Ty.sizes fs →
  ∃ as,Ty.isL fs as∧VRs w as (cs.drop o)∧as.length=Ty.sizes fs∧∀ a∈as,RL 0 a
 | [],[],o,cs,xs,n,hf,hl,hall,hb,hc=>by
  refine ⟨[],rfl,⟨?_,fun j hj=>by simp at hj⟩,rfl,fun a ha=>by cases ha⟩
  simp [Ty.sizes] at hc
  simp [hc]
 | f::fs,g::gs,o,cs,xs,n,hf,hl,hall,hb,hc=>by
  simp only [Ty.fitsL,Bool.and_eq_true,beq_iff_eq] at hf
  obtain ⟨⟨⟨h1,h2⟩,h3⟩,h4⟩:=hf
  cases xs with
  | nil=>simp at hl
  | cons x xs =>
   simp only [Ty.sizes] at hc
   have hx:=hall 0 g rfl
   simp only [List.getElem?_cons_zero] at hx
   rw [h2,h3] at hx
   obtain ⟨as,k1,k2,k3,k4⟩:=trod_is hB f g.type n _ x h1 hx (hb x (by simp))
   obtain ⟨bs,q1,q2,q3,q4⟩:=trod_isL hB fs gs (o+f.size) cs xs n h4 (by simpa using hl) (fun i g' hi=>by have:=hall (i+1) g' (by simpa using hi);simpa using this) (fun y hy=>hb y (by simp [hy])) (by omega)
   refine ⟨as++bs,⟨as,bs,rfl,k1,q1⟩,?_,by simp [Ty.sizes,k3,q3],fun a ha=>(List.mem_append.1 ha).elim (k4 a) (q4 a)⟩
   have:=k2.app q2
   rw [←List.drop_drop,List.take_append_drop] at this
   exact this
 | [],_::_,o,cs,xs,n,hf,_,_,_,_=>by simp [Ty.fitsL] at hf
 | _::_,[],o,cs,xs,n,hf,_,_,_,_=>by simp [Ty.fitsL] at hf
end
end
theorem FT.plain {f:FuncId} {args:List AV} {r:AV} (h:PF P f args r) {vals:Array Value} (ha:ArgsR (fun _=>False) [] w args vals) :
  Calls P f vals w fun e w'=>∃ v,e=.returned v∧(∀ b,r=.bool b→v=.bool b)∧RowKit.Below w.heap.size w w':=by
 have hr0:HR (fun _=>False) [] w []:=⟨rfl,fun i j ei ej B h=>by simp at h,fun i e B h=>by simp at h,fun i e b h=>by simp at h,fun B hB=>hB.elim⟩
 refine (h.2.2.2 _ [] w vals hr0 ha).mono ?_
 rintro e w' ⟨v,rv,E',H',rfl,rfl,k1,k2,k3⟩
 refine ⟨v,rfl,fun b hb=>by rw [hb] at k1;exact k1.inv_bool,⟨k3.os,k3.tape,k3.output,k3.size,fun B hB=>k3.keep B hB (fun ⟨e,he,_⟩=>by cases he)⟩⟩
end Go.AM
namespace Go.AM
set_option linter.unusedVariables false
set_option linter.unusedSimpArgs false
structure Tm0 where
 kind:Int
 sym:Int
 part:Int
 args:List Int
 deriving Inhabited,DecidableEq
abbrev Tm0.cs (t:Tm0):List AV:=[i64 t.kind,i64 t.sym,i64 t.part,ints t.args]
def termOf (key:List Int):Tm0×Bool:=if key.length<3 then (⟨0,0,0,[]⟩,false) else (⟨gi key 0,gi key 1,gi key 2,key.drop 3⟩,true)
structure Kd where
 keys:List (List Int)
 slots:List Int
 deriving Inhabited,DecidableEq
abbrev Kd.cs (a:Kd):List AV:=[intss a.keys,ints a.slots]
def termAt (a:Kd) (id:Int):Tm0×Bool:=if id<0∨id≥a.keys.length then (⟨0,0,0,[]⟩,false) else termOf (gi a.keys id)
structure Sg where
 name:ByteArray
 args:ByteArray
 deriving Inhabited,DecidableEq
abbrev sigs (l:List Sg):AV:=.rows false 2 (l.map fun s=>[.str s.name,.str s.args])
theorem eq_gi {α:Type} [Inhabited α]:∀ {a b:List α},a.length=b.length→(∀ j:Nat,j<a.length→gi a j=gi b j)→a=b
 | [],[],_,_=>rfl
 | x::a,y::b,h,hj=>by
  have h0:=hj 0 (by simp)
  simp [gi] at h0
  rw [h0,eq_gi (a:=a) (b:=b) (by simpa using h) (fun j hl=>by
   have:=hj (j+1) (by simpa using hl)
   simpa [gi,show ((j:Int)+1).toNat=j+1 by omega] using this)]
 | [],_::_,h,_=>by simp at h
 | _::_,[],h,_=>by simp at h
def fstAt {α:Type} (p:α→Bool) (l:List α):Int:=match l.findIdx? p with
 | some i=>i
 | none=>-1
theorem fstAt_some {α:Type} [Inhabited α] {p:α→Bool} {l:List α} {i:Nat} (hi:i<l.length) (h:p (gi l i)=true) (hj:∀ j:Nat,j<i→p (gi l j)=false):fstAt p l=i:=by
 unfold fstAt
 have:l.findIdx? p=some i:=by
  rw [List.findIdx?_eq_some_iff_getElem]
  refine ⟨hi,?_,fun j hl=>?_⟩
  ·simpa [gi,List.getD,hi] using h
  ·have:=hj j hl
   simpa [gi,List.getD,show j<l.length by omega] using this
 rw [this]
theorem fstAt_none {α:Type} [Inhabited α] {p:α→Bool} {l:List α} (hj:∀ j:Nat,j<l.length→p (gi l j)=false):fstAt p l=-1:=by
 unfold fstAt
 have:l.findIdx? p=none:=by
  rw [List.findIdx?_eq_none_iff]
  intro x hx
  obtain ⟨j,hl,rfl⟩:=List.getElem_of_mem hx
  simpa [gi,List.getD,hl] using hj j hl
 rw [this]
def argOk (c:Int):Prop:=c=43∨c=45∨c=61
instance (c:Int):Decidable (argOk c):=inferInstanceAs (Decidable (_∨_))
def argsOk (s:ByteArray):Bool:=decide (∀ i:Nat,i<s.size→argOk (byte s i))&&decide (s.size≤8)
def letter (c:Int):Prop:=97≤c∧c≤122∨65≤c∧c≤90
def figure (c:Int):Prop:=48≤c∧c≤57∨c=95
instance (c:Int):Decidable (letter c):=inferInstanceAs (Decidable (_∨_))
instance (c:Int):Decidable (figure c):=inferInstanceAs (Decidable (_∨_))
def nameOk (s:ByteArray):Bool:=decide (1≤s.size)&&decide (s.size≤20)&&decide (∀ i:Nat,i<s.size→letter (byte s i)∨0<i∧figure (byte s i))
theorem nameBad {s:ByteArray} {i:Nat} (h:i<s.size) (hn:¬ (letter (byte s i)∨0<i∧figure (byte s i))):nameOk s=false:=by
 have:¬ ∀ i:Nat,i<s.size→letter (byte s i)∨0<i∧figure (byte s i):=fun hh=>hn (hh i h)
 simp [nameOk,this]
theorem nameGood {s:ByteArray} (h1:1≤s.size) (h2:s.size≤20) (h:∀ i:Nat,i<s.size→letter (byte s i)∨0<i∧figure (byte s i)):nameOk s=true:=by
 simp only [nameOk,Bool.and_eq_true,decide_eq_true_eq]
 exact ⟨⟨h1,h2⟩,h⟩
def conOk (s:ByteArray):Bool:=nameOk s&&decide (97≤byte s 0)&&decide (byte s 0≤122)
theorem nameSize {s:ByteArray} (h:nameOk s=true):0<s.size:=by
 simp only [nameOk,Bool.and_eq_true,decide_eq_true_eq] at h
 omega
def nextAt (N p:Nat):Nat:=if p+1=N then 0 else p+1
def probe (o:List Int):Nat→Nat→Nat
 | 0,p=>p
 | f+1,p=>if gi o p=0 then p else probe o f (nextAt o.length p)
def dist (N z p:Nat):Nat:=if p≤z then z - p else z+N - p
theorem dist_lt {N z p:Nat} (hz:z<N) (hp:p<N):dist N z p<N:=by unfold dist;split<;>omega
theorem nextAt_lt {N p:Nat} (hp:p<N):nextAt N p<N:=by unfold nextAt;split<;>omega
theorem dist_next {N z p:Nat} (hz:z<N) (hp:p<N) (hne:p≠z):dist N z (nextAt N p)+1=dist N z p:=by
 unfold dist nextAt
 split<;>split<;>split<;>omega
theorem probe_fuel {o:List Int} {z:Nat} (hz:z<o.length) (h0:gi o z=0):∀ (f p:Nat),p<o.length→dist o.length z p≤f→probe o (f+1) p=probe o f p
 | 0,p,hp,hd=>by
  have:p=z:=by unfold dist at hd;split at hd<;>omega
  subst this
  simp [probe,h0]
 | f+1,p,hp,hd=>by
  have e1:probe o (f+1+1) p=if gi o p=0 then p else probe o (f+1) (nextAt o.length p):=rfl
  have e2:probe o (f+1) p=if gi o p=0 then p else probe o f (nextAt o.length p):=rfl
  rw [e1,e2]
  by_cases h:gi o p=0
  ·rw [if_pos h,if_pos h]
  ·rw [if_neg h,if_neg h]
   have hne:p≠z:=fun e=>h (by rw [e];exact h0)
   have:=dist_next hz hp hne
   exact probe_fuel hz h0 f _ (nextAt_lt hp) (by omega)
theorem probe_step {o:List Int} {z p:Nat} (hz:z<o.length) (h0:gi o z=0) (hp:p<o.length) (h:gi o p≠0):probe o o.length p=probe o o.length (nextAt o.length p):=by
 have hne:p≠z:=fun e=>h (by rw [e];exact h0)
 have hd:=dist_next hz hp hne
 have hl:=dist_lt hz hp
 obtain ⟨f,hf⟩:∃ f,o.length=f+1:=⟨o.length - 1,by omega⟩
 have:=probe_fuel hz h0 f (nextAt o.length p) (nextAt_lt hp) (by omega)
 rw [←hf] at this
 rw [this]
 conv=>lhs;rw [hf]
 rw [probe,if_neg h,hf]
theorem probe_stop {o:List Int} {p:Nat} (h:gi o p=0):∀ f,probe o f p=p
 | 0=>rfl
 | f+1=>by rw [probe,if_pos h]
theorem free {o:List Int} (h:o.countP (fun x=>x != 0)<o.length):∃ z:Nat,z<o.length∧gi o z=0:=by
 apply Classical.byContradiction
 intro hno
 have:∀ x∈o,(x != 0)=true:=by
  intro x hx
  obtain ⟨i,hi,rfl⟩:=List.getElem_of_mem hx
  have:gi o (i:Int)≠0:=fun e=>hno ⟨i,hi,e⟩
  simpa [gi,List.getD,hi] using this
 rw [List.countP_eq_length.2 this] at h
 omega
theorem count_set:∀ {o:List Int} {p:Nat} {v:Int},p<o.length→gi o p=0→v≠0→(o.set p v).countP (fun x=>x != 0)=o.countP (fun x=>x != 0)+1
 | x::o,0,v,h,h0,hv=>by
  simp [gi] at h0
  subst h0
  simp [hv]
 | x::o,p+1,v,h,h0,hv=>by
  have:gi o (p:Int)=0:=by simpa [gi,show ((p:Int)+1).toNat=p+1 by omega] using h0
  have:=count_set (o:=o) (p:=p) (v:=v) (by simpa using h) this hv
  simp only [List.set_cons_succ,List.countP_cons,this]
  omega
 | [],p,v,h,_,_=>by simp at h
end Go.AM
namespace Go.AM
set_option linter.unusedVariables false
set_option linter.unusedSimpArgs false
variable {P:Program}
theorem VR.letgo {X:Nat→Prop} {E:Env} {w:World} {H:AHeap} (h2:HR X E w H) {i g off len sz:Nat} {c:Bool} {cs:List AV} {e:Ent} (he:E[i]?=some e) (hH:H[i]?=some (.cells g cs)) (hlen:off+len*sz≤cs.length)
  {v:Value} (hv:VR X E w (.loc i g off len sz c) v):VR X (E.set i { e with live:=false }) w (.rows c sz (chunk sz (cs.drop off) len)) v:=by
 have hb:=h2.br i e _ he hH
 obtain ⟨hg,hlive,hnone,hbl⟩:=hb
 obtain ⟨hev,hr'⟩:=h2.kill he
 obtain ⟨e',he',a',c',q1,q0,q2,q3,q4⟩:=hv.inv_loc h2 hH
 rw [he] at he'
 injection he' with he'
 subst he'
 rw [q1]
 obtain ⟨c1,c2,c3⟩:=chunk_spec (sz:=sz) len (cs.drop off) (by simp;omega)
 by_cases hc0:c'=0
 ·have hl0:len=0:=by omega
  subst hl0
  simp only [chunk]
  exact .rows c sz [] a' c' ⟨0,0,none⟩ (fun _ _=>undef) (by simp) (by simp) (fun h=>by have:=q3 h;omega) (fun i hi=>by simp at hi) (fun h=>by simp at h) (fun h=>by simp at h) (fun i j hi=>by simp at hi) (fun i hi=>by simp at hi)
 ·obtain ⟨B,hB,ha,hroom⟩:=q4 hc0
  have hL:=kill_lone h2 he hlive hB
  have key:∀ j,j<cs.length→∃ u,w.cell? ⟨B,e.base+j,none⟩=some u∧∀ hj:j<cs.length,VR X E w cs[j] u:=fun j hj=>by
   obtain ⟨u,u1,u2,_⟩:=h2.cell hH he hB j hj
   exact ⟨u,u1,fun _=>u2⟩
  have:=VR.rows (X:=X) (E:=E.set i { e with live:=false }) (w:=w) c sz (chunk sz (cs.drop off) len) a' c' ⟨B,e.base+off,none⟩ (fun p j=>(w.cell? ⟨B,e.base+(off+(p*sz+j)),none⟩).getD undef)
   (by rw [c1];exact q0) (by rw [c1];exact q2) (fun h=>by rw [c1];exact q3 h) (fun p hp=>c2 _ (List.getElem_mem _)) (fun _=>by rw [ha]) (fun _ _=>hL) (fun p j hp hj=>?_) (fun p hp j hj=>?_)
  ·rw [c1] at this
   exact this
  ·rw [c1] at hp
   have hlt:p*sz+j<len*sz:=by
    have:p*sz+sz≤len*sz:=by
     have:=Nat.mul_le_mul_right sz (show p+1≤len by omega)
     rw [Nat.add_mul] at this
     omega
    omega
   obtain ⟨u,u1,_⟩:=key (off+(p*sz+j)) (by omega)
   rw [u1,show e.base+off+(p*sz+j)=e.base+(off+(p*sz+j)) by omega,u1]
   rfl
  ·have hp':p<len:=by rw [c1] at hp;exact hp
   have hjs:j<sz:=by have:=c2 _ (List.getElem_mem (l:=chunk sz (cs.drop off) len) (n:=p) hp);omega
   have hlt:p*sz+j<len*sz:=by
    have:p*sz+sz≤len*sz:=by
     have:=Nat.mul_le_mul_right sz (show p+1≤len by omega)
     rw [Nat.add_mul] at this
     omega
    omega
   obtain ⟨u,u1,u2⟩:=key (off+(p*sz+j)) (by omega)
   simp only [u1,Option.getD_some]
   have hfe:=flat_get c2 p j hp hjs
   rw [c3,List.getElem?_take,if_pos hlt,List.getElem?_drop,List.getElem?_eq_getElem (by omega),List.getElem?_eq_getElem hj] at hfe
   injection hfe with hfe
   rw [←hfe]
   exact (u2 (by omega)).mono hev
def fz (i g:Nat) (cs:List AV):Nat→AV→AV
 | 0,av=>av
 | n+1,av=>match av with
  | .loc j g' off len sz c=>if j=i∧g'=g∧off+len*sz≤cs.length then .rows c sz (chunk sz (cs.drop off) len) else .loc j g' off len sz c
  | .agg as=>.agg (as.map (fz i g cs n))
  | .tuple as=>.tuple (as.map (fz i g cs n))
  | .fn f as bs=>.fn f (as.map (fz i g cs n)) (bs.map (fz i g cs n))
  | .iface t v=>.iface t (fz i g cs n v)
  | av=>av
theorem VR.fz {X:Nat→Prop} {E:Env} {w:World} {H:AHeap} (h2:HR X E w H) {i g:Nat} {cs:List AV} {e:Ent} (he:E[i]?=some e) (hH:H[i]?=some (.cells g cs)) :
  ∀ (n:Nat) {av:AV} {v:Value},VR X E w av v→VR X (E.set i { e with live:=false }) w (fz i g cs n av) v
 | 0,av,v,h=>h.mono (h2.kill he).1
 | n+1,av,v,h=>by
  have hev:=(h2.kill he).1
  cases av with
  | loc j g' off len sz c =>
   simp only [Go.AM.fz]
   split
   ·rename_i hc
    obtain ⟨rfl,rfl,hl⟩:=hc
    exact h.letgo h2 he hH hl
   ·exact h.mono hev
  | agg as =>
   cases h with
   | agg _ vs h1 h =>
    refine .agg _ vs (by simpa using h1) (fun j hj hj'=>?_)
    simp at hj
    simp only [List.getElem_map]
    exact (h j hj hj').fz h2 he hH n
  | tuple as =>
   cases h with
   | tuple _ vs h1 h =>
    refine .tuple _ vs (by simpa using h1) (fun j hj hj'=>?_)
    simp at hj
    simp only [List.getElem_map]
    exact (h j hj hj').fz h2 he hH n
  | iface t v =>
   cases h with
   | iface t v u h=>exact .iface t _ u (h.fz h2 he hH n)
  | fn f as bs =>
   cases h with
   | fn f as bs fs' cs' h1 h2' hf hc =>
    refine .fn f _ _ fs' cs' (by simpa using h1) (by simpa using h2') (fun j hj hj'=>?_) (fun j hj hj'=>?_)
    ·simp at hj
     simp only [List.getElem_map]
     exact (hf j hj hj').fz h2 he hH n
    ·simp at hj
     simp only [List.getElem_map]
     exact (hc j hj hj').fz h2 he hH n
  | _=>exact h.mono hev
theorem FT.letgo {f:FuncId} {as:List AV} {H:AHeap} {R:AV→AHeap→Prop} (i:Nat) {g:Nat} {cs:List AV} (n:Nat) (hH:H[i]?=some (.cells g cs))
  (h:FT P f (as.map (fz i g cs n)) (H.set i (.dead g)) R):FT P f as H R:=by
 refine ⟨h.1,fun X E w vals hr ha=>?_⟩
 obtain ⟨e,he,hb⟩:=hr.ent hH
 obtain ⟨hev,hr'⟩:=hr.kill he
 have hg:e.gen=g:=hb.1
 subst hg
 refine (h.2 X _ w vals hr' ⟨by simpa using ha.1,fun j hj hj'=>?_⟩).mono ?_
 ·simp at hj
  simp only [List.getElem_map]
  exact (ha.2 j hj hj').fz hr he hH n
 ·rintro e w' ⟨v,rv,E',H',k1,k2,k3,k4,k5⟩
  exact ⟨v,rv,E',H',k1,k2,k3,k4,hev.trans k5⟩
end Go.AM
namespace Go.AM
set_option linter.unusedVariables false
set_option linter.unusedSimpArgs false
def mget {α β:Type} [DecidableEq α]:List (α×β)→α→Option β
 | [],_=>none
 | p::l,a=>if a=p.1 then some p.2 else mget l a
def mput {α β:Type} [DecidableEq α]:List (α×β)→α→β→List (α×β)
 | [],a,v=>[(a,v)]
 | p::l,a,v=>if a=p.1 then (a,v)::l else p::mput l a v
section
variable {α β:Type} [DecidableEq α] {agg:Bool} {ks:List LK} {K:α→AV} {C:α→List AV} {V:β→AV}
theorem lookA_map (hK:∀ a,cellsK agg ks (K a)=some (C a)) (hC:∀ a b,leavesA (C a) (C b)=decide (a=b)) (a:α) :
  ∀ l:List (α×β),lookA agg ks (C a) (l.map fun p=>(K p.1,V p.2))=some ((mget l a).map V)
 | []=>rfl
 | p::l=>by
  simp only [List.map_cons,lookA,hK,hC,decide_eq_true_eq,mget]
  split
  ·rfl
  ·exact lookA_map hK hC a l
theorem updA_map (hK:∀ a,cellsK agg ks (K a)=some (C a)) (hC:∀ a b,leavesA (C a) (C b)=decide (a=b)) (a:α) (v:β) :
  ∀ l:List (α×β),updA agg ks (C a) (K a) (V v) (l.map fun p=>(K p.1,V p.2))=some ((mput l a v).map fun p=>(K p.1,V p.2))
 | []=>rfl
 | p::l=>by
  simp only [List.map_cons,updA,hK,hC,decide_eq_true_eq,mput]
  split
  ·rfl
  ·rw [updA_map hK hC a v l]
   rfl
end
theorem app_flat {α:Type} {sz:Nat} {f:α→List AV} {l l':List α} (h:∀ x,(f x).length=sz):((l.map f).flatten.take (l.length*sz)++(l'.map f).flatten)=((l++l').map f).flatten:=by
 rw [←len_flat h,List.take_length]
 simp
theorem flat_RL {α:Type} {n:Nat} {f:α→List AV} (h:∀ x,∀ y∈f x,RL n y) (l:List α):∀ y∈(l.map f).flatten,RL n y:=by
 intro y hy
 obtain ⟨x,hx,hy⟩:=List.mem_flatten.1 hy
 obtain ⟨a,_,rfl⟩:=List.mem_map.1 hx
 exact h a y hy
theorem drop_flat {α:Type} {sz:Nat} {f:α→List AV} (h:∀ x,(f x).length=sz):∀ (k:Nat) (l:List α),(l.map f).flatten.drop (k*sz)=((l.drop k).map f).flatten
 | 0,l=>by simp
 | k+1,[]=>by simp
 | k+1,x::l=>by
  simp only [List.map_cons,List.flatten_cons,List.drop_succ_cons]
  rw [←drop_flat h k l,show (k+1)*sz=(f x).length+k*sz by rw [h x,Nat.add_mul];omega,List.drop_append]
  simp
theorem drop_flat_at {α:Type} {sz:Nat} {f:α→List AV} (h:∀ x,(f x).length=sz) (D L:List α):((D++L).map f).flatten.drop (D.length*sz)=(L.map f).flatten:=by
 rw [drop_flat h,List.drop_left]
theorem take_flat {α:Type} {sz:Nat} {f:α→List AV} (h:∀ x,(f x).length=sz) (L:List α):(L.map f).flatten.take (L.length*sz)=(L.map f).flatten:=by
 rw [←len_flat h,List.take_length]
@[simp] theorem aSlc_loc_lo {H:AHeap} {i g off len sz sz':Nat} {c:Bool} {q:IntKind} {n:Int} :
  aSlc H sz (.loc i g off len sz' c) (some (.int q n)) none none=if (sz'=sz∧alive H i g=true)∧0≤n∧n≤len then some (.loc i g (off+n.toNat*sz) (len - n.toNat) sz c) else none:=by
 unfold aSlc
 by_cases hs:sz'=sz∧alive H i g=true
 ·by_cases h:0≤n∧n≤len
  ·simp [hs,h,aint]
  ·simp only [hs,aint,if_true,Option.map,if_neg h]
   simp [h]
 ·simp [hs]
theorem load_flat {α:Type} {sz:Nat} {f:α→List AV} (h:∀ x,(f x).length=sz) (D L:List α) (x:α):loadCs sz true (((D++x::L).map f).flatten.drop (D.length*sz))=some (.agg (f x)):=by
 rw [drop_flat_at h]
 simp only [List.map_cons,List.flatten_cons,loadCs]
 rw [if_pos (by rw [List.length_append,h x];omega),List.take_left' (h x)]
 rfl
section
variable {α:Type} [DecidableEq α] {agg:Bool} {ks:List LK} {K:α→AV} {C:α→List AV} {v:AV}
end
def fl {α:Type} (f:α→List AV) (l:List α):List AV:=(l.map f).flatten
section
variable {α:Type} {sz n:Nat} {f:α→List AV}
theorem fl_nil:fl f ([]:List α)=[]:=rfl
theorem fl_cons (x:α) (l:List α):fl f (x::l)=f x++fl f l:=by simp [fl]
theorem fl_app (l l':List α):fl f (l++l')=fl f l++fl f l':=by simp [fl]
theorem fl_len (h:∀ x,(f x).length=sz) (l:List α):(fl f l).length=l.length*sz:=len_flat h
theorem app_fl (h:∀ x,(f x).length=sz) (l l':List α):(fl f l).take (l.length*sz)++fl f l'=fl f (l++l'):=app_flat h
theorem load_fl (h:∀ x,(f x).length=sz) (D L:List α) (x:α):loadCs sz true ((fl f (D++x::L)).drop (D.length*sz))=some (.agg (f x)):=load_flat h D L x
theorem fl_RL (h:∀ x,∀ y∈f x,RL n y) (l:List α):∀ y∈fl f l,RL n y:=flat_RL h l
theorem chunk_fl (h:∀ x,(f x).length=sz) (l:List α):chunk sz (fl f l) l.length=l.map f:=chunk_flat h
end
end Go.AM
namespace Go.AM
set_option linter.unusedVariables false
set_option linter.unusedSimpArgs false
variable {P:Program}
def dcl:Nat→AV→AV
 | 0,av=>av
 | n+1,av=>match av with
  | .rows c sz es=>.rows false sz (es.map fun e=>e.map (dcl n))
  | .agg as=>.agg (as.map (dcl n))
  | .tuple as=>.tuple (as.map (dcl n))
  | av=>av
theorem VR.dcl {X:Nat→Prop} {E:Env} {w:World}:∀ (n:Nat) {av:AV} {v:Value},VR X E w av v→VR X E w (dcl n av) v
 | 0,av,v,h=>h
 | n+1,av,v,h=>by
  cases av with
  | rows c sz es =>
   cases h with
   | rows clip sz es a c ad f hn hc hclip hsz ha hL hcell hv =>
    simp only [Go.AM.dcl]
    have e:es.length=(es.map fun e=>e.map (Go.AM.dcl n)).length:=by simp
    rw [e]
    refine .rows _ sz _ a c ad f (by simpa using hn) (by simpa using hc) (fun h=>by cases h) (fun i hi=>?_) (fun h0=>ha (by simpa using h0)) (fun h0 hz=>hL (by simpa using h0) hz) (fun i j hi hj=>hcell i j (by simpa using hi) hj) (fun i hi j hj=>?_)
    ·simp only [List.getElem_map,List.length_map]
     exact hsz i (by simpa using hi)
    ·simp only [List.getElem_map]
     simp at hi
     simp only [List.getElem_map,List.length_map] at hj
     exact (hv i hi j hj).dcl n
  | agg as =>
   cases h with
   | agg _ vs h1 h =>
    refine .agg _ vs (by simpa using h1) (fun j hj hj'=>?_)
    simp at hj
    simp only [List.getElem_map]
    exact (h j hj hj').dcl n
  | tuple as =>
   cases h with
   | tuple _ vs h1 h =>
    refine .tuple _ vs (by simpa using h1) (fun j hj hj'=>?_)
    simp at hj
    simp only [List.getElem_map]
    exact (h j hj hj').dcl n
  | _=>exact h
theorem FT.dcl {f:FuncId} {as:List AV} {H:AHeap} {R:AV→AHeap→Prop} (n:Nat) (h:FT P f (as.map (Go.AM.dcl n)) H R):FT P f as H R:=by
 refine ⟨h.1,fun X E w vals hr ha=>h.2 X E w vals hr ⟨by simpa using ha.1,fun j hj hj'=>?_⟩⟩
 simp at hj
 simp only [List.getElem_map]
 exact (ha.2 j hj hj').dcl n
end Go.AM
