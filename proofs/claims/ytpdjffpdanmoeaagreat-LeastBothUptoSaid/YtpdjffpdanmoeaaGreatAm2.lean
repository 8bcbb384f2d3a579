/- The abstract machine, part 10: make and append. -/
import Derived.Test.YtpdjffpdanmoeaaGreatAm1
import Derived.Laws.AppendOwn
import Derived.Laws.IdiomStrings
import Derived.Laws.BytesString
import Derived.Laws.Cover3
import Derived.MapKept
import Derived.OrdersIn
import Derived.RangeFuncCalls
import Derived.RangeFuncSeq
import Derived.RangeFuncLeaves
import Derived.Sort.LoopGhostIn
namespace Go.AM
set_option linter.unusedVariables false
set_option linter.unusedSimpArgs false
variable {P:Program} {X:Nat→Prop} {E:Env} {w:World} {H:AHeap} {ρ:Opd→AV} {ρc:Operand→Value} {o:Oper}
theorem loc_mk {E':Env} {w':World} {i g off len sz:Nat} {clip:Bool} {e:Ent} {v:Value} (he:E'[i]?=some e) (hg:e.gen=g) (h1:v.oneCell'=true) (h:LocR e off len sz clip v):VR X E' w' (.loc i g off len sz clip) v :=
 .loc i g off len sz clip e v he h1 (by omega) (fun _=>h)
theorem S_mksl {t el:TypeId} {x y:Operand} {x' y':Opd} {i:TypeInfo} {z:Value} {zero:List AV} {av:AV} {H':AHeap} (ho:o.op=.makeSlice t x y) (hx:cOpd x=some x') (hy:cOpd y=some y') (hd:P.underlying t=some (.slice el)) (hi:P.info? el=some i) (hz:i.zero=some z)
  (hc:c2cells z.cells.toList=some zero) (hzl:zero.length=i.size) (h0:0<i.size) (hav:aop (.mksl i.size i.bytes zero x' y') ρ H=some (av,H')) (hρ:OR X E w ρ ρc) (hr:HR X E w H):Res P X E w o ρc av H':=by
 have hvx:=hρ.rel x x' hx
 have hvy:=hρ.rel y y' hy
 unfold aop at hav
 simp only at hav
 split at hav
 ·rename_i kl l kc c hjx hjy
  split at hav
  ·rename_i hb
   obtain ⟨b1,b2,b3,b4⟩:=hb
   simp at hav
   obtain ⟨e1,e2⟩:=hav
   subst e1 e2
   rw [hjx] at hvx
   rw [hjy] at hvy
   have hvx:=hvx.inv_int
   have hvy:=hvy.inv_int
   have hl:limB=140737488355328:=rfl
   have hl':maxA=1099511627776:=rfl
   obtain ⟨k1,k2⟩:=c2cells_sound (X:=X) (E:=E) (w:=w) hc
   have hz0:CsR X E w zero z.cells:=⟨by simpa using k1.symm,fun j hj hj'=>by have:=k2 j hj (by simpa using hj');rwa [Array.getElem_toList] at this⟩
   have hall:=zeros_CsR (len:=c.toNat) hz0 hzl h0
   have hrun:=run_make (P:=P) w t el i z hd hi hz kl kc l c b1 b2 (by rw [Int.mul_comm];omega) (by omega)
   have hlz:∀ n:Nat,(List.replicate n zero).flatten.length=n*i.size:=fun n=>by
    have:=flat_len (es:=List.replicate n zero) (sz:=i.size) (fun e he=>by rw [(List.mem_replicate.1 he).2];exact hzl)
    rw [this];simp
   have hle:l.toNat*i.size≤c.toNat*i.size:=Nat.mul_le_mul_right _ (by omega)
   obtain ⟨hev,hr'⟩:=hr.newCells (List.replicate l.toNat zero).flatten (madeCells z.cells (c.toNat*i.size)) el (by rw [hlz,size_madeCells];exact hle) (fun j hj hj'=>by
    rw [hlz] at hj
    have e:(List.replicate c.toNat zero).flatten=(List.replicate l.toNat zero).flatten++(List.replicate (c.toNat - l.toNat) zero).flatten:=by
     rw [←List.flatten_append,List.replicate_append_replicate]
     congr 2
     omega
    have:=hall.2 j (by rw [hlz];omega) hj'
    simp only [e] at this
    rwa [List.getElem_append_left (by rw [hlz];exact hj)] at this)
   refine ⟨_,_,_,.slice (some ⟨w.heap.size,0,none⟩) l.toNat c.toNat,?_,.inl rfl,?_,hr',hev⟩
   ·simp only [execOp,ho,hvx,hvy,Sem.run_bind,hrun,Result.andThen_ok,Sem.run_pure]
   ·refine loc_mk (e:=⟨0,some w.heap.size,0,(madeCells z.cells (c.toNat*i.size)).size,true⟩) (by rw [←hr.len];simp) rfl rfl ⟨_,_,rfl,by unfold maxA;omega,by omega,(fun h=>by cases h),fun _=>⟨_,rfl,rfl,?_⟩⟩
    simp [size_madeCells]
  ·cases hav
 ·cases hav
theorem elems_sound {y:AV} {v:Value} {sy:Nat} {ys:List (List AV)} (hv:VR X E w y v) (hr:HR X E w H) (h:elems H y=some (sy,ys)) :
    ∃ (b:Option Addr) (cy:Nat) (news:Array Value),v=.slice b ys.length cy∧CsR X E w ys.flatten news∧(∀ e∈ys,e.length=sy)∧ys.length≤maxA∧ys.length≤cy ∧
      (ys≠[]→∀ w',(∀ a u,w.cell? a=some u→w'.cell? a=some u)→(Builtin.firstCells sy ys.length v).run P w'=.ok news w'):=by
  unfold elems at h
  split at h
  · rename_i cl sz es
    simp at h
    obtain ⟨e1,e2⟩:=h
    subst e1 e2
    obtain ⟨a,c,B,o',f,p1,p2,p3,p4,p5,p6,p7,p8,p9⟩:=hv.inv_rows
    have hsz:∀ e∈es,e.length=sz:=fun e he=>by obtain ⟨i,hi,rfl⟩:=List.getElem_of_mem he;exact p5 i hi
    have hf:∀ k,k<es.length*sz→∃ u,w.cell? ⟨B,o'+k,none⟩=some u∧∀ hk:k<es.flatten.length,VR X E w es.flatten[k] u:=by
      intro k hk
      have h0:0<sz:=by rcases Nat.eq_zero_or_pos sz with h|h;(subst h;simp at hk);exact h
      have hd:k/sz<es.length:=Nat.div_lt_of_lt_mul (by rw [Nat.mul_comm];exact hk)
      have hm:k%sz<sz:=Nat.mod_lt _ h0
      have ek:k/sz*sz+k%sz=k:=Nat.div_add_mod' k sz
      refine ⟨f (k/sz) (k%sz),by have:=p8 (k/sz) (k%sz) hd hm;rwa [ek] at this,fun hk'=>?_⟩
      have e:=flat_get hsz (k/sz) (k%sz) hd hm
      have hl:=p5 (k/sz) hd
      rw [ek,List.getElem?_eq_getElem hk',List.getElem?_eq_getElem (by omega)] at e
      injection e with e
      rw [e]
      exact p9 _ hd _ (by omega)
    have hlen:=flat_len hsz
    refine ⟨a,c,((List.range (es.length*sz)).map fun k=>(w.cell? ⟨B,o'+k,none⟩).getD undef).toArray,p1,⟨by simp [hlen],fun j hj hj'=>?_⟩,hsz,p2,p3,fun hne w' hw=>?_⟩
    · obtain ⟨u,u1,u2⟩:=hf j (by rw [←hlen];exact hj)
      simp [u1]
      exact u2 hj
    · subst p1
      have ha:=p6 (by cases es with|nil=>exact absurd rfl hne|cons=>simp)
      subst ha
      have:=run_loadCells (P:=P) w' ⟨B,o',none⟩ (es.length*sz) (fun k=>(w.cell? ⟨B,o'+k,none⟩).getD undef) (fun j hj=>by
        rw [add_none]
        obtain ⟨u,u1,_⟩:=hf j hj
        simp only [u1,Option.getD_some]
        exact hw _ _ u1)
      simpa [Builtin.firstCells] using this
  · simp at h
    obtain ⟨e1,e2⟩:=h
    subst e1 e2
    cases hv
    exact ⟨none,0,#[],rfl,⟨rfl,fun j hj=>by simp at hj⟩,(fun e he=>by cases he),by simp,by simp,fun h=>absurd rfl h⟩
  · rename_i i g off len sz cl
    split at h
    · rename_i g' cs hH
      split at h
      · rename_i hc
        obtain ⟨hg,hb⟩:=hc
        subst hg
        simp at h
        obtain ⟨e1,e2⟩:=h
        subst e1 e2
        obtain ⟨e,he,a,c,q1,q0,q2,q3,q4⟩:=hv.inv_loc hr hH
        have hch:∀ (n:Nat) (cs:List AV),n*sz≤cs.length→(chunk sz cs n).length=n∧(∀ e∈chunk sz cs n,e.length=sz)∧(chunk sz cs n).flatten=cs.take (n*sz):=by
          intro n
          induction n with
          | zero=>intro cs _;simp [chunk]
          | succ n ih =>
            intro cs h
            rw [Nat.add_mul] at h
            obtain ⟨a1,a2,a3⟩:=ih (cs.drop sz) (by simp;omega)
            refine ⟨by simp [chunk,a1],fun e he=>?_,?_⟩
            · simp only [chunk,List.mem_cons] at he
              rcases he with rfl|he
              · simp;omega
              · exact a2 e he
            · simp only [chunk,List.flatten_cons,a3]
              rw [Nat.add_mul,Nat.one_mul,Nat.add_comm (n*sz) sz,List.take_add]
        obtain ⟨l1,l2,l3⟩:=hch len (cs.drop off) (by simp;omega)
        have hlen:(chunk sz (cs.drop off) len).flatten.length=len*sz:=by rw [flat_len l2,l1]
        refine ⟨a,c,((List.range (len*sz)).map fun k=>(match e.blk with|some B=>(w.cell? ⟨B,e.base+off+k,none⟩).getD undef|none=>undef)).toArray,by rw [l1];exact q1,⟨by simp [hlen],fun j hj hj'=>?_⟩,l2,by rw [l1];exact q0,by rw [l1];exact q2,fun hne w' hw=>?_⟩
        · rw [hlen] at hj
          have hc0 : c ≠ 0 := by intro h;subst h;have:len=0:=by omega
                                 subst this;simp at hj
          obtain ⟨B,hB,_,_⟩:=q4 hc0
          obtain ⟨u,u1,u2,_⟩:=hr.cell hH he hB (off+j) (by omega)
          simp only [l3]
          simp [hB,Nat.add_assoc,u1]
          simpa using u2
        · have hn0:0<len:=by rcases Nat.eq_zero_or_pos len with h|h;(subst h;exact absurd rfl hne);exact h
          obtain ⟨B,hB,ha,_⟩:=q4 (by omega)
          subst ha
          subst q1
          rw [l1]
          have:=run_loadCells (P:=P) w' ⟨B,e.base+off,none⟩ (len*sz) (fun k=>(w.cell? ⟨B,e.base+off+k,none⟩).getD undef) (fun j hj=>by
            rw [add_none]
            obtain ⟨u,u1,_⟩:=hr.cell hH he hB (off+j) (by omega)
            rw [←Nat.add_assoc] at u1
            simp only [u1,Option.getD_some]
            exact hw _ _ u1)
          simpa [Builtin.firstCells,hB] using this
      · cases h
    · cases h
  · cases h
theorem append_grow {t el:TypeId} {ty:TypeId} {i:TypeInfo} {z:Value} (hd:P.underlying t=some (.slice el)) (hi:P.info? el=some i) (hz:i.zero=some z) (a:Option Addr) (sLen sCap:Nat) (b:Option Addr) (n c:Nat) (olds news:Array Value)
  (ho:(Builtin.firstCells i.size sLen (.slice a sLen sCap)).run P w.drew=.ok olds w.drew) (hn:(Builtin.firstCells i.size n (.slice b n c)).run P w.drew=.ok news w.drew)
  (hg:sCap<sLen+n) (hb:(sLen+n)*i.bytes≤140737488355328) (hl:sLen+n≤140737488355328) :
  (Builtin.append_ #[t,t] ty #[.slice a sLen sCap,.slice b n c]).run P w =
   .ok (.slice (some ⟨w.heap.size,0,none⟩) (sLen+n) (grownCap w (sLen+n) sCap el)) (w.drew.alloc (.cells (olds++news++Builtin.zeroCells z.cells (grownCap w (sLen+n) sCap el - (sLen+n))) el)):=by
 have hn':¬ (sLen+n≤sCap):=by omega
 have h63':¬ (9223372036854775807<((sLen:Int)+(n:Int))):=by omega
 have h48':¬ (281474976710656<Builtin.nextslicecap (sLen+n) sCap*i.bytes):=by have:=growslice_fits hg hb;omega
 simp [Builtin.append_,run_underlying hd,sizeOf,typeInfo,zeroValue,hi,hz,Builtin.lenOf,hn',h63',h48',Question.forced,hn,ho,newRow,grownCap]
theorem append_room {t el:TypeId} {ty:TypeId} {i:TypeInfo} (hd:P.underlying t=some (.slice el)) (hi:P.info? el=some i) (a:Addr) (sLen sCap:Nat) (b:Option Addr) (n c:Nat) (news:Array Value) {w':World}
  (hn:(Builtin.firstCells i.size n (.slice b n c)).run P w=.ok news w) (hg:sLen+n≤sCap) (hs:(storeCells (a.add (sLen*i.size)) news.toList).run P w=.ok () w') :
  (Builtin.append_ #[t,t] ty #[.slice (some a) sLen sCap,.slice b n c]).run P w=.ok (.slice (some a) (sLen+n) sCap) w':=by
 simp [Builtin.append_,run_underlying hd,sizeOf,typeInfo,hi,Builtin.lenOf,hg,hn,hs]
theorem append_none {t el:TypeId} {ty:TypeId} {i:TypeInfo} (hd:P.underlying t=some (.slice el)) (hi:P.info? el=some i) (a:Option Addr) (sLen sCap:Nat) (b:Option Addr) (c:Nat) (hl:sLen≤sCap) :
  (Builtin.append_ #[t,t] ty #[.slice a sLen sCap,.slice b 0 c]).run P w=.ok (.slice a sLen sCap) w:=by
 have hf:(Builtin.firstCells i.size 0 (.slice b 0 c)).run P w=.ok #[] w:=by
  cases b with
  | none=>simp [Builtin.firstCells]
  | some b=>simp [Builtin.firstCells,loadCells,loadCellsFrom]
 cases a<;>simp [Builtin.append_,run_underlying hd,sizeOf,typeInfo,hi,Builtin.lenOf,hl,hf,storeCells]
theorem app_op {t:TypeId} {x y:Operand} {r:Value} {w':World} (ho:o.op=.call { callee:=.builtin .append,args:=#[x,y],argTypes:=#[t,t] })
  (h:(Builtin.append_ #[t,t] o.type #[ρc x,ρc y]).run P w=.ok r w'):(execOp ρc o).run P w=.ok (.value r) w':=by
 simp [execOp,ho,resolve,invoke,builtin,h]
theorem app_new {sz len k cap:Nat} {olds news rest:Array Value} {el:TypeId} {os ns:List AV} (hr:HR X E w H) (h1:CsR X E w os olds) (h2:CsR X E w ns news) (hlo:os.length=len*sz) (hln:ns.length=k*sz) (hrest:rest.size=(cap - (len+k))*sz)
  (hcap:len+k≤cap) (hmax:len+k≤maxA) :
  ∃ E',HR X E' (w.drew.alloc (.cells (olds++news++rest) el)) (H++[.cells 0 (os++ns)])∧Ev E w E' (w.drew.alloc (.cells (olds++news++rest) el)) ∧
   VR X E' (w.drew.alloc (.cells (olds++news++rest) el)) (.loc H.length 0 0 (len+k) sz false) (.slice (some ⟨w.heap.size,0,none⟩) (len+k) cap):=by
 have hrd:HR X E w.drew H:=hr.drew _
 have hevd:Ev E w E w.drew:=(Ev.refl E w).drew _
 have hsz:(olds++news++rest).size=cap*sz:=by
  simp only [Array.size_append,h1.1,h2.1,hlo,hln,hrest]
  rw [←Nat.add_mul,←Nat.add_mul]
  congr 1
  omega
 obtain ⟨hev,hr'⟩:=hrd.newCells (os++ns) (olds++news++rest) el (by rw [hsz];simp [hlo,hln];rw [←Nat.add_mul];exact Nat.mul_le_mul_right _ hcap) (fun j hj hj'=>by
  simp at hj
  by_cases hjo:j<os.length
  ·rw [List.getElem_append_left hjo,Array.getElem_append_left (by simp [h1.1];omega),Array.getElem_append_left (by rw [h1.1];exact hjo)]
   exact (h1.2 j hjo (by rw [h1.1];exact hjo)).mono hevd
  ·rw [List.getElem_append_right (by omega),Array.getElem_append_left (by simp [h1.1,h2.1];omega),Array.getElem_append_right (by rw [h1.1];omega)]
   have:=h2.2 (j - os.length) (by omega) (by rw [h2.1];omega)
   simp only [h1.1]
   exact this.mono hevd)
 refine ⟨_,hr',hevd.trans hev,?_⟩
 refine loc_mk (e:=⟨0,some w.heap.size,0,(olds++news++rest).size,true⟩) (by rw [←hr.len];simp) rfl rfl ⟨_,_,rfl,hmax,hcap,(fun h=>by cases h),fun _=>⟨_,rfl,rfl,?_⟩⟩
 show 0+0+cap*sz≤(olds++news++rest).size
 omega
end Go.AM
namespace Go.AM
set_option linter.unusedVariables false
set_option linter.unusedSimpArgs false
variable {P:Program} {X:Nat→Prop} {E:Env} {w:World} {H:AHeap} {ρ:Opd→AV} {ρc:Operand→Value} {o:Oper}
theorem store_spare {B p:Nat} {t:TypeId} {lo hi:Nat}:∀ (us:List Value) (k:Nat) (w:World) (arr:Array Value),w.heap[B]?=some (.cells arr t (lo,hi))→p+k+us.length≤arr.size→(∀ j,j<arr.size→¬ (lo≤j∧j<hi))→(∀ u∈us,u.oneCell'=true) →
  ∃ w' arr',(storeCells ⟨B,p,none⟩ us k).run P w=.ok () w'∧w'.heap[B]?=some (.cells arr' t (lo,hi))∧arr'.size=arr.size∧(∀ j (hj:j<us.length),arr'[p+k+j]?=some us[j]) ∧
   (∀ q,q<p+k→arr'[q]?=arr[q]?)∧(∀ B',B'≠B→w'.heap[B']?=w.heap[B']?)∧w'.os=w.os∧w'.tape=w.tape∧w'.output=w.output∧w'.heap.size=w.heap.size∧w'.drawn=w.drawn
 | [],k,w,arr,hB,hl,hf,h1=>⟨w,arr,rfl,hB,rfl,fun j hj=>by simp at hj,fun _ _=>rfl,fun _ _=>rfl,rfl,rfl,rfl,rfl,rfl⟩
 | u::us,k,w,arr,hB,hl,hf,h1=>by
  simp at hl
  have hlt:p+k<arr.size:=by omega
  have ha:(⟨B,p,none⟩:Addr).add k=⟨B,p+k,none⟩:=add_none _ _ _
  have hc:w.cell? ⟨B,p+k,none⟩=some arr[p+k]:=by rw [cell_of hB];exact Array.getElem?_eq_getElem hlt
  have hfz:w.frozen? ⟨B,p+k,none⟩=false:=by
   unfold World.frozen?
   rw [hB]
   have:=hf (p+k) hlt
   simp
   omega
  have hst:(store ((⟨B,p,none⟩:Addr).add k) u).run P w=.ok () (w.setCell ⟨B,p+k,none⟩ u):=by
   rw [ha,run_store P w _ u _ (h1 u (by simp)),hc]
   simp [hfz]
  have hl':p+(k+1)+us.length≤(arr.setIfInBounds (p+k) u).size:=by simp only [Array.size_setIfInBounds];omega
  obtain ⟨w',arr',r1,r2,r3,r4,r5,r6,r7,r8,r9,r10,r11⟩:=store_spare us (k+1) (w.setCell ⟨B,p+k,none⟩ u) (arr.setIfInBounds (p+k) u) (setCell_self hB) hl' (by simpa using hf) (fun x hx=>h1 x (by simp [hx]))
  refine ⟨w',arr',?_,r2,by simpa using r3,fun j hj=>?_,fun q hq=>?_,fun B' hB'=>?_,r7,r8,r9,by simpa using r10,r11⟩
  ·simp only [storeCells,Sem.run_bind,hst,Result.andThen_ok]
   exact r1
  ·cases j with
   | zero =>
    rw [Nat.add_zero,r5 (p+k) (by omega)]
    simp [hlt]
   | succ j =>
    have:=r4 j (by simpa using hj)
    have e:p+(k+1)+j=p+k+(j+1):=by omega
    rw [e] at this
    simpa using this
  ·rw [r5 q (by omega),Array.getElem?_setIfInBounds_ne (by omega)]
  ·rw [r6 B' hB']
   exact setCell_get _ _ _ _ _ hB'
theorem firstCells_zero (sz:Nat) (a:Option Addr) (l c:Nat):(Builtin.firstCells sz 0 (.slice a l c)).run P w=.ok #[] w:=by
 cases a with
 | none=>simp [Builtin.firstCells]
 | some b=>simp [Builtin.firstCells,loadCells,loadCellsFrom]
theorem chunk_spec {sz:Nat}:∀ (n:Nat) (cs:List AV),n*sz≤cs.length→(chunk sz cs n).length=n∧(∀ e∈chunk sz cs n,e.length=sz)∧(chunk sz cs n).flatten=cs.take (n*sz)
 | 0,cs,_=>by simp [chunk]
 | n+1,cs,h=>by
  rw [Nat.add_mul] at h
  obtain ⟨a1,a2,a3⟩:=chunk_spec (sz:=sz) n (cs.drop sz) (by simp;omega)
  refine ⟨by simp [chunk,a1],fun e he=>?_,?_⟩
  ·simp only [chunk,List.mem_cons] at he
   rcases he with rfl|he
   ·simp;omega
   ·exact a2 e he
  ·simp only [chunk,List.flatten_cons,a3]
   rw [Nat.add_mul,Nat.one_mul,Nat.add_comm (n*sz) sz,List.take_add]
theorem S_app {t el:TypeId} {x y:Operand} {x' y':Opd} {i:TypeInfo} {z:Value} {av:AV} {H':AHeap} (ho:o.op=.call { callee:=.builtin .append,args:=#[x,y],argTypes:=#[t,t] }) (hx:cOpd x=some x') (hy:cOpd y=some y')
  (hd:P.underlying t=some (.slice el)) (hi:P.info? el=some i) (hz:i.zero=some z) (hzs:z.cells.size=i.size) (h0:0<i.size) (hb0:0<i.bytes)
  (hav:aop (.app i.size i.bytes x' y') ρ H=some (av,H')) (hρ:OR X E w ρ ρc) (hr:HR X E w H):Res P X E w o ρc av H':=by
 have hvx:=hρ.rel x x' hx
 have hvy:=hρ.rel y y' hy
 have hlim:limB=140737488355328:=rfl
 have hmx:maxA=1099511627776:=rfl
 unfold aop at hav
 simp only at hav
 unfold aapp at hav
 split at hav
 ·cases hav
 ·rename_i sy ys hel
  obtain ⟨b,cy,news,n1,n2,n3,n4,n5,n6⟩:=elems_sound (P:=P) hvy hr hel
  by_cases hys:ys=[]
  ·have hav':(appNone H (ρ x')).map (fun v=>(v,H))=some (av,H'):=by rw [if_pos hys] at hav;exact hav
   clear hav
   subst hys
   have hnone:∀ a (l c:Nat),ρc x=.slice a l c→l≤c→(execOp ρc o).run P w=.ok (.value (ρc x)) w:=by
    intro a l c hp hl
    refine app_op ho ?_
    rw [hp,n1]
    exact append_none hd hi a l c b cy hl
   cases hv0:appNone H (ρ x') with
   | none=>rw [hv0] at hav';cases hav'
   | some v =>
    rw [hv0] at hav'
    simp at hav'
    obtain ⟨e1,e2⟩:=hav'
    subst e1 e2
    unfold appNone at hv0
    split at hv0
    ·rename_i hj
     injection hv0 with e1
     subst e1
     rw [hj] at hvx
     have hp:ρc x=.slice none 0 0:=by
      generalize ρc x=v at hvx
      cases hvx
      rfl
     exact .pure hr (hnone _ _ _ hp (Nat.le_refl _)) hvx
    ·rename_i c s es hj
     injection hv0 with e1
     subst e1
     rw [hj] at hvx
     obtain ⟨a,c',B,o',f,p1,p2,p3,_⟩:=hvx.inv_rows
     exact .pure hr (hnone _ _ _ p1 p3) hvx
    ·rename_i j g off len s c hj
     split at hv0
     ·rename_i hal
      injection hv0 with e1
      subst e1
      rw [hj] at hvx
      obtain ⟨cs,hH⟩:=alive_spec hal
      obtain ⟨e,he,a,c',q1,q0,q2,q3,q4⟩:=hvx.inv_loc hr hH
      exact .pure hr (hnone _ _ _ q1 q2) hvx
     ·cases hv0
    ·cases hv0
  ·by_cases hsy:sy=i.size
   ·have hav':appMore i.size i.bytes H ys (ρ x')=some (av,H'):=by rw [if_neg hys,if_pos hsy] at hav;exact hav
    clear hav
    rename appMore i.size i.bytes H ys (ρ x')=some (av,H')=>hav
    subst hsy
    have hk:0<ys.length:=by cases ys with|nil=>exact absurd rfl hys|cons=>simp
    have hln:=flat_len n3
    have hn6:=n6 hys
    rw [n1] at hn6
    have hrest:∀ m:Nat,(Builtin.zeroCells z.cells m).size=m*i.size:=fun m=>by rw [size_zeroCells,hzs]
    have grow:∀ (a:Option Addr) (l c:Nat) (olds:Array Value) (os:List AV),ρc x=.slice a l c→CsR X E w os olds→os.length=l*i.size→(Builtin.firstCells i.size l (.slice a l c)).run P w.drew=.ok olds w.drew→c<l+ys.length→i.bytes≤128∧l+ys.length≤maxA →
      (execOp ρc o).run P w=.ok (.value (.slice (some ⟨w.heap.size,0,none⟩) (l+ys.length) (grownCap w (l+ys.length) c el))) (w.drew.alloc (.cells (olds++news++Builtin.zeroCells z.cells (grownCap w (l+ys.length) c el - (l+ys.length))) el))∧l+ys.length≤maxA:=by
     intro a l c olds os hp hcs hl hfo hg hb
     have hle:l+ys.length≤(l+ys.length)*i.bytes:=Nat.le_mul_of_pos_right _ hb0
     have hb':=room_le hb
     refine ⟨app_op ho ?_,hb.2⟩
     rw [hp,n1]
     exact append_grow hd hi hz a l c b ys.length cy olds news hfo (hn6 w.drew (fun _ _ h=>h)) hg (by omega) (by omega)
    cases hj:ρ x' with
    | nilS =>
     rw [hj] at hav
     simp only [appMore] at hav
     split at hav
     ·rename_i hb
      simp at hav
      obtain ⟨e1,e2⟩:=hav
      subst e1 e2
      rw [hj] at hvx
      have hp:ρc x=.slice none 0 0:=by
       generalize ρc x=v at hvx
       cases hvx
       rfl
      obtain ⟨r1,r2⟩:=grow none 0 0 #[] [] hp ⟨rfl,fun j hj=>by simp at hj⟩ (by simp) (by simp [Builtin.firstCells]) (by omega) (by simpa using hb)
      obtain ⟨E',q1,q2,q3⟩:=app_new (len:=0) (k:=ys.length) (el:=el) (cap:=grownCap w (0+ys.length) 0 el) (rest:=Builtin.zeroCells z.cells (grownCap w (0+ys.length) 0 el - (0+ys.length))) hr (os:=[]) (olds:=#[]) ⟨rfl,fun j hj=>by simp at hj⟩ n2 (by simp) hln (hrest _) (grownCap_ge _ _ _ _) r2
      refine ⟨E',_,_,_,r1,.inl rfl,?_,by simpa using q1,q2⟩
      simpa using q3
     ·cases hav
    | rows cl s es =>
     rw [hj] at hav
     cases cl with
     | false=>cases hav
     | true =>
     simp only [appMore] at hav
     split at hav
     ·rename_i hb
      obtain ⟨hs,hb⟩:=hb
      subst hs
      simp at hav
      obtain ⟨e1,e2⟩:=hav
      subst e1 e2
      rw [hj] at hvx
      obtain ⟨bx,cx,olds,m1,m2,m3,m4,m5,m6⟩:=elems_sound (P:=P) (sy:=i.size) (ys:=es) hvx hr rfl
      obtain ⟨a,c',B,o',f,p1,p2,p3,p4,_⟩:=hvx.inv_rows
      have hcc:cx=es.length:=by
       rw [m1] at p1
       injection p1 with _ _ e
       rw [e]
       exact p4 rfl
      have hfo:(Builtin.firstCells i.size es.length (.slice bx es.length cx)).run P w.drew=.ok olds w.drew:=by
       by_cases hes:es=[]
       ·subst hes
        have:olds=#[]:=by
         have:=m2.1
         simpa using this
        subst this
        exact firstCells_zero _ _ _ _
       ·have:=m6 hes w.drew (fun _ _ h=>h)
        rwa [m1] at this
      obtain ⟨r1,r2⟩:=grow bx es.length cx olds es.flatten m1 m2 (flat_len m3) hfo (by omega) hb
      obtain ⟨E',q1,q2,q3⟩:=app_new (len:=es.length) (k:=ys.length) (el:=el) (cap:=grownCap w (es.length+ys.length) cx el) (rest:=Builtin.zeroCells z.cells (grownCap w (es.length+ys.length) cx el - (es.length+ys.length))) hr m2 n2 (flat_len m3) hln (hrest _) (grownCap_ge _ _ _ _) r2
      exact ⟨E',_,_,_,r1,.inl rfl,q3,q1,q2⟩
     ·cases hav
    | loc j g off len s c =>
     rw [hj] at hvx hav
     simp only [appMore] at hav
     split at hav
     ·rename_i g' cs hH
      split at hav
      ·rename_i hcond
       obtain ⟨hg,hs,hoff,hb,hall⟩:=hcond
       have hb2:=hb.2
       have hb3:=room_le hb
       subst hg hs
       have hexl:elems H (.loc j g off len i.size c)=some (i.size,chunk i.size (cs.drop off) len):=by
        simp only [elems,hH]
        rw [if_pos ⟨trivial,hoff⟩]
       obtain ⟨bx,cx,olds,m1,m2,m3,m4,m5,m6⟩:=elems_sound (P:=P) hvx hr hexl
       obtain ⟨e,he,a,c',q1,q0,q2,q3,q4⟩:=hvx.inv_loc hr hH
       obtain ⟨l1,l2,l3⟩:=chunk_spec (sz:=i.size) len (cs.drop off) (by simp;omega)
       rw [l3] at m2
       have hol:((cs.drop off).take (len*i.size)).length=len*i.size:=by simp;omega
       have hsame:bx=a∧cx=c':=by
        rw [m1] at q1
        injection q1 with e1 e2 e3
        exact ⟨e1,e3⟩
       obtain ⟨rfl,rfl⟩:=hsame
       have hfo:(Builtin.firstCells i.size len (.slice bx len cx)).run P w.drew=.ok olds w.drew:=by
        by_cases hes:chunk i.size (cs.drop off) len=[]
        ·rw [hes] at l1
         have h0':len=0:=by simpa using l1.symm
         subst h0'
         have:olds=#[]:=by
          have:=m2.1
          simpa using this
         subst this
         exact firstCells_zero _ _ _ _
        ·have:=m6 hes w.drew (fun _ _ h=>h)
         rwa [q1,l1] at this
       cases c with
       | true =>
        simp at hav
        obtain ⟨e1,e2⟩:=hav
        subst e1 e2
        have hcx:=q3 rfl
        obtain ⟨r1,r2⟩:=grow bx len cx olds _ q1 m2 hol hfo (by omega) hb
        obtain ⟨E',s1,s2,s3⟩:=app_new (len:=len) (k:=ys.length) (el:=el) (cap:=grownCap w (len+ys.length) cx el) (rest:=Builtin.zeroCells z.cells (grownCap w (len+ys.length) cx el - (len+ys.length))) hr m2 n2 hol hln (hrest _) (grownCap_ge _ _ _ _) r2
        exact ⟨E',_,_,_,r1,.inl rfl,s3,s1,s2⟩
       | false =>
        simp at hav
        obtain ⟨e1,e2⟩:=hav
        subst e1 e2
        have hbr:=hr.br j e _ he hH
        have hone:∀ u∈news.toList,u.oneCell'=true:=by
         intro u hu
         obtain ⟨m,hm,rfl⟩:=List.getElem_of_mem hu
         have hm':m<ys.flatten.length:=by rw [←n2.1];simpa using hm
         have:=n2.2 m hm' (by simpa using hm)
         rw [Array.getElem_toList]
         refine this.one ?_
         have hin:=List.getElem_mem hm'
         rw [List.mem_flatten] at hin
         obtain ⟨l,hl,hx⟩:=hin
         have:=List.all_eq_true.1 hall l hl
         exact List.all_eq_true.1 this _ hx
        have hle:len+ys.length≤(len+ys.length)*i.bytes:=Nat.le_mul_of_pos_right _ hb0
        have hcl:((cs.drop off).take (len*i.size)++ys.flatten).length=(len+ys.length)*i.size:=by
         rw [List.length_append,hol,hln,Nat.add_mul]
        by_cases hroom:len+ys.length≤cx
        ·obtain ⟨B,hB,ha,hrm⟩:=q4 (by omega)
         subst ha
         obtain ⟨arr,ta,lo,hi',k1,k2,k3,k4,k5⟩:=hbr.2.2.2 B hB
         have hmul:(len+ys.length)*i.size≤cx*i.size:=Nat.mul_le_mul_right _ hroom
         rw [Nat.add_mul] at hmul
         have hnl:news.toList.length=ys.length*i.size:=by rw [Array.length_toList,n2.1,hln]
         obtain ⟨w',arr',r1,r2,r3,r4,r5,r6,r7,r8,r9,r10,r11⟩:=store_spare (P:=P) (p:=e.base+off+len*i.size) news.toList 0 w arr k1 (by omega) (by rw [k2];exact k4) hone
         have hrun:(execOp ρc o).run P w=.ok (.value (.slice (some ⟨B,e.base+off,none⟩) (len+ys.length) cx)) w':=by
          refine app_op ho ?_
          rw [q1,n1]
          exact append_room hd hi _ _ _ _ _ _ news (hn6 w (fun _ _ h=>h)) hroom (by rw [add_none];exact r1)
         have hown:Own E B:=⟨e,List.mem_of_getElem? he,hbr.2.1,hB⟩
         have hev:Ev E w (E.set j ⟨g+1,some B,e.base+off,e.room,true⟩) w' :=
          Ev.turn he r7 r8 r9 (by omega) (fun B' hB' hO=>r6 B' (fun h=>hO (h▸hown))) (fun B' _ h=>by injection h with h;subst h;exact .inl hown) (by have:=hbr.1;simp;omega) (fun h=>by have:=hbr.1;simp at h;omega) (Nat.le_of_eq r11.symm)
         refine ⟨_,w',_,_,hrun,.inl rfl,?_,?_,hev⟩
         ·refine loc_mk (e:=⟨g+1,some B,e.base+off,e.room,true⟩) (by rw [List.getElem?_set_self (lt_of_get he)]) rfl rfl ⟨_,_,rfl,by omega,hroom,(fun h=>by cases h),fun _=>⟨B,rfl,rfl,?_⟩⟩
          show e.base+off+0+cx*i.size≤e.room
          omega
         ·refine hr.turn he hev (fun B' hO hne=>r6 B' (fun h=>hne hbr.2.1 (h▸hB))) (fun B' _ h=>?_) ⟨rfl,rfl,(fun h=>by cases h),fun B' h=>?_⟩
          ·injection h with h
           subst h
           have:=hr.own j e B he hbr.2.1 hB
           exact ⟨⟨this.1,by omega⟩,.inl ⟨hbr.2.1,hB⟩⟩
          ·injection h with h
           subst h
           refine ⟨arr',ta,lo,hi',r2,by simpa using r3.trans k2,by rw [hcl,Nat.add_mul];simp;omega,by simpa using k4,fun m hm=>?_⟩
           simp only
           by_cases hmo:m<((cs.drop off).take (len*i.size)).length
           ·rw [List.getElem_append_left hmo]
            rw [hol] at hmo
            obtain ⟨u,u1,u2⟩:=k5 (off+m) (by omega)
            refine ⟨u,?_,?_⟩
            ·rw [r5 _ (by omega),Nat.add_assoc]
             exact u1
            ·have:((cs.drop off).take (len*i.size))[m]'(by rw [hol];exact hmo)=cs[off+m]'(by omega):=by simp
             rw [this]
             exact u2.mono hev
           ·rw [List.getElem_append_right (by omega)]
            rw [hcl,Nat.add_mul] at hm
            rw [hol] at hmo
            have hm2:m - len*i.size<news.toList.length:=by omega
            refine ⟨news.toList[m - len*i.size],?_,?_⟩
            ·have:=r4 (m - len*i.size) hm2
             rw [←this]
             congr 1
             omega
            ·have:=n2.2 (m - len*i.size) (by omega) (by rw [n2.1];omega)
             simp only [hol]
             rw [Array.getElem_toList]
             exact this.mono hev
        ·obtain ⟨r1,r2⟩:=grow bx len cx olds _ q1 m2 hol hfo (by omega) hb
         have hcap:=grownCap_ge w (len+ys.length) cx el
         have hsz2:(olds++news++Builtin.zeroCells z.cells (grownCap w (len+ys.length) cx el - (len+ys.length))).size=grownCap w (len+ys.length) cx el*i.size:=by
          simp only [Array.size_append,m2.1,n2.1,hol,hln,hrest]
          rw [←Nat.add_mul,←Nat.add_mul]
          congr 1
          omega
         generalize grownCap w (len+ys.length) cx el=G at r1 hcap hsz2
         have hmul:(len+ys.length)*i.size≤G*i.size:=Nat.mul_le_mul_right _ hcap
         generalize hA:olds++news++Builtin.zeroCells z.cells (G - (len+ys.length))=A at r1 hsz2
         have hev:Ev E w (E.set j ⟨g+1,some w.heap.size,0,A.size,true⟩) (w.drew.alloc (.cells A el)) :=
          Ev.turn he rfl rfl rfl (by simp) (fun B' hB' _=>more_get w.drew _ B' hB') (fun B' _ h=>by injection h with h;subst h;exact .inr (Nat.le_refl _)) (by have:=hbr.1;simp;omega) (fun h=>by have:=hbr.1;simp at h;omega)
         refine ⟨_,_,_,_,r1,.inl rfl,?_,?_,hev⟩
         ·refine loc_mk (e:=⟨g+1,some w.heap.size,0,A.size,true⟩) (by rw [List.getElem?_set_self (lt_of_get he)]) rfl rfl ⟨_,_,rfl,by omega,hcap,(fun h=>by cases h),fun _=>⟨_,rfl,rfl,?_⟩⟩
          show 0+0+G*i.size≤A.size
          omega
         ·refine hr.turn he hev (fun B' hO _=>more_get w.drew _ B' (hr.own_lt hO)) (fun B' _ h=>?_) ⟨rfl,rfl,(fun h=>by cases h),fun B' h=>?_⟩
          ·injection h with h
           subst h
           exact ⟨⟨fun hX=>by have:=hr.bound _ hX;omega,by simp⟩,.inr (Nat.le_refl _)⟩
          ·injection h with h
           subst h
           refine ⟨A,el,0,0,more_new w.drew _,rfl,by rw [hcl];simp;omega,fun m _=>by omega,fun m hm=>?_⟩
           have hmA:m<A.size:=by omega
           refine ⟨A[m],by simp [Array.getElem?_eq_getElem hmA],?_⟩
           subst hA
           by_cases hmo:m<((cs.drop off).take (len*i.size)).length
           ·rw [List.getElem_append_left hmo,Array.getElem_append_left (by simp [m2.1,n2.1];omega),Array.getElem_append_left (by rw [m2.1];exact hmo)]
            exact (m2.2 m hmo (by rw [m2.1];exact hmo)).mono hev
           ·rw [hcl,Nat.add_mul] at hm
            rw [List.getElem_append_right (by omega),Array.getElem_append_left (by simp only [Array.size_append,m2.1,n2.1];omega),Array.getElem_append_right (by rw [m2.1];omega)]
            have:=n2.2 (m - ((cs.drop off).take (len*i.size)).length) (by omega) (by rw [n2.1];omega)
            simp only [m2.1]
            exact this.mono hev
      ·cases hav
     ·cases hav
    | _=>rw [hj] at hav;cases hav
   ·rw [if_neg hys,if_neg hsy] at hav
    cases hav
end Go.AM
namespace Go.AM
set_option linter.unusedVariables false
set_option linter.unusedSimpArgs false
variable {P:Program} {X:Nat→Prop} {E:Env} {w:World} {H:AHeap} {ρ:Opd→AV} {ρc:Operand→Value} {o:Oper}
def eqOp (neg:Bool):BinOp:=if neg then .neq else .eql
theorem S_eqa {neg agg:Bool} {m:Nat} {ks:List LK} {tx ty:TypeId} {x y:Operand} {x' y':Opd} {av:AV} {H':AHeap} (ho:o.op=.binOp (eqOp neg) tx x y ty) (hx:cOpd x=some x') (hy:cOpd y=some y')
  (hm:m≤10000) (hk:flatKs P m tx=some ks) (ha:wideT P tx=agg) (hd:(agg=true∧P.eqGuardType P.depth tx=false)∨(agg=false∧P.underlying tx=some .bool))
  (hav:aop (.eqa neg agg ks x' y') ρ H=some (av,H')) (hρ:OR X E w ρ ρc) (hr:HR X E w H):Res P X E w o ρc av H':=by
 have hvx:=hρ.rel x x' hx
 have hvy:=hρ.rel y y' hy
 unfold aop at hav
 simp only at hav
 split at hav
 ·rename_i cs ds h1 h2
  simp at hav
  obtain ⟨rfl,rfl⟩:=hav
  have heq:=equal_flat (P:=P) hm hk ha h1 h2 hvx hvy
  obtain ⟨f1,c1,g1,q1⟩:=cellsK_sound (P:=P) ha h1 hvx
  obtain ⟨f2,c2,g2,q2⟩:=cellsK_sound (P:=P) ha h2 hvy
  refine .pure hr (v:=.bool (leavesA cs ds != neg)) ?_ (.bool _)
  rcases hd with ⟨hag,hgd⟩|⟨hag,hbt⟩
  ·obtain ⟨xs,ex⟩:=f1.2.1 (by rw [ha];exact hag)
   obtain ⟨ys,ey⟩:=f2.2.1 (by rw [ha];exact hag)
   rw [ex,ey] at heq
   cases neg<;>simp [execOp,ho,eqOp,ex,ey,eqGuard,hgd,binOp,heq]
  ·have e1:=f1.1
   have e2:=f2.1
   have hks:ks=[.bool]:=by
    cases m with
    | zero=>cases hk
    | succ m =>
     simp only [flatKs,hbt] at hk
     cases hi:P.info? tx with
     | none=>simp [hi] at hk
     | some i =>
      simp only [hi] at hk
      split at hk
      ·injection hk with hk;exact hk.symm
      ·cases hk
   subst hks
   have hb:∀ {v:Value},FV P tx [.bool] v→∃ b,v=.bool b:=by
    intro v hv
    have hn:¬ ∃ xs,v=.agg xs:=fun hh=>by have:=hv.2.2 hh;rw [ha,hag] at this;cases this
    have:=hv.1
    rw [cells_toList_one hn] at this
    cases v<;>simp [fitsL,LK.fits] at this
    exact ⟨_,rfl⟩
   obtain ⟨b,ex⟩:=hb f1
   obtain ⟨c,ey⟩:=hb f2
   rw [ex,ey] at heq
   cases neg<;>simp [execOp,ho,eqOp,ex,ey,eqGuard,binOp,heq]
 ·cases hav
def nilK (P:Program) (t:TypeId) (c:Value):Option NK :=
 match P.underlying t,c with
 | some (.func _ _ _),.nilFunc=>some .fn
 | some (.interface _),.nilIface=>some .ifc
 | some (.pointer _),.pointer none=>some .ptr
 | some (.map _ _),.map none=>some .map
 | _,_=>none
theorem eqn_nil {t:TypeId} {c u:Value} {k:NK} {a:AV} {b:Bool} (hn:nilK P t c=some k) (hb:nilD k a=some b) (hv:VR X E w a u) (d:Nat):(Op.equalIn (d+1) t u c).run P w=.ok b w:=by
 unfold nilK at hn
 split at hn<;>first|(cases hn;done)|skip
 all_goals
  rename_i htd
  injection hn with hn
  subst hn
  unfold nilD at hb
  split at hb<;>first|(cases hb;done)|(rename_i heq;cases heq;done)|skip
  all_goals
   injection hb with hb
   subst hb
   cases hv
   simp [Op.equalIn,run_underlying htd]
theorem S_isnil {neg:Bool} {tx ty:TypeId} {x:Operand} {c:Value} {k:NK} {x':Opd} {av:AV} {H':AHeap} (ho:o.op=.binOp (eqOp neg) tx x (.const c) ty) (hx:cOpd x=some x') (hc:ρc (.const c)=c) (hn:nilK P tx c=some k)
  (hav:aop (.isnil neg k x') ρ H=some (av,H')) (hρ:OR X E w ρ ρc) (hr:HR X E w H):Res P X E w o ρc av H':=by
 have hvx:=hρ.rel x x' hx
 unfold aop at hav
 simp only at hav
 split at hav
 ·rename_i b hb
  simp at hav
  obtain ⟨rfl,rfl⟩:=hav
  refine .pure hr (v:=.bool (b != neg)) ?_ (.bool _)
  have heq:(Op.equal tx (ρc x) c).run P w=.ok b w:=eqn_nil hn hb hvx 9999
  have hg:∀ q:Nat,(eqGuard (eqOp neg) tx x (.const c) (ρc x) c).run P w=.ok () w∧(binOp .eql tx (ρc x) c=(do pure (.bool (← Op.equal tx (ρc x) c)):Sem Value))∧(binOp .neq tx (ρc x) c=(do pure (.bool (!(← Op.equal tx (ρc x) c))):Sem Value)):=by
   intro q
   generalize ρ x'=a at hb hvx
   generalize ρc x=u at hvx
   unfold nilK at hn
   split at hn<;>first|(cases hn;done)|skip
   all_goals
    injection hn with hn
    subst hn
    unfold nilD at hb
    split at hb<;>first|(cases hb;done)|(rename_i heq;cases heq;done)|skip
    all_goals
     cases hvx
     cases neg<;>simp [eqGuard,binOp,eqOp]
  obtain ⟨g1,g2,g3⟩:=hg 0
  cases neg<;>simp only [eqOp,if_true,if_false,Bool.false_eq_true] at g1<;>simp [execOp,ho,eqOp,hc,g1,g2,g3,heq]
 ·cases hav
theorem S_snil {neg:Bool} {tx ty el:TypeId} {x:Operand} {x':Opd} {p:Bool→Prop} (ho:o.op=.binOp (eqOp neg) tx x (.const (.slice none 0 0)) ty) (hx:cOpd x=some x') (hc:ρc (.const (.slice none 0 0))=.slice none 0 0) (hd:P.underlying tx=some (.slice el))
  (hp:snilP H (ρ x')=some p) (hρ:OR X E w ρ ρc) (hr:HR X E w H):∃ b,p b∧Res P X E w o ρc (.bool (b != neg)) H:=by
 have hvx:=hρ.rel x x' hx
 have key:∃ a l c,ρc x=.slice a l c∧p a.isNone:=by
  unfold snilP at hp
  split at hp
  ·rename_i hj
   injection hp with hp
   subst hp
   rw [hj] at hvx
   have:ρc x=.slice none 0 0:=by
    generalize ρc x=u at hvx
    cases hvx
    rfl
   exact ⟨none,0,0,this,rfl⟩
  ·rename_i cl sz es hj
   injection hp with hp
   subst hp
   rw [hj] at hvx
   obtain ⟨a,c,B,o',f,p1,p2,p3,p4,p5,p6,p7,p8,p9⟩:=hvx.inv_rows
   refine ⟨a,_,c,p1,fun hb=>?_⟩
   cases es with
   | nil=>rfl
   | cons e es =>
    have:=p6 (by simp)
    rw [this] at hb
    cases hb
  ·rename_i i g off len sz cl hj
   split at hp
   ·rename_i hal
    injection hp with hp
    subst hp
    obtain ⟨cs,hH⟩:=alive_spec hal
    rw [hj] at hvx
    obtain ⟨e,he,a,c,q1,q0,q2,q3,q4⟩:=hvx.inv_loc hr hH
    refine ⟨a,_,c,q1,fun hb=>?_⟩
    rcases Nat.eq_zero_or_pos c with h0|h0
    ·omega
    ·obtain ⟨B,_,h2,_⟩:=q4 (by omega)
     rw [h2] at hb
     cases hb
   ·cases hp
  ·cases hp
 obtain ⟨a,l,c,hv,hpa⟩:=key
 refine ⟨_,hpa,.pure hr (v:=.bool (a.isNone != neg)) ?_ (.bool _)⟩
 have:=run_equal_slice_nil (P:=P) w tx el a l c hd
 cases neg<;>simp [execOp,ho,eqOp,hv,hc,eqGuard,binOp,this]
theorem pushes (ns:List Int):∀ (s:ByteArray),ns.foldl (fun r n=>r.push (UInt8.ofNat n.toNat)) s=⟨s.data++(ns.map fun n=>UInt8.ofNat n.toNat).toArray⟩:=by
 induction ns with
 | nil=>intro s;simp
 | cons n ns ih =>
  intro s
  rw [List.foldl_cons,ih]
  obtain ⟨d⟩:=s
  show ByteArray.mk ((d.push _)++_)=_
  simp
theorem bytesA_spec:∀ {es:List (List AV)} {bs:List UInt8},bytesA es=some bs→∃ ns:List Int,es=ns.map (fun n=>[AV.int .u8 n])∧bs=ns.map fun n=>UInt8.ofNat n.toNat
 | [],bs,h=>by simp [bytesA] at h;subst h;exact ⟨[],rfl,rfl⟩
 | e::es,bs,h=>by
  unfold bytesA at h
  split at h
  ·rename_i heq;cases heq
  ·rename_i n es' heq
   injection heq with h1 h2
   subst h1 h2
   split at h
   ·rename_i bs' hb
    injection h with h
    subst h
    obtain ⟨ns,e1,e2⟩:=bytesA_spec hb
    exact ⟨n::ns,by simp [e1],by simp [e2]⟩
   ·cases h
  ·cases h
theorem S_b2s {src dst e:TypeId} {x:Operand} {x':Opd} {av:AV} {H':AHeap} (ho:o.op=.convert src dst x) (hx:cOpd x=some x') (hs:P.underlying src=some (.slice e)) (he:P.underlying e=some (.int .u8)) (hd:P.underlying dst=some .string)
  (hav:aop (.b2s x') ρ H=some (av,H')) (hρ:OR X E w ρ ρc) (hr:HR X E w H):Res P X E w o ρc av H':=by
 have hvx:=hρ.rel x x' hx
 unfold aop at hav
 simp only at hav
 split at hav
 ·rename_i sy es hes
  split at hav
  ·rename_i bs hbs
   simp at hav
   obtain ⟨rfl,rfl⟩:=hav
   obtain ⟨b,cy,news,q1,q2,q3,q4,q5,q6⟩:=elems_sound (P:=P) hvx hr hes
   obtain ⟨ns,e1,e2⟩:=bytesA_spec hbs
   have hlen:es.length=ns.length:=by rw [e1];simp
   have hfl:es.flatten=ns.map (AV.int .u8):=by
    rw [e1]
    clear e1 e2 hlen
    induction ns with
    | nil=>rfl
    | cons n ns ih=>simp [ih]
   have hnews:news=(ns.map (Value.int .u8)).toArray:=by
    have hsz:=q2.1
    rw [hfl] at hsz
    apply Array.ext
    ·simpa using hsz
    ·intro i h1 h2
     simp at h2
     have hi:i<es.flatten.length:=by rw [hfl];simpa using h2
     have:=q2.2 i hi h1
     simp only [hfl,List.getElem_map] at this
     rw [this.inv_int]
     simp
   have hsy:es≠[]→sy=1:=by
    intro hne
    have h0:0<es.length:=List.length_pos_iff.2 hne
    have:=q3 es[0] (List.getElem_mem _)
    rw [←this]
    simp [e1]
   refine .pure hr (v:=.string ⟨bs.toArray⟩) ?_ (.str _ ?_)
   ·have hconv:(Conv.bytesToString (.slice b es.length cy)).run P w=.ok (.string ⟨bs.toArray⟩) w:=by
     cases b with
     | none =>
      have:es=[]:=by
       apply Classical.byContradiction
       intro hne
       have:=q6 hne w (fun _ _ h=>h)
       rw [q1] at this
       simp [Builtin.firstCells] at this
       have h0:0<es.length:=List.length_pos_iff.2 hne
       have hsz:=q2.1
       rw [this,hfl] at hsz
       simp at hsz
       omega
      subst this
      simp [bytesA] at hbs
      subst hbs
      rfl
     | some a =>
      have hload:(loadCells a es.length).run P w=.ok (ns.map (Value.int .u8)).toArray w:=by
       by_cases hne:es=[]
       ·subst hne
        have:ns=[]:=by cases ns with|nil=>rfl|cons=>simp at hlen
        subst this
        simp [loadCells,loadCellsFrom]
       ·have:=q6 hne w (fun _ _ h=>h)
        rw [q1,hsy hne] at this
        simp only [Builtin.firstCells,Nat.mul_one] at this
        rw [this,hnews]
      rw [run_bytesToString w a es.length cy ns hload,pushes,e2]
      congr 3
      show #[]++_=_
      simp
    simp only [execOp,ho,q1,Sem.run_bind,run_convert_bytes_string w src dst e b es.length cy hs he hd,hconv,Result.andThen_ok,Sem.run_pure]
   ·show bs.toArray.size≤_
    rw [e2]
    simp
    unfold maxA at q4
    omega
  ·cases hav
 ·cases hav
theorem S_mkmap {t:TypeId} {r:Option Operand} (ho:o.op=.makeMap t r) (hr0:r=none∨∃ k n kt et,r=some (.const (.int k n))∧ρc (.const (.int k n))=.int k n∧P.underlying t=some (.map kt et)) (hr:HR X E w H) :
  Res P X E w o ρc (.mapr H.length 0) (H++[.map 0 []]):=by
 have hev:Ev E w (E++[⟨0,some w.heap.size,0,0,true⟩]) (World.alloc w (.map #[] 0)):=Ev.new E w _ _ (fun B hB=>by injection hB with hB;omega)
 have hr':=hr.new (.map #[] 0) ⟨0,some w.heap.size,0,0,true⟩ (.map 0 []) rfl ⟨rfl,rfl,w.heap.size,#[],0,rfl,more_new _ _,rfl,fun j hj=>by simp at hj,fun j hj=>by simp at hj,fun i j hi=>by simp at hi⟩
 refine ⟨_,_,_,.map (some w.heap.size),?_,.inl rfl,?_,hr',hev⟩
 ·rcases hr0 with rfl|⟨k,n,kt,et,rfl,h1,h2⟩
  ·simp [execOp,ho,Instr.makeMap]
  ·simp only [execOp,ho,Option.map_some,h1,Instr.makeMap,Sem.run_bind,run_underlying h2,Result.andThen_ok]
   simp [asInt,asIntOf]
 ·exact .mapr _ _ ⟨0,some w.heap.size,0,0,true⟩ _ (by rw [←hr.len];simp) rfl (Nat.le_refl _) (fun _=>⟨_,rfl,rfl⟩)
theorem map_own {i g:Nat} {v:Value} {es:List (AV×AV)} (h:VR X E w (.mapr i g) v) (hr:HR X E w H) (hH:H[i]?=some (.map g es)) :
  ∃ e B ents clock,E[i]?=some e∧e.gen=g∧e.live=true∧e.blk=some B∧v=.map (some B)∧w.heap[B]?=some (.map ents clock)∧ents.size=es.length ∧
   (∀ j (hj:j<es.length) (hj':j<ents.size),VR X E w es[j].1 ents[j].key∧VR X E w es[j].2 ents[j].val) ∧
   (∀ j (hj:j<ents.size),ents[j].born<clock)∧(∀ i j (hi:i<ents.size) (hj:j<ents.size),i<j→ents[i].born<ents[j].born):=by
 cases h with
 | mapr _ _ e _ he _ hg hl =>
  obtain ⟨h1,h2,B,ents,clock,k1,k2,k3,k4,k5,k6⟩:=hr.br i e _ he hH
  obtain ⟨B',q1,q2⟩:=hl h1.symm
  rw [k1] at q1
  injection q1 with q1
  subst q1
  exact ⟨e,B,ents,clock,he,h1,h2,k1,q2,k2,k3,k4,k5,k6⟩
theorem amap_own {x:AV} {v:Value} {es:List (AV×AV)} (h:amap H x=some es) (hv:VR X E w x v) (hr:HR X E w H) :
  ∃ ents:Array MapEntry,(v=.map none∧ents=#[]∨∃ B clock,v=.map (some B)∧w.heap[B]?=some (.map ents clock))∧ents.size=es.length ∧
   ∀ j (hj:j<es.length) (hj':j<ents.size),VR X E w es[j].1 ents[j].key∧VR X E w es[j].2 ents[j].val:=by
 unfold amap at h
 split at h
 ·injection h with h
  subst h
  cases hv
  exact ⟨#[],.inl ⟨rfl,rfl⟩,rfl,fun j hj=>by simp at hj⟩
 ·rename_i i g
  split at h
  ·rename_i g' es' hH
   split at h
   ·rename_i hg
    injection h with h
    subst hg h
    obtain ⟨e,B,ents,clock,_,_,_,_,h5,h6,h7,h8,_,_⟩:=map_own hv hr hH
    exact ⟨ents,.inr ⟨B,clock,h5,h6⟩,h7,h8⟩
   ·cases h
  ·cases h
 ·cases h
theorem S_lkp {agg ok:Bool} {m:Nat} {ks:List LK} {dflt:AV} {t kt et:TypeId} {i:TypeInfo} {z:Value} {x k:Operand} {x' k':Opd} {av:AV} {H':AHeap} (ho:o.op=.lookup t x k ok) (hx:cOpd x=some x') (hk:cOpd k=some k')
  (hm:m<10000) (ht:P.underlying t=some (.map kt et)) (hkt:flatKs P (m+1) kt=some ks) (ha:wideT P kt=agg) (hi:P.info? et=some i) (hz:i.zero=some z) (hd:c2av z=some dflt)
  (hav:aop (.lkp agg ks dflt x' k' ok) ρ H=some (av,H')) (hρ:OR X E w ρ ρc) (hr:HR X E w H):Res P X E w o ρc av H':=by
 have hvx:=hρ.rel x x' hx
 have hvk:=hρ.rel k k' hk
 unfold aop at hav
 simp only at hav
 split at hav
 ·rename_i v hl
  simp at hav
  obtain ⟨rfl,rfl⟩:=hav
  unfold alkp at hl
  split at hl
  ·rename_i es cs h1 h2
   split at hl
   ·rename_i r h3
    injection hl with hl
    obtain ⟨ents,hv,hlen,hes⟩:=amap_own h1 hvx hr
    have fk:=(cellsK_sound (P:=P) ha h2 hvk).1
    have hchk:∀ em,(Instr.checkKey em 10000 kt (ρc k)).run P w=.ok () w:=fun em=>by
     have:=checkKey_flat em (m+1) kt ks hkt (10000 - (m+1)) w _ fk
     rwa [show 10000 - (m+1)+(m+1)=10000 by omega] at this
    obtain ⟨q,hq,hmr⟩:=findKey_flat (P:=P) hm hkt ha h2 hvk ents.toList es r (by simpa using hlen) (fun j hj hj'=>by
     have:=hes j hj (by simpa using hj');simpa using this) h3
    have hzv:(zeroValue et).run P w=.ok z w:=by simp [zeroValue,typeInfo,hi,hz]
    have hzr:VR X E w dflt z:=c2av_sound hd
    have hobj:∀ B clock,w.heap[B]?=some (.map ents clock)→(getObj B).run P w=.ok (.map ents clock) w:=fun B clock hb=>Go.MapKept.run_getObj_map hb
    have hrun:∃ u:Value,(Instr.lookup t (ρc x) (ρc k) ok).run P w=.ok (if ok then .tuple #[u,.bool r.isSome] else u) w∧VR X E w (r.getD dflt) u:=by
     cases r with
     | none =>
      simp only at hmr
      obtain ⟨rfl,_⟩:=hmr
      refine ⟨z,?_,hzr⟩
      rcases hv with ⟨hv,he⟩|⟨B,clock,hv,hb⟩
      ·subst he
       simp only [Array.toList_empty] at hq
       simp only [Instr.lookup,Sem.run_bind,run_underlying ht,Result.andThen_ok,hv,Sem.run_pure,hchk,hq,hzv]
       cases ok<;>rfl
      ·simp only [Instr.lookup,Sem.run_bind,run_underlying ht,Result.andThen_ok,hv,hobj B clock hb,Sem.run_pure,hchk,hq,hzv]
       cases ok<;>rfl
     | some a =>
      simp only at hmr
      obtain ⟨j,e,rfl,he,_,hva,_⟩:=hmr
      refine ⟨e.val,?_,hva⟩
      rcases hv with ⟨hv,he'⟩|⟨B,clock,hv,hb⟩
      ·subst he'
       simp at he
      ·simp only [Instr.lookup,Sem.run_bind,run_underlying ht,Result.andThen_ok,hv,hobj B clock hb,Sem.run_pure,hchk,hq]
       cases ok<;>rfl
    obtain ⟨u,hu,hvu⟩:=hrun
    refine .pure hr (v:=if ok then .tuple #[u,.bool r.isSome] else u) (by simp [execOp,ho,hu]) ?_
    rw [←hl]
    cases ok with
    | true =>
     refine .tuple _ _ rfl (fun j hj hj'=>?_)
     match j,hj with
     | 0,_=>exact hvu
     | 1,_=>exact .bool _
    | false=>exact hvu
   ·cases hl
  ·cases hl
 ·cases hav
theorem S_upd {agg:Bool} {m:Nat} {ks:List LK} {t kt et:TypeId} {x k v:Operand} {x' k' v':Opd} {av:AV} {H':AHeap} (ho:o.op=.mapUpdate t x k v∨o.op=.insert t x k v) (hx:cOpd x=some x') (hk:cOpd k=some k') (hv0:cOpd v=some v')
  (hm:m<10000) (ht:P.underlying t=some (.map kt et)) (hkt:flatKs P (m+1) kt=some ks) (ha:wideT P kt=agg)
  (hav:aop (.upd agg ks x' k' v') ρ H=some (av,H')) (hρ:OR X E w ρ ρc) (hr:HR X E w H):Res P X E w o ρc av H':=by
 have hvx:=hρ.rel x x' hx
 have hvk:=hρ.rel k k' hk
 have hvv:=hρ.rel v v' hv0
 unfold aop at hav
 simp only at hav
 split at hav
 ·rename_i H2 hu
  simp at hav
  obtain ⟨rfl,rfl⟩:=hav
  unfold aupd at hu
  split at hu
  ·rename_i i g hj
   split at hu
   ·rename_i g' es hH
    split at hu
    ·rename_i hg
     subst hg
     split at hu
     ·rename_i cs h2
      split at hu
      ·rename_i es' h3
       injection hu with hu
       subst hu
       rw [hj] at hvx
       obtain ⟨e,B,ents,clock,he,hgen,hlive,hblk,hv,hb,hlen,hes,hborn,hord⟩:=map_own hvx hr hH
       have fk:=(cellsK_sound (P:=P) ha h2 hvk).1
       have hchk:(Instr.checkKey false 10000 kt (ρc k)).run P w=.ok () w:=by
        have:=checkKey_flat false (m+1) kt ks hkt (10000 - (m+1)) w _ fk
        rwa [show 10000 - (m+1)+(m+1)=10000 by omega] at this
       have hlook:∃ r,lookA agg ks cs es=some r:=by
        clear hlen hes hH
        induction es generalizing es' with
        | nil=>exact ⟨none,rfl⟩
        | cons p es ih =>
         obtain ⟨k1,v1⟩:=p
         simp only [updA] at h3
         simp only [lookA]
         split at h3
         ·rename_i ds hds
          by_cases hbb:leavesA cs ds=true
          ·simp [hds,hbb]
          ·rw [if_neg hbb] at h3
           split at h3
           ·rename_i es2 h4
            obtain ⟨r,hr⟩:=ih _ h4
            exact ⟨r,by simp [hds,hbb,hr]⟩
           ·cases h3
         ·cases h3
       obtain ⟨r,hlook⟩:=hlook
       obtain ⟨q,hq,hmr⟩:=findKey_flat (P:=P) hm hkt ha h2 hvk ents.toList es r (by simpa using hlen) (fun j hj hj'=>by
        have:=hes j hj (by simpa using hj');simpa using this) hlook
       have hstay:(Instr.keyThatStays (ρc k) (ρc k)).run P w=.ok (ρc k) w:=keyStays_flat (P:=P) ha h2 hvk
       have hown:Own E B:=⟨e,List.mem_of_getElem? he,hlive,hblk⟩
       have fin:∀ (ents':Array MapEntry) (clock':Nat),(Instr.mapUpdate t (ρc x) (ρc k) (ρc v)).run P w=.ok () { w with heap:=w.heap.setIfInBounds B (.map ents' clock') } →
         ents'.size=es'.length→(∀ j (hj:j<es'.length) (hj':j<ents'.size),VR X E w es'[j].1 ents'[j].key∧VR X E w es'[j].2 ents'[j].val) →
         (∀ j (hj:j<ents'.size),ents'[j].born<clock')→(∀ i j (hi:i<ents'.size) (hj:j<ents'.size),i<j→ents'[i].born<ents'[j].born)→Res P X E w o ρc .any (H.set i (.map g es')):=by
        intro ents' clock' hrun a1 a2 a3 a4
        have hset:=Go.MapKept.heap_set (w:=w) (r:=B) (o':=.map ents' clock') hb
        have hev:Ev E w (E.set i e) { w with heap:=w.heap.setIfInBounds B (.map ents' clock') } :=
         Ev.turn he rfl rfl rfl (by simp) (fun B' _ hO=>hset.2 B' (fun h=>hO (h▸hown))) (fun B' h1 h2=>.inl ⟨e,List.mem_of_getElem? he,h1,h2⟩) (Nat.le_refl _) (fun _=>⟨rfl,rfl,rfl⟩)
        have hr':HR X (E.set i e) { w with heap:=w.heap.setIfInBounds B (.map ents' clock') } (H.set i (.map g es')):=by
         refine hr.turn he hev (fun B' hO hne=>hset.2 B' (fun h=>hne hlive (h▸hblk))) (fun B' h1 h2=>?_) ⟨hgen,hlive,B,ents',clock',hblk,hset.1,a1,fun j hj hj'=>⟨(a2 j hj hj').1.mono hev,(a2 j hj hj').2.mono hev⟩,a3,a4⟩
         have:=hr.own i e B' he h1 h2
         exact ⟨⟨this.1,by simpa using this.2⟩,.inl ⟨h1,h2⟩⟩
        exact ⟨_,_,.skip,undef,by rcases ho with ho|ho<;>simp [execOp,ho,hrun],.inr ⟨rfl,rfl⟩,.any _,hr',hev⟩
       cases r with
       | none =>
        simp only at hmr
        obtain ⟨rfl,hup⟩:=hmr
        rw [hup] at h3
        injection h3 with h3
        subst h3
        refine fin (ents.push { key:=ρc k,val:=ρc v,born:=clock }) (clock+1) ?_ (by simp [hlen]) (fun j hj hj'=>?_) (fun j hj=>?_) (fun a b ha hb hab=>?_)
        ·simp only [Instr.mapUpdate,Sem.run_bind,run_underlying ht,Result.andThen_ok,hv,Go.MapKept.run_getObj_map hb,hchk,hq,Go.MapKept.run_setObj_map _ hb]
        ·simp at hj hj'
         by_cases hjl:j<es.length
         ·rw [List.getElem_append_left hjl,Array.getElem_push_lt (by omega)]
          exact hes j hjl (by omega)
         ·have:j=es.length:=by omega
          subst this
          simp [←hlen]
          exact ⟨hvk,hvv⟩
        ·simp at hj
         by_cases hjl:j<ents.size
         ·rw [Array.getElem_push_lt hjl]
          have:=hborn j hjl
          omega
         ·have:j=ents.size:=by omega
          subst this
          simp
        ·simp at ha hb
         by_cases hbl:b<ents.size
         ·rw [Array.getElem_push_lt hbl,Array.getElem_push_lt (by omega)]
          exact hord a b (by omega) hbl hab
         ·have:b=ents.size:=by omega
          subst this
          rw [Array.getElem_push_lt (by omega)]
          simp
          exact hborn a (by omega)
       | some a =>
        simp only at hmr
        obtain ⟨j0,e0,rfl,he0,hek,hva,hup⟩:=hmr
        rw [hup] at h3
        injection h3 with h3
        subst h3
        have he0':ents[j0]?=some e0:=by simpa using he0
        have hj0:j0<ents.size:=by
         rcases Nat.lt_or_ge j0 ents.size with h'|h'
         ·exact h'
         ·rw [Array.getElem?_eq_none h'] at he0';cases he0'
        refine fin (ents.modify j0 fun e=>{ e with key:=ρc k,val:=ρc v }) clock ?_ (by simp [hlen]) (fun j hj hj'=>?_) (fun j hj=>?_) (fun a b ha hb hab=>?_)
        ·have hold:((ents[j0]?.map (·.key)).getD (ρc k))=ρc k:=by rw [he0'];exact hek
         simp only [Instr.mapUpdate,Sem.run_bind,run_underlying ht,Result.andThen_ok,hv,Go.MapKept.run_getObj_map hb,hchk,hq,hold,hstay,Go.MapKept.run_setObj_map _ hb]
        ·simp at hj hj'
         rw [Array.getElem_modify,List.getElem_set]
         by_cases hjj:j0=j
         ·subst hjj
          simp
          exact ⟨hvk,hvv⟩
         ·simp [hjj]
          exact hes j hj hj'
        ·simp at hj
         rw [Array.getElem_modify]
         split<;>exact hborn j hj
        ·simp at ha hb
         rw [Array.getElem_modify,Array.getElem_modify]
         have:=hord a b ha hb hab
         split<;>split<;>exact this
      ·cases hu
     ·cases hu
    ·cases hu
   ·cases hu
  ·cases hu
 ·cases hav
theorem S_mxmn {mx:Bool} {x y:Operand} {x' y':Opd} {tt:Array TypeId} {av:AV} {H':AHeap} (ho:o.op=.call { callee:=.builtin (if mx then .max else .min),args:=#[x,y],argTypes:=tt }) (hx:cOpd x=some x') (hy:cOpd y=some y')
  (hav:aop (if mx then .mx x' y' else .mn x' y') ρ H=some (av,H')) (hρ:OR X E w ρ ρc) (hr:HR X E w H):Res P X E w o ρc av H':=by
 have hvx:=hρ.rel x x' hx
 have hvy:=hρ.rel y y' hy
 cases mx with
 | true =>
  simp only [if_true] at ho hav
  unfold aop at hav
  simp only at hav
  split at hav
  ·rename_i k a k' b h1 h2
   split at hav
   ·rename_i hk
    simp at hav
    obtain ⟨rfl,rfl⟩:=hav
    rw [h1] at hvx
    rw [h2] at hvy
    refine .pure hr (v:=.int k (if b>a then b else a)) ?_ (.int _ _)
    simp [execOp,ho,resolve,invoke,builtin,Builtin.max_,Builtin.max2,hvx.inv_int,hvy.inv_int]
   ·cases hav
  ·cases hav
 | false =>
  simp only [Bool.false_eq_true,if_false] at ho hav
  unfold aop at hav
  simp only at hav
  split at hav
  ·rename_i k a k' b h1 h2
   split at hav
   ·rename_i hk
    simp at hav
    obtain ⟨rfl,rfl⟩:=hav
    rw [h1] at hvx
    rw [h2] at hvy
    refine .pure hr (v:=.int k (if b<a then b else a)) ?_ (.int _ _)
    simp [execOp,ho,resolve,invoke,builtin,Builtin.min_,Builtin.min2,hvx.inv_int,hvy.inv_int]
   ·cases hav
  ·cases hav
theorem S_s2b {src dst e:TypeId} {x:Operand} {x':Opd} {av:AV} {H':AHeap} (ho:o.op=.convert src dst x) (hx:cOpd x=some x') (hs:P.underlying src=some .string) (hd:P.underlying dst=some (.slice e)) (he:P.underlying e=some (.int .u8))
  (hav:aop (.s2b x') ρ H=some (av,H')) (hρ:OR X E w ρ ρc) (hr:HR X E w H):Res P X E w o ρc av H':=by
 have hvx:=hρ.rel x x' hx
 unfold aop at hav
 simp only at hav
 split at hav
 ·rename_i s hxs
  split at hav
  ·rename_i hsz
   simp at hav
   obtain ⟨rfl,rfl⟩:=hav
   rw [hxs] at hvx
   have hv:=hvx.inv_str
   have hrun:=run_bytes_of_string (P:=P) w src dst e s hs hd he
   generalize hc:grownCap w s.size 0 e=c at hrun
   have hev1:Ev E w E w.drew:=(Ev.refl E w).drew _
   have hr1:HR X E w.drew H:=hr.drew _
   have hcap:s.size≤c:=by rw [←hc];exact grownCap_ge _ _ _ _
   refine ⟨E,w.drew.alloc (.cells (bytesRow s c) e ((bytesRow s c).size,(bytesRow s c).size+1)),_,.slice (some ⟨w.heap.size,0,none⟩) s.size c,?_,.inl rfl,?_,hr1.more _,hev1.trans (Ev.more E _ _)⟩
   ·simp only [execOp,ho,hv,Sem.run_bind,hrun,Result.andThen_ok,Sem.run_pure]
   ·have e1:(s.data.toList.map fun b=>[AV.int .u8 (b.toNat:Int)]).length=s.size:=by simp
    have:=rows_mk (X:=X) (E:=E) (w:=w.drew.alloc (.cells (bytesRow s c) e ((bytesRow s c).size,(bytesRow s c).size+1))) (clip:=false) (sz:=1) (es:=s.data.toList.map fun b=>[AV.int .u8 (b.toNat:Int)]) (a:=some ⟨w.heap.size,0,none⟩) (c:=c) (B:=w.heap.size) (o':=0)
     (f:=fun k=>.int .u8 ((s.data.getD k 0).toNat:Int)) (by rw [e1];exact hsz) (by rw [e1];exact hcap) (fun h=>by cases h) (fun x hx=>by obtain ⟨b,_,rfl⟩:=List.mem_map.1 hx;rfl) (fun _=>rfl)
     (fun _ _=>⟨fun hX=>by have:=hr.bound _ hX;omega,fun hO=>by have:=hr.own_lt hO;omega⟩) (fun k hk=>?_) (fun k hk=>?_)
    ·rw [e1] at this
     exact this
    ·have hk':k<s.data.size:=by simpa using hk
     have hb:k<(bytesRow s c).size:=by unfold bytesRow;simp;simp at hk';omega
     have hg:(bytesRow s c)[k]=.int .u8 ((s.data.getD k 0).toNat:Int):=by
      simp only [bytesRow]
      rw [Array.getElem_append_left (by simpa using hk')]
      have hk2:k<s.size:=hk'
      simp [Array.getD,hk2]
     have hnew:=more_new w.drew (.cells (bytesRow s c) e ((bytesRow s c).size,(bytesRow s c).size+1))
     have hnew':(w.drew.alloc (.cells (bytesRow s c) e ((bytesRow s c).size,(bytesRow s c).size+1))).heap[w.heap.size]?=some (.cells (bytesRow s c) e ((bytesRow s c).size,(bytesRow s c).size+1)):=hnew
     unfold World.cell?
     simp only [hnew',Nat.zero_add]
     rw [Array.getElem?_eq_getElem hb,hg]
     rfl
    ·have hfl:(s.data.toList.map fun b=>[AV.int .u8 (b.toNat:Int)]).flatten=s.data.toList.map fun b=>AV.int .u8 (b.toNat:Int):=by
      have key:∀ l:List UInt8,(l.map fun b=>[AV.int .u8 (b.toNat:Int)]).flatten=l.map fun b=>AV.int .u8 (b.toNat:Int):=by
       intro l
       induction l with
       | nil=>rfl
       | cons b l ih=>simp only [List.map_cons,List.flatten_cons,ih];rfl
      exact key _
     have hk':k<s.data.size:=by rw [hfl] at hk;simpa using hk
     have e2:(s.data.toList.map fun b=>[AV.int .u8 (b.toNat:Int)]).flatten[k]=.int .u8 ((s.data.getD k 0).toNat:Int):=by
      simp only [hfl,List.getElem_map]
      have hk2:k<s.size:=hk'
      simp [Array.getD,hk2]
     rw [e2]
     exact .int _ _
  ·cases hav
 ·cases hav
end Go.AM
namespace Go.AM
set_option linter.unusedVariables false
set_option linter.unusedSimpArgs false
variable {P:Program} {X:Nat→Prop} {E:Env} {w:World} {H:AHeap} {ρ:Opd→AV} {ρc:Operand→Value} {o:Oper}
def isAggD:TypeDesc→Bool
 | .struct _|.array _ _=>true
 | _=>false
theorem isAggD_iff (d:TypeDesc):isAggD d=true↔((∃ fs,d=.struct fs)∨∃ k e,d=.array k e):=by
 cases d<;>simp [isAggD]
def tyOf (P:Program) (t:TypeId):Option (Nat×Bool) :=
 match P.info? t,P.underlying t with
 | some i,some d=>if i.size=0 then none else if isAggD d=true∨i.size=1 then some (i.size,isAggD d) else none
 | _,_=>none
theorem tyOf_spec {t:TypeId} {n:Nat} {agg:Bool} (h:tyOf P t=some (n,agg)):∃ i d,P.info? t=some i∧P.underlying t=some d∧i.size=n∧0<n ∧
  (agg=true↔((∃ fs,d=.struct fs)∨∃ k e,d=.array k e))∧(agg=false→n=1):=by
 unfold tyOf at h
 split at h
 ·rename_i i d h1 h2
  split at h
  ·cases h
  ·split at h
   ·rename_i h3 h4
    simp at h
    obtain ⟨rfl,rfl⟩:=h
    refine ⟨i,d,h1,h2,rfl,by omega,isAggD_iff d,fun hf=>?_⟩
    rcases h4 with h4|h4
    ·rw [hf] at h4;cases h4
    ·exact h4
   ·cases h
 ·cases h
def zeroOf (P:Program) (t:TypeId):Option (List AV) :=
 match P.info? t with
 | some i=>match i.zero with
  | some z=>c2cells z.cells.toList
  | none=>none
 | none=>none
theorem zeroOf_spec {t:TypeId} {cs:List AV} (h:zeroOf P t=some cs):∃ i z,P.info? t=some i∧i.zero=some z∧c2cells z.cells.toList=some cs:=by
 unfold zeroOf at h
 split at h
 ·rename_i i h1
  split at h
  ·rename_i z h2
   exact ⟨i,z,h1,h2,h⟩
  ·cases h
 ·cases h
def cBuild (P:Program) (t:TypeId) (parts:List (Nat×Operand)):Option AOp :=
 match zeroOf P t,P.underlying t with
 | some zero,some (.struct fs)=>match fs.toList.mapM (fun f=>(P.info? f.type).map fun i=>(f.offset,i.size)) with
  | some pl=>match cParts (pl.toArray[·]?) parts with
   | some ps=>some (.build zero ps)
   | none=>none
  | none=>none
 | some zero,some (.array n e)=>match P.info? e with
  | some ie=>match cParts (fun k=>some (k*ie.size,ie.size)) parts with
   | some ps=>some (.build zero ps)
   | none=>none
  | none=>none
 | _,_=>none
def cSliceElem (P:Program) (t:TypeId):Option (TypeId×TypeInfo) :=
 match P.underlying t with
 | some (.slice e)=>match P.info? e with
  | some i=>if 0<i.size∧0<i.bytes then some (e,i) else none
  | none=>none
 | _=>none
theorem cSliceElem_spec {t e:TypeId} {i:TypeInfo} (h:cSliceElem P t=some (e,i)):P.underlying t=some (.slice e)∧P.info? e=some i∧0<i.size∧0<i.bytes:=by
 unfold cSliceElem at h
 split at h
 ·rename_i e' h1
  split at h
  ·rename_i i' h2
   split at h
   ·rename_i h3
    simp at h
    obtain ⟨rfl,rfl⟩:=h
    exact ⟨h1,h2,h3.1,h3.2⟩
   ·cases h
  ·cases h
 ·cases h
def cBslice (P:Program) (t:TypeId) (len:Nat) (parts:Array (Nat×Operand)):Option AOp :=
 match cSliceElem P t with
 | some (e,i)=>match zeroOf P e,cPartsS parts.toList with
  | some zero,some ps=>if zero.length=i.size∧len*i.size≤2^24∧(len=0→parts.size=0) then some (.bslice i.size len zero ps) else none
  | _,_=>none
 | none=>none
def cMksl (P:Program) (t:TypeId) (x y:Operand):Option AOp :=
 match cSliceElem P t with
 | some (e,i)=>match zeroOf P e,cOpd x,cOpd y with
  | some zero,some x,some y=>if zero.length=i.size then some (.mksl i.size i.bytes zero x y) else none
  | _,_,_=>none
 | none=>none
def cSlc (P:Program) (t:TypeId) (x:Operand) (lo hi mx:Option Operand):Option AOp :=
 match cOpd x,cOpt lo,cOpt hi,cOpt mx with
 | some x,some lo,some hi,some mx =>
  match P.underlying t with
  | some .string=>if mx.isNone then some (.slstr x lo hi) else none
  | some (.slice e)=>match P.info? e with
   | some i=>if mx.isSome=true→hi.isSome=true then some (.slc i.size x lo hi mx) else none
   | none=>none
  | _=>none
 | _,_,_,_=>none
def cField (P:Program) (s:TypeId) (f:Nat):Option Field :=
 match P.underlying s with
 | some (.struct fs)=>fs[f]?
 | _=>none
theorem cField_spec {s:TypeId} {f:Nat} {fd:Field} (h:cField P s f=some fd):∃ fs,P.underlying s=some (.struct fs)∧fs[f]?=some fd:=by
 unfold cField at h
 split at h
 ·rename_i fs h1
  exact ⟨fs,h1,h⟩
 ·cases h
def cConv (P:Program) (src dst:TypeId) (x:Operand):Option AOp :=
 match P.underlying src,P.underlying dst,cOpd x with
 | some _,some (.int k),some x=>some (.cint k x)
 | some .string,some .string,some x=>some (.cid x)
 | some (.slice e),some .string,some x=>match P.underlying e with
  | some (.int .u8)=>some (.b2s x)
  | _=>none
 | some .string,some (.slice e),some x=>match P.underlying e with
  | some (.int .u8)=>some (.s2b x)
  | _=>none
 | _,_,_=>none
def flatDepth:Nat:=40
def isSliceD:TypeDesc→Bool
 | .slice _=>true
 | _=>false
def isBoolD:TypeDesc→Bool
 | .bool=>true
 | _=>false
def constNilS:Operand→Bool
 | .const (.slice none 0 0)=>true
 | _=>false
def cCmp (P:Program) (neg:Bool) (t:TypeId) (x y:Operand):Option AOp :=
 match P.underlying t,cOpd x with
 | some d,some x' =>
  if isSliceD d then (if constNilS y then some (.snil neg x') else none)
  else match (match y with|.const c=>nilK P t c|_=>none) with
   | some k=>some (.isnil neg k x')
   | none=>match cOpd y with
    | some y' =>
     if isAggD d then (match flatKs P flatDepth t with
      | some ks=>if P.eqGuardType P.depth t=false∧wideT P t=true then some (.eqa neg true ks x' y') else none
      | none=>none)
     else if isBoolD d then (match flatKs P flatDepth t with
      | some ks=>some (.eqa neg false ks x' y')
      | none=>none)
     else some (.bin (eqOp neg) x' y')
    | none=>none
 | _,_=>none
def cBin (P:Program) (op:BinOp) (t:TypeId) (x y:Operand):Option AOp :=
 match op with
 | .eql=>cCmp P false t x y
 | .neq=>cCmp P true t x y
 | op=>match cOpd x,cOpd y with
  | some x,some y=>some (.bin op x y)
  | _,_=>none
def mapTy (P:Program) (t:TypeId):Option (TypeId×TypeId×List LK×Bool) :=
 match P.underlying t with
 | some (.map k e)=>match flatKs P flatDepth k with
  | some ks=>some (k,e,ks,wideT P k)
  | none=>none
 | _=>none
theorem mapTy_spec {t k e:TypeId} {ks:List LK} {agg:Bool} (h:mapTy P t=some (k,e,ks,agg)):P.underlying t=some (.map k e)∧flatKs P (39+1) k=some ks∧wideT P k=agg:=by
 unfold mapTy at h
 split at h
 ·rename_i h1
  split at h
  ·rename_i h2
   simp at h
   obtain ⟨rfl,rfl,rfl,rfl⟩:=h
   exact ⟨h1,h2,rfl⟩
  ·cases h
 ·cases h
def cLkp (P:Program) (t:TypeId) (x k:Operand) (ok:Bool):Option AOp :=
 match mapTy P t,cOpd x,cOpd k with
 | some (_,e,ks,agg),some x,some k=>match P.info? e with
  | some i=>match i.zero with
   | some z=>match c2av z with
    | some d=>some (.lkp agg ks d x k ok)
    | none=>none
   | none=>none
  | none=>none
 | _,_,_=>none
def cUpd (P:Program) (t:TypeId) (x k v:Operand):Option AOp :=
 match mapTy P t,cOpd x,cOpd k,cOpd v with
 | some (_,_,ks,agg),some x,some k,some v=>some (.upd agg ks x k v)
 | _,_,_,_=>none
def cMkmap (P:Program) (t:TypeId) (r:Option Operand):Option AOp :=
 match r with
 | none=>some .mkmap
 | some (.const (.int _ _))=>match P.underlying t with
  | some (.map _ _)=>some .mkmap
  | _=>none
 | _=>none
def cLen (P:Program) (t:TypeId) (x:Operand):Option AOp :=
 match P.underlying t,cOpd x with
 | some (.slice _),some x=>some (.len x)
 | some .string,some x=>some (.lens x)
 | _,_=>none
def cApp (P:Program) (t t':TypeId) (x y:Operand):Option AOp :=
 match cSliceElem P t with
 | some (e,i)=>match zeroOf P e,cOpd x,cOpd y with
  | some zero,some x,some y=>if zero.length=i.size∧t'=t then some (.app i.size i.bytes x y) else none
  | _,_,_=>none
 | none=>none
def cIdx (P:Program) (t:TypeId) (x y:Operand):Option AOp :=
 match P.underlying t,cOpd x,cOpd y with
 | some .string,some x,some y=>some (.idxs x y)
 | some (.array len e),some x,some y=>match tyOf P e with
  | some (n,agg)=>some (.idx len n agg x y)
  | none=>none
 | _,_,_=>none
def cIa (P:Program) (t:TypeId) (x y:Operand):Option AOp :=
 match P.underlying t,cOpd x,cOpd y with
 | some (.slice e),some x,some y=>match P.info? e with
  | some i=>if 0<i.size then some (.ia i.size x y) else none
  | none=>none
 | some (.array len e),some x,some y=>match P.info? e with
  | some i=>some (.iarr len i.size x y)
  | none=>none
 | _,_,_=>none
def cMkif (P:Program) (t:TypeId) (x:Operand):Option AOp :=
 match P.underlying t,cOpd x with
 | some (.interface _),_=>none
 | some _,some x=>some (.mkif t x)
 | _,_=>none
def cCall (P:Program) (c:Call):Option AOp :=
 match c.callee with
 | .builtin .len=>match c.args.toList,c.argTypes.toList with
  | [x],[t]=>cLen P t x
  | _,_=>none
 | .builtin .append=>match c.args.toList,c.argTypes.toList with
  | [x,y],[t,t']=>cApp P t t' x y
  | _,_=>none
 | .builtin .max=>match c.args.toList with
  | [x,y]=>match cOpd x,cOpd y with
   | some x,some y=>some (.mx x y)
   | _,_=>none
  | _=>none
 | .builtin .min=>match c.args.toList with
  | [x,y]=>match cOpd x,cOpd y with
   | some x,some y=>some (.mn x y)
   | _,_=>none
  | _=>none
 | .value f=>match cOpd f,cOpds c.args.toList with
  | some f,some as=>some (.call f as)
  | _,_=>none
 | _=>none
def cOp (P:Program):Op→Option AOp
 | .move x|.assign x=>(cOpd x).map .mov
 | .pick c a b=>match cOpd c,cOpd a,cOpd b with
  | some c,some a,some b=>some (.pick c a b)
  | _,_,_=>none
 | .alloc t=>(zeroOf P t).map .alloc
 | .box _ x=>(cOpd x).map .box
 | .build t parts=>cBuild P t parts.toList
 | .buildSlice t len parts=>cBslice P t len parts
 | .load t x=>match tyOf P t,cOpd x with
  | some (n,agg),some x=>some (.load n agg x)
  | _,_=>none
 | .store t a x=>match P.info? t,cOpd a,cOpd x with
  | some i,some a,some x=>some (.store i.size a x)
  | _,_,_=>none
 | .binOp op t x y _=>cBin P op t x y
 | .unOp .not _ x=>(cOpd x).map .not
 | .unOp .neg _ x=>(cOpd x).map .neg
 | .convert src dst x=>cConv P src dst x
 | .makeInterface t x=>cMkif P t x
 | .makeFunc f xs ys=>match cOpds xs.toList,cOpds ys.toList with
  | some xs,some ys=>some (.mkfn f xs ys)
  | _,_=>none
 | .makeSlice t x y=>cMksl P t x y
 | .slice t x lo hi mx=>cSlc P t x lo hi mx
 | .fieldAddr s x f=>match cField P s f,cOpd x with
  | some fd,some x=>match P.info? fd.type with
   | some i=>if i.size=0 then none else some (.fa fd.offset x)
   | none=>none
  | _,_=>none
 | .field s x f=>match cField P s f,cOpd x with
  | some fd,some x=>match tyOf P fd.type with
   | some (n,agg)=>some (.fld fd.offset n agg x)
   | none=>none
  | _,_=>none
 | .indexAddr t x y=>cIa P t x y
 | .index t x y=>cIdx P t x y
 | .extract x i=>(cOpd x).map (.ext · i)
 | .nilCheck x=>(cOpd x).map .nilc
 | .call c=>cCall P c
 | .makeMap t r=>cMkmap P t r
 | .lookup t x k ok=>cLkp P t x k ok
 | .mapUpdate t x k v|.insert t x k v=>cUpd P t x k v
 | _=>none
def asm (o:AOp) (ρ:Opd→AV):Prop :=
 match o with
 | .len x|.lens x=>alenOk (ρ x)
 | _=>True
theorem Res.asm {av:AV} {H':AHeap} {ao:AOp} (h:Res P X E w o ρc av H') (ha:asm ao ρ):Res P X E w o ρc av H'∧asm ao ρ:=⟨h,ha⟩
theorem map_some {α β:Type} {f:α→β} {x:Option α} {y:β} (h:x.map f=some y):∃ a,x=some a∧f a=y:=by
 cases x with
 | none=>cases h
 | some a=>injection h with h;exact ⟨a,rfl,h⟩
theorem S_buildC {t:TypeId} {parts:Array (Nat×Operand)} {ao:AOp} {av:AV} {H':AHeap} (ho:o.op=.build t parts) (hc:cBuild P t parts.toList=some ao) (hav:aop ao ρ H=some (av,H')) (hρ:OR X E w ρ ρc) (hr:HR X E w H) :
  Res P X E w o ρc av H'∧asm ao ρ:=by
 unfold cBuild at hc
 split at hc
 ·rename_i zero fs h1 h2
  split at hc
  ·rename_i pl h3
   split at hc
   ·rename_i ps h4
    injection hc with hc
    subst hc
    obtain ⟨i,z,a1,a2,a3⟩:=zeroOf_spec h1
    have:H'=H:=by
     unfold aop at hav
     simp only at hav
     split at hav
     ·simp at hav;exact hav.2.symm
     ·cases hav
    subst this
    exact ⟨S_build ho a1 a2 a3 (.inl ⟨fs,pl,h2,h3,rfl⟩) h4 hav hρ hr,trivial⟩
   ·cases hc
  ·cases hc
 ·rename_i zero n e h1 h2
  split at hc
  ·rename_i ie h3
   split at hc
   ·rename_i ps h4
    injection hc with hc
    subst hc
    obtain ⟨i,z,a1,a2,a3⟩:=zeroOf_spec h1
    have:H'=H:=by
     unfold aop at hav
     simp only at hav
     split at hav
     ·simp at hav;exact hav.2.symm
     ·cases hav
    subst this
    exact ⟨S_build ho a1 a2 a3 (.inr ⟨n,e,ie,h2,h3,rfl⟩) h4 hav hρ hr,trivial⟩
   ·cases hc
  ·cases hc
 ·cases hc
def AOp.pure:AOp→Bool
 | .alloc _|.box _|.bsloc ..|.store ..|.mkmap|.mksl ..|.app ..|.appc ..|.upd ..|.cpy ..|.call ..|.callh ..|.calla ..=>false
 | _=>true
theorem aop_pure {ao:AOp} {av:AV} {H':AHeap} (hp:ao.pure=true) (h:aop ao ρ H=some (av,H')):H'=H:=by
 cases ao<;>simp only [AOp.pure] at hp<;>first|(cases hp;done)|skip
 all_goals
  simp only [aop] at h
  repeat' (first|(cases h;done)|(simp at h;exact h.2.symm)|split at h)
end Go.AM
namespace Go.AM
set_option linter.unusedVariables false
set_option linter.unusedSimpArgs false
variable {P:Program} {X:Nat→Prop} {E:Env} {w:World} {H:AHeap} {ρ:Opd→AV} {ρc:Operand→Value} {o:Oper}
theorem keepH {ao:AOp} {av:AV} {H':AHeap} (hp:ao.pure=true) (h:aop ao ρ H=some (av,H')) (k:aop ao ρ H=some (av,H)→Res P X E w o ρc av H):Res P X E w o ρc av H':=by
 have:=aop_pure hp h
 subst this
 exact k h
def AOp.isCall:AOp→Bool
 | .call ..=>true
 | .callh ..=>true
 | .calla ..=>true
 | _=>false
theorem op_sound {ao:AOp} {av:AV} {H':AHeap} (hc:cOp P o.op=some ao) (hcall:ao.isCall=false) (hav:aop ao ρ H=some (av,H')) (hρ:OR X E w ρ ρc) (hr:HR X E w H):Res P X E w o ρc av H'∧asm ao ρ:=by
 cases ho:o.op with
 | move x =>
  rw [ho] at hc
  obtain ⟨x',hx,rfl⟩:=map_some hc
  simp [aop] at hav
  obtain ⟨rfl,rfl⟩:=hav
  exact ⟨S_mov (.inl ho) hx hρ hr,trivial⟩
 | assign x =>
  rw [ho] at hc
  obtain ⟨x',hx,rfl⟩:=map_some hc
  simp [aop] at hav
  obtain ⟨rfl,rfl⟩:=hav
  exact ⟨S_mov (.inr ho) hx hρ hr,trivial⟩
 | pick c a b =>
  rw [ho] at hc
  simp only [cOp] at hc
  split at hc
  ·rename_i c' a' b' h1 h2 h3
   injection hc with hc
   subst hc
   simp only [aop] at hav
   split at hav
   ·rename_i t ht
    simp at hav
    obtain ⟨rfl,rfl⟩:=hav
    exact ⟨S_pick ho h1 h2 h3 ht hρ hr,trivial⟩
   ·cases hav
  ·cases hc
 | alloc t =>
  rw [ho] at hc
  obtain ⟨cs,hx,rfl⟩:=map_some hc
  simp [aop] at hav
  obtain ⟨rfl,rfl⟩:=hav
  obtain ⟨i,z,a1,a2,a3⟩:=zeroOf_spec hx
  exact ⟨S_alloc ho a1 a2 a3 hr,trivial⟩
 | box t x =>
  rw [ho] at hc
  obtain ⟨x',hx,rfl⟩:=map_some hc
  simp only [aop] at hav
  split at hav
  ·rename_i cs hcs
   simp at hav
   obtain ⟨rfl,rfl⟩:=hav
   exact ⟨S_box ho hx hcs hρ hr,trivial⟩
  ·cases hav
 | build t parts =>
  rw [ho] at hc
  exact S_buildC ho hc hav hρ hr
 | buildSlice t len parts =>
  rw [ho] at hc
  simp only [cOp,cBslice] at hc
  split at hc
  ·rename_i e i h1
   split at hc
   ·rename_i zero ps h2 h3
    split at hc
    ·rename_i h4
     injection hc with hc
     subst hc
     obtain ⟨b1,b2,b3,b4⟩:=cSliceElem_spec h1
     obtain ⟨i',z,a1,a2,a3⟩:=zeroOf_spec h2
     have:i'=i:=by rw [b2] at a1;injection a1 with a1;exact a1.symm
     subst this
     exact ⟨keepH rfl hav fun hav=>S_bslice ho b1 b2 a2 a3 h4.1 b3 h4.2.1 h3 (fun h=>by have:=h4.2.2 h;exact Array.eq_empty_of_size_eq_zero this) hav hρ hr,trivial⟩
    ·cases hc
   ·cases hc
  ·cases hc
 | load t x =>
  rw [ho] at hc
  simp only [cOp] at hc
  split at hc
  ·rename_i n agg x' h1 h2
   injection hc with hc
   subst hc
   obtain ⟨i,d,a1,a2,a3,a4,a5,a6⟩:=tyOf_spec h1
   simp only [aop] at hav
   split at hav
   ·rename_i v hv
    simp at hav
    obtain ⟨rfl,rfl⟩:=hav
    exact ⟨S_load ho h2 a2 a1 a3 a5 a6 a4 hv hρ hr,trivial⟩
   ·cases hav
  ·cases hc
 | store t a x =>
  rw [ho] at hc
  simp only [cOp] at hc
  split at hc
  ·rename_i i a' x' h1 h2 h3
   injection hc with hc
   subst hc
   simp only [aop] at hav
   split at hav
   ·rename_i H2 hv
    simp at hav
    obtain ⟨rfl,rfl⟩:=hav
    exact ⟨S_store ho h2 h3 h1 rfl hv hρ hr,trivial⟩
   ·cases hav
  ·cases hc
 | binOp op t x y t' =>
  rw [ho] at hc
  have plain:∀ x' y',cOpd x=some x'→cOpd y=some y'→ao=.bin op x' y'→Res P X E w o ρc av H'∧asm ao ρ:=by
   rintro x' y' h1 h2 rfl
   exact ⟨keepH rfl hav fun hav=>S_bin ho h1 h2 hav hρ hr,trivial⟩
  have cmp:∀ neg,op=eqOp neg→cCmp P neg t x y=some ao→Res P X E w o ρc av H'∧asm ao ρ:=by
   intro neg hop h
   subst hop
   unfold cCmp at h
   split at h
   ·rename_i d x' hd hx
    split at h
    ·split at h
     ·injection h with h
      subst h
      simp [aop] at hav
     ·cases h
    ·split at h
     ·rename_i k hk
      injection h with h
      subst h
      split at hk
      ·rename_i c
       have hc0:∃ c',cOpd (.const c)=some c'∧ρc (.const c)=c:=by
        unfold nilK at hk
        split at hk<;>first|(cases hk;done)|skip
        ·have:=hρ.rel (.const .nilFunc) (.lit .nilFunc) rfl
         exact ⟨_,rfl,hρ.cst _⟩
        ·exact ⟨_,rfl,hρ.cst _⟩
        ·exact ⟨_,rfl,hρ.cst _⟩
        ·exact ⟨_,rfl,hρ.cst _⟩
       obtain ⟨_,_,hcc⟩:=hc0
       exact ⟨S_isnil ho hx hcc hk hav hρ hr,trivial⟩
      ·cases hk
     ·split at h
      ·rename_i y' hy
       split at h
       ·split at h
        ·rename_i ks hks
         split at h
         ·rename_i hg
          injection h with h
          subst h
          exact ⟨S_eqa ho hx hy (by unfold flatDepth at *;omega) hks hg.2 (.inl ⟨rfl,hg.1⟩) hav hρ hr,trivial⟩
         ·cases h
        ·cases h
       ·split at h
        ·rename_i hna hb
         split at h
         ·rename_i ks hks
          injection h with h
          subst h
          have hdb:d=.bool:=by cases d<;>simp [isBoolD] at hb<;>rfl
          subst hdb
          exact ⟨S_eqa ho hx hy (by unfold flatDepth at *;omega) hks (by simp [wideT,hd]) (.inr ⟨rfl,hd⟩) hav hρ hr,trivial⟩
         ·cases h
        ·injection h with h
         exact plain _ _ hx hy h.symm
      ·cases h
   ·cases h
  simp only [cOp,cBin] at hc
  cases op
  case eql=>exact cmp false rfl hc
  case neq=>exact cmp true rfl hc
  all_goals
   simp only at hc
   split at hc
   ·rename_i x' y' h1 h2
    injection hc with hc
    exact plain _ _ h1 h2 hc.symm
   ·cases hc
 | unOp op t x =>
  rw [ho] at hc
  cases op with
  | not =>
   obtain ⟨x',hx,rfl⟩:=map_some hc
   exact ⟨keepH rfl hav fun hav=>S_not ho hx hav hρ hr,trivial⟩
  | neg =>
   obtain ⟨x',hx,rfl⟩:=map_some hc
   exact ⟨keepH rfl hav fun hav=>S_neg ho hx hav hρ hr,trivial⟩
  | _=>cases hc
 | convert src dst x =>
  rw [ho] at hc
  simp only [cOp,cConv] at hc
  split at hc
  ·rename_i d k x' h1 h2 h3
   injection hc with hc
   subst hc
   exact ⟨keepH rfl hav fun hav=>S_cint ho h3 h1 h2 hav hρ hr,trivial⟩
  ·rename_i x' h1 h2 h3
   injection hc with hc
   subst hc
   exact ⟨keepH rfl hav fun hav=>S_cid ho h3 h1 h2 hav hρ hr,trivial⟩
  ·rename_i e x' h1 h2 h3
   split at hc
   ·rename_i h4
    injection hc with hc
    subst hc
    exact ⟨S_b2s ho h3 h1 h4 h2 hav hρ hr,trivial⟩
   ·cases hc
  ·rename_i e x' h1 h2 h3
   split at hc
   ·rename_i h4
    injection hc with hc
    subst hc
    exact ⟨S_s2b ho h3 h1 h2 h4 hav hρ hr,trivial⟩
   ·cases hc
  ·cases hc
 | makeMap t r =>
  rw [ho] at hc
  simp only [cOp,cMkmap] at hc
  split at hc
  ·injection hc with hc
   subst hc
   simp [aop] at hav
   obtain ⟨rfl,rfl⟩:=hav
   exact ⟨S_mkmap ho (.inl rfl) hr,trivial⟩
  ·rename_i k n
   split at hc
   ·rename_i kt et ht
    injection hc with hc
    subst hc
    simp [aop] at hav
    obtain ⟨rfl,rfl⟩:=hav
    exact ⟨S_mkmap ho (.inr ⟨k,n,kt,et,rfl,hρ.cst _,ht⟩) hr,trivial⟩
   ·cases hc
  ·cases hc
 | lookup t x k ok =>
  rw [ho] at hc
  simp only [cOp,cLkp] at hc
  split at hc
  ·rename_i kt e ks agg x' k' h1 h2 h3
   split at hc
   ·rename_i i h4
    split at hc
    ·rename_i z h5
     split at hc
     ·rename_i d h6
      injection hc with hc
      subst hc
      obtain ⟨g1,g2,g3⟩:=mapTy_spec h1
      exact ⟨S_lkp ho h2 h3 (by omega) g1 g2 g3 h4 h5 h6 hav hρ hr,trivial⟩
     ·cases hc
    ·cases hc
   ·cases hc
  ·cases hc
 | mapUpdate t x k v =>
  rw [ho] at hc
  simp only [cOp,cUpd] at hc
  split at hc
  ·rename_i kt e ks agg x' k' v' h1 h2 h3 h4
   injection hc with hc
   subst hc
   obtain ⟨g1,g2,g3⟩:=mapTy_spec h1
   exact ⟨S_upd (.inl ho) h2 h3 h4 (by omega) g1 g2 g3 hav hρ hr,trivial⟩
  ·cases hc
 | insert t x k v =>
  rw [ho] at hc
  simp only [cOp,cUpd] at hc
  split at hc
  ·rename_i kt e ks agg x' k' v' h1 h2 h3 h4
   injection hc with hc
   subst hc
   obtain ⟨g1,g2,g3⟩:=mapTy_spec h1
   exact ⟨S_upd (.inr ho) h2 h3 h4 (by omega) g1 g2 g3 hav hρ hr,trivial⟩
  ·cases hc
 | makeInterface t x =>
  rw [ho] at hc
  simp only [cOp,cMkif] at hc
  split at hc
  ·cases hc
  ·rename_i d x' hni h1 h2
   injection hc with hc
   subst hc
   simp [aop] at hav
   obtain ⟨rfl,rfl⟩:=hav
   exact ⟨S_mkif ho h2 h1 (fun ms h=>hni ms h) hρ hr,trivial⟩
  ·cases hc
 | makeFunc f xs ys =>
  rw [ho] at hc
  simp only [cOp] at hc
  split at hc
  ·rename_i xs' ys' h1 h2
   injection hc with hc
   subst hc
   simp [aop] at hav
   obtain ⟨rfl,rfl⟩:=hav
   exact ⟨S_mkfn ho h1 h2 hρ hr,trivial⟩
  ·cases hc
 | makeSlice t x y =>
  rw [ho] at hc
  simp only [cOp,cMksl] at hc
  split at hc
  ·rename_i e i h1
   split at hc
   ·rename_i zero x' y' h2 h3 h4
    split at hc
    ·rename_i h5
     injection hc with hc
     subst hc
     obtain ⟨b1,b2,b3,b4⟩:=cSliceElem_spec h1
     obtain ⟨i',z,a1,a2,a3⟩:=zeroOf_spec h2
     have:i'=i:=by rw [b2] at a1;injection a1 with a1;exact a1.symm
     subst this
     exact ⟨S_mksl ho h3 h4 b1 b2 a2 a3 h5 b3 hav hρ hr,trivial⟩
    ·cases hc
   ·cases hc
  ·cases hc
 | slice t x lo hi mx =>
  rw [ho] at hc
  simp only [cOp,cSlc] at hc
  split at hc
  ·rename_i x' lo' hi' mx' h1 h2 h3 h4
   split at hc
   ·rename_i h5
    split at hc
    ·rename_i h6
     injection hc with hc
     subst hc
     have hmx:mx=none:=by
      cases mx with
      | none=>rfl
      | some y=>simp only [cOpt] at h4;cases hy:cOpd y<;>rw [hy] at h4<;>simp at h4;subst h4;cases h6
     subst hmx
     exact ⟨keepH rfl hav fun hav=>S_slstr ho h1 h2 h3 h5 hav hρ hr,trivial⟩
    ·cases hc
   ·rename_i e h5
    split at hc
    ·rename_i i h6
     split at hc
     ·rename_i h7
      injection hc with hc
      subst hc
      exact ⟨keepH rfl hav fun hav=>S_slc ho h1 h2 h3 h4 h7 h5 h6 hav hρ hr,trivial⟩
     ·cases hc
    ·cases hc
   ·cases hc
  ·cases hc
 | fieldAddr s x f =>
  rw [ho] at hc
  simp only [cOp] at hc
  split at hc
  ·rename_i fd x' h1 h2
   split at hc
   ·rename_i i h3
    split at hc
    ·cases hc
    ·rename_i h4
     injection hc with hc
     subst hc
     obtain ⟨fs,a1,a2⟩:=cField_spec h1
     exact ⟨keepH rfl hav fun hav=>S_fa ho h2 a1 a2 h3 h4 hav hρ hr,trivial⟩
   ·cases hc
  ·cases hc
 | field s x f =>
  rw [ho] at hc
  simp only [cOp] at hc
  split at hc
  ·rename_i fd x' h1 h2
   split at hc
   ·rename_i n agg h3
    injection hc with hc
    subst hc
    obtain ⟨fs,b1,b2⟩:=cField_spec h1
    obtain ⟨i,d,a1,a2,a3,a4,a5,a6⟩:=tyOf_spec h3
    exact ⟨keepH rfl hav fun hav=>S_fld ho h2 b1 b2 a2 a1 a3 a5 a6 hav hρ hr,trivial⟩
   ·cases hc
  ·cases hc
 | indexAddr t x y =>
  rw [ho] at hc
  simp only [cOp,cIa] at hc
  split at hc
  ·rename_i e x' y' h1 h2 h3
   split at hc
   ·rename_i i h4
    split at hc
    ·rename_i h5
     injection hc with hc
     subst hc
     exact ⟨keepH rfl hav fun hav=>S_ia ho h2 h3 h1 h4 h5 hav hρ hr,trivial⟩
    ·cases hc
   ·cases hc
  ·rename_i len e x' y' h1 h2 h3
   split at hc
   ·rename_i i h4
    injection hc with hc
    subst hc
    exact ⟨keepH rfl hav fun hav=>S_iarr ho h2 h3 h1 h4 hav hρ hr,trivial⟩
   ·cases hc
  ·cases hc
 | index t x y =>
  rw [ho] at hc
  simp only [cOp,cIdx] at hc
  split at hc
  ·rename_i x' y' h1 h2 h3
   injection hc with hc
   subst hc
   exact ⟨keepH rfl hav fun hav=>S_idxs ho h2 h3 h1 hav hρ hr,trivial⟩
  ·rename_i len e x' y' h1 h2 h3
   split at hc
   ·rename_i n agg h4
    injection hc with hc
    subst hc
    obtain ⟨i,d,a1,a2,a3,a4,a5,a6⟩:=tyOf_spec h4
    exact ⟨keepH rfl hav fun hav=>S_idx ho h2 h3 h1 a2 a1 a3 a5 a6 hav hρ hr,trivial⟩
   ·cases hc
  ·cases hc
 | extract x i =>
  rw [ho] at hc
  obtain ⟨x',hx,rfl⟩:=map_some hc
  exact ⟨keepH rfl hav fun hav=>S_ext ho hx hav hρ hr,trivial⟩
 | nilCheck x =>
  rw [ho] at hc
  obtain ⟨x',hx,rfl⟩:=map_some hc
  exact ⟨keepH rfl hav fun hav=>S_nilc ho hx hav hρ hr,trivial⟩
 | call c =>
  rw [ho] at hc
  obtain ⟨callee,args,argTypes⟩:=c
  simp only [cOp,cCall] at hc
  split at hc
  ·split at hc
   ·rename_i x t g1 g2
    obtain rfl:args=#[x]:=Array.ext' g1
    obtain rfl:argTypes=#[t]:=Array.ext' g2
    simp only [cLen] at hc
    split at hc
    ·rename_i e x' h1 h2
     injection hc with hc
     subst hc
     have:=aop_pure (ao:=.len x') rfl hav
     subst this
     exact S_len ho h2 h1 hav hρ hr
    ·rename_i x' h1 h2
     injection hc with hc
     subst hc
     have:=aop_pure (ao:=.lens x') rfl hav
     subst this
     exact S_lens ho h2 h1 hav hρ hr
    ·cases hc
   ·cases hc
  ·split at hc
   ·rename_i x y t t' g1 g2
    obtain rfl:args=#[x,y]:=Array.ext' g1
    obtain rfl:argTypes=#[t,t']:=Array.ext' g2
    simp only [cApp] at hc
    split at hc
    ·rename_i e i h1
     split at hc
     ·rename_i zero x' y' h2 h3 h4
      split at hc
      ·rename_i h5
       injection hc with hc
       subst hc
       obtain ⟨b1,b2,b3,b4⟩:=cSliceElem_spec h1
       obtain ⟨i',z,a1,a2,a3⟩:=zeroOf_spec h2
       have:i'=i:=by rw [b2] at a1;injection a1 with a1;exact a1.symm
       subst this
       obtain ⟨hz1,ht⟩:=h5
       subst ht
       obtain ⟨k1,_⟩:=c2cells_sound (X:=X) (E:=E) (w:=w) a3
       exact ⟨S_app ho h3 h4 b1 b2 a2 (by rw [←hz1,k1];simp) b3 b4 hav hρ hr,trivial⟩
      ·cases hc
     ·cases hc
    ·cases hc
   ·cases hc
  ·split at hc
   ·rename_i x y g1
    obtain rfl:args=#[x,y]:=Array.ext' g1
    split at hc
    ·rename_i x' y' h1 h2
     injection hc with hc
     subst hc
     exact ⟨S_mxmn (mx:=true) ho h1 h2 hav hρ hr,trivial⟩
    ·cases hc
   ·cases hc
  ·split at hc
   ·rename_i x y g1
    obtain rfl:args=#[x,y]:=Array.ext' g1
    split at hc
    ·rename_i x' y' h1 h2
     injection hc with hc
     subst hc
     exact ⟨S_mxmn (mx:=false) ho h1 h2 hav hρ hr,trivial⟩
    ·cases hc
   ·cases hc
  ·split at hc
   ·injection hc with hc
    subst hc
    cases hcall
   ·cases hc
  ·cases hc
 | _=>rw [ho] at hc;cases hc
end Go.AM
namespace Go.AM
set_option linter.unusedVariables false
set_option linter.unusedSimpArgs false
variable {P:Program} {X:Nat→Prop} {E:Env} {w:World} {H:AHeap} {ρ:Opd→AV} {ρc:Operand→Value} {o:Oper}
structure An where
 own:List Nat
 marks:List Nat
variable {an:An}
def ownOp (an:An) (dst:Option Nat):AOp→AOp
 | .bslice sz len zero ps=>match dst with
  | some d=>if an.own.contains d then .bsloc sz len zero ps else .bslice sz len zero ps
  | none=>.bslice sz len zero ps
 | .app sz bytes x y=>match dst with
  | some d=>if an.own.contains (d+1000000) then .appc sz bytes x y else .app sz bytes x y
  | none=>.app sz bytes x y
 | .call f args=>match dst with
  | some d=>if an.own.contains (d+2000000) then .callh f args else (match an.own.find? (fun x=>decide (4000000≤x)&&(x - 4000000)%10000==d) with
   | some x=>.calla ((x - 4000000)/100000) ((x - 4000000)/10000%10) f args
   | none=>.call f args)
  | none=>.call f args
 | op=>op
def COp (P:Program) (op:Op) (ao:AOp):Prop:=cOp P op=some ao∨(∃ sz len zero ps,cOp P op=some (.bslice sz len zero ps)∧ao=.bsloc sz len zero ps)∨(∃ sz bytes x y,cOp P op=some (.app sz bytes x y)∧ao=.appc sz bytes x y)∨(∃ f args,cOp P op=some (.call f args)∧ao=.callh f args)∨∃ k j f args,cOp P op=some (.call f args)∧ao=.calla k j f args
theorem ownOp_spec {dst:Option Nat} {op:Op} {ao:AOp} (h:cOp P op=some ao):COp P op (ownOp an dst ao):=by
 unfold ownOp
 split
 ·split
  ·split
   ·exact .inr (.inl ⟨_,_,_,_,h,rfl⟩)
   ·exact .inl h
  ·exact .inl h
 ·split
  ·split
   ·exact .inr (.inr (.inl ⟨_,_,_,_,h,rfl⟩))
   ·exact .inl h
  ·exact .inl h
 ·split
  ·split
   ·exact .inr (.inr (.inr (.inl ⟨_,_,h,rfl⟩)))
   ·split
    ·exact .inr (.inr (.inr (.inr ⟨_,_,_,_,h,rfl⟩)))
    ·exact .inl h
  ·exact .inl h
 ·exact .inl h
theorem op_soundO {ao:AOp} {av:AV} {H':AHeap} (hc:COp P o.op ao) (hcall:ao.isCall=false) (hav:aop ao ρ H=some (av,H')) (hρ:OR X E w ρ ρc) (hr:HR X E w H):Res P X E w o ρc av H'∧asm ao ρ:=by
 rcases hc with hc|⟨sz,len,zero,ps,hc,rfl⟩|⟨sz,bytes,x,y,hc,rfl⟩|⟨f,args,hc,rfl⟩|⟨_,_,f,args,hc,rfl⟩
 rotate_right
 ·cases hcall
 rotate_right
 ·cases hcall
 ·exact op_sound hc hcall hav hρ hr
 rotate_left
 ·exact ⟨(op_sound hc rfl (aappc_app hav) hρ hr).1,trivial⟩
 cases ho:o.op with
 | buildSlice t len' parts =>
  rw [ho] at hc
  simp only [cOp,cBslice] at hc
  split at hc
  ·rename_i e i h1
   split at hc
   ·rename_i zero' ps' h2 h3
    split at hc
    ·rename_i h4
     injection hc with hc
     injection hc with e1 e2 e3 e4
     subst e1 e2 e3 e4
     obtain ⟨b1,b2,b3,b4⟩:=cSliceElem_spec h1
     obtain ⟨i',z,a1,a2,a3⟩:=zeroOf_spec h2
     have:i'=i:=by rw [b2] at a1;injection a1 with a1;exact a1.symm
     subst this
     exact ⟨S_bsloc ho b1 b2 a2 a3 h4.1 b3 h4.2.1 h3 (fun h=>by have:=h4.2.2 h;exact Array.eq_empty_of_size_eq_zero this) hav hρ hr,trivial⟩
    ·cases hc
   ·cases hc
  ·cases hc
 | binOp op t x0 y ty =>
  exfalso
  rw [ho] at hc
  simp only [cOp,cBin] at hc
  cases op<;>simp only [cCmp] at hc
  all_goals (repeat' (first|(cases hc;done)|split at hc))
 | call c =>
  exfalso
  rw [ho] at hc
  obtain ⟨callee,as,ats⟩:=c
  cases callee with
  | value f0 =>
   simp only [cOp,cCall] at hc
   split at hc<;>cases hc
  | builtin b =>
   cases b<;>simp only [cOp,cCall,cLen,cApp] at hc
   all_goals (repeat' (first|(cases hc;done)|split at hc))
  | invoke r m=>cases hc
 | unOp op t x=>exfalso;rw [ho] at hc;cases op<;>simp only [cOp] at hc<;>first|(cases hc;done)|(cases hx:cOpd x<;>rw [hx] at hc<;>cases hc)
 | move x=>exfalso;rw [ho] at hc;simp only [cOp] at hc;cases hx:cOpd x<;>rw [hx] at hc<;>cases hc
 | assign x=>exfalso;rw [ho] at hc;simp only [cOp] at hc;cases hx:cOpd x<;>rw [hx] at hc<;>cases hc
 | box t x=>exfalso;rw [ho] at hc;simp only [cOp] at hc;cases hx:cOpd x<;>rw [hx] at hc<;>cases hc
 | extract x i=>exfalso;rw [ho] at hc;simp only [cOp] at hc;cases hx:cOpd x<;>rw [hx] at hc<;>cases hc
 | nilCheck x=>exfalso;rw [ho] at hc;simp only [cOp] at hc;cases hx:cOpd x<;>rw [hx] at hc<;>cases hc
 | alloc t=>exfalso;rw [ho] at hc;simp only [cOp] at hc;cases hx:zeroOf P t<;>rw [hx] at hc<;>cases hc
 | _ =>
  exfalso
  rw [ho] at hc
  simp only [cOp,cBuild,cMksl,cSlc,cConv,cIdx,cIa,cMkif,cUpd,cLkp,cMkmap] at hc
  all_goals (repeat' (first|(cases hc;done)|split at hc))
structure AIns where
 dst:Option Nat
 op:AOp
 guard:Option (Nat×Bool)
 deriving Inhabited
def put (T:Tm) (d:Option Nat) (v:AV):Tm :=
 match d with
 | some d=>(d,v)::T
 | none=>T
def ArgsR (X:Nat→Prop) (E:Env) (w:World) (args:List AV) (vals:Array Value):Prop:=vals.size=args.length∧∀ j (hj:j<args.length) (hj':j<vals.size),VR X E w args[j] vals[j]
def Callable (P:Program) (f:FuncId):Prop:=∃ fn,P.funcs[f]?=some fn∧fn.body.isSome=true∧(fn.name=="runtime.NumGoroutine")=false
def FT (P:Program) (f:FuncId) (args:List AV) (H:AHeap) (R:AV→AHeap→Prop):Prop :=
 Callable P f∧∀ (X:Nat→Prop) (E:Env) (w:World) (vals:Array Value),HR X E w H→ArgsR X E w args vals →
  Calls P f vals w fun e w'=>∃ (v:Value) (rv:AV) (E':Env) (H':AHeap),e=.returned v∧R rv H'∧VR X E' w' rv v∧HR X E' w' H'∧Ev E w E' w'
def PF (P:Program) (f:FuncId) (args:List AV) (r:AV):Prop :=
 (∀ a∈args,RL 0 a)∧RL 0 r∧FT P f args [] fun rv _=>rv=r
def PFA (P:Program) (f:FuncId) (as:List AV) (len sz:Nat) (c:Bool) (cs:List AV):Prop :=
 (∀ a∈as,RL 0 a)∧(∀ a∈cs,RL 0 a)∧FT P f as [] fun rv H'=>rv=.loc 0 0 0 len sz c∧H'=[.cells 0 cs]
theorem VR.frame {av:AV} {v:Value} (hv:VR X E w av v) (hn:RL 0 av):VR (fun B=>X B∨Own E B) [] w av v:=by
 induction hv with
 | any v=>exact .any v
 | bool b=>exact .bool b
 | int k n=>exact .int k n
 | str s hs=>exact .str s hs
 | nilFunc=>exact .nilFunc
 | nilIface=>exact .nilIface
 | nilPtr=>exact .nilPtr
 | nilMap=>exact .nilMap
 | nilS=>exact .nilS
 | rows clip sz es a c ad f hn' hc hclip hsz ha hL hcell _ ih =>
  simp at hn
  exact .rows clip sz es a c ad f hn' hc hclip hsz ha (fun h0 hz=>⟨fun h=>h.elim (hL h0 hz).1 (hL h0 hz).2,fun ⟨e,he,_⟩=>by cases he⟩) hcell
   (fun i hi j hj=>ih i hi j hj (hn _ (List.getElem_mem _) _ (List.getElem_mem _)))
 | loc i g off len sz clip e v he ho hg hl=>simp at hn
 | ptr i g off e v he ho hg hl=>simp at hn
 | rptr cs ad f hL hcell _ ih =>
  simp at hn
  exact .rptr cs ad f (fun h0=>⟨fun h=>h.elim (hL h0).1 (hL h0).2,fun ⟨e,he,_⟩=>by cases he⟩) hcell (fun j hj=>ih j hj (hn _ (List.getElem_mem _)))
 | mapr i g e v he ho hg hl=>simp at hn
 | fn f fs cs fs' cs' h1 h2 _ _ ih1 ih2 =>
  simp at hn
  exact .fn f fs cs fs' cs' h1 h2 (fun j hj hj'=>ih1 j hj hj' (hn.1 _ (List.getElem_mem _))) (fun j hj hj'=>ih2 j hj hj' (hn.2 _ (List.getElem_mem _)))
 | iface t v u _ ih=>simp at hn;exact .iface t v u (ih hn)
 | agg cs vs h1 _ ih=>simp at hn;exact .agg cs vs h1 (fun j hj hj'=>ih j hj hj' (hn _ (List.getElem_mem _)))
 | tuple cs vs h1 _ ih=>simp at hn;exact .tuple cs vs h1 (fun j hj hj'=>ih j hj hj' (hn _ (List.getElem_mem _)))
theorem VR.unframe {E0:Env} {av:AV} {v:Value} (hv:VR (fun B=>X B∨Own E B) E0 w av v) (hn:RL 0 av):VR X E w av v:=by
 induction hv with
 | any v=>exact .any v
 | bool b=>exact .bool b
 | int k n=>exact .int k n
 | str s hs=>exact .str s hs
 | nilFunc=>exact .nilFunc
 | nilIface=>exact .nilIface
 | nilPtr=>exact .nilPtr
 | nilMap=>exact .nilMap
 | nilS=>exact .nilS
 | rows clip sz es a c ad f hn' hc hclip hsz ha hL hcell _ ih =>
  simp at hn
  exact .rows clip sz es a c ad f hn' hc hclip hsz ha (fun h0 hz=>⟨fun h=>(hL h0 hz).1 (.inl h),fun h=>(hL h0 hz).1 (.inr h)⟩) hcell
   (fun i hi j hj=>ih i hi j hj (hn _ (List.getElem_mem _) _ (List.getElem_mem _)))
 | loc i g off len sz clip e v he ho hg hl=>simp at hn
 | ptr i g off e v he ho hg hl=>simp at hn
 | rptr cs ad f hL hcell _ ih =>
  simp at hn
  exact .rptr cs ad f (fun h0=>⟨fun h=>(hL h0).1 (.inl h),fun h=>(hL h0).1 (.inr h)⟩) hcell (fun j hj=>ih j hj (hn _ (List.getElem_mem _)))
 | mapr i g e v he ho hg hl=>simp at hn
 | fn f fs cs fs' cs' h1 h2 _ _ ih1 ih2 =>
  simp at hn
  exact .fn f fs cs fs' cs' h1 h2 (fun j hj hj'=>ih1 j hj hj' (hn.1 _ (List.getElem_mem _))) (fun j hj hj'=>ih2 j hj hj' (hn.2 _ (List.getElem_mem _)))
 | iface t v u _ ih=>simp at hn;exact .iface t v u (ih hn)
 | agg cs vs h1 _ ih=>simp at hn;exact .agg cs vs h1 (fun j hj hj'=>ih j hj hj' (hn _ (List.getElem_mem _)))
 | tuple cs vs h1 _ ih=>simp at hn;exact .tuple cs vs h1 (fun j hj hj'=>ih j hj hj' (hn _ (List.getElem_mem _)))
theorem PF.frame {f:FuncId} {args:List AV} {r:AV} (h:PF P f args r) (H:AHeap):FT P f args H fun rv H'=>rv=r∧H'=H:=by
 obtain ⟨h1,h2,hc,h3⟩:=h
 refine ⟨hc,fun X E w vals hr ha=>?_⟩
 have hr0:HR (fun B=>X B∨Own E B) [] w []:=⟨rfl,fun i j ei ej B h=>by simp at h,fun i e B h=>by simp at h,fun i e b h=>by simp at h,fun B hB=>hB.elim (hr.bound B) hr.own_lt⟩
 refine (h3 _ [] w vals hr0 ⟨ha.1,fun j hj hj'=>(ha.2 j hj hj').frame (h1 _ (List.getElem_mem _))⟩).mono ?_
 rintro e w' ⟨v,rv,E',H',rfl,rfl,k1,k2,k3⟩
 have hev:Ev E w E w':=⟨k3.os,k3.tape,k3.output,k3.size,fun B hB _=>k3.keep B hB (fun ⟨e,he,_⟩=>by cases he),fun _ h=>.inl h,fun _ e h=>⟨e,h,Nat.le_refl _,fun _=>⟨rfl,rfl,rfl⟩⟩,k3.draw⟩
 exact ⟨v,rv,E,H,rfl,⟨rfl,rfl⟩,k1.unframe h2,hr.mono hev (fun B hB=>k3.keep B (hr.own_lt hB) (fun ⟨e,he,_⟩=>by cases he)),hev⟩
def callArgs (T:Tm) (f:Opd) (args:List Opd):Option (FuncId×List AV) :=
 match f.ev T with
 | .fn (.func g) first cap=>some (g,first++args.map (Opd.ev T)++cap)
 | _=>none
def runIns (P:Program) (draw:Bool) (i:AIns) (K:Tm→AHeap→Prop) (T:Tm) (H:AHeap):Prop :=
 match i.op with
 | .snil neg x=>match snilP H (x.ev T) with
  | some p=>draw=false∧∀ b,p b→K (put T i.dst (.bool (b != neg))) H
  | none=>False
 | .call f args=>match callArgs T f args with
  | some (g,as)=>if draw then ∃ r,PF P g as r∧K (put T i.dst r) H else FT P g as H fun rv H'=>K (put T i.dst rv) H'
  | none=>False
 | .callh f args=>match callArgs T f args with
  | some (g,as)=>if draw then ∃ r,(∀ X,FT P g as (H++X) (fun rv H'=>rv=r∧H'=H++X))∧K (put T i.dst r) H else FT P g as H fun rv H'=>K (put T i.dst rv) H'
  | none=>False
 | .calla k j f args=>match callArgs T f args with
  | some (g,as)=>draw=true∧((∃ r,PF P g as r∧K (put T i.dst r) H)∨∃ len sz c cs g0,PFA P g as len sz c cs∧H[k*10+j]?=some (.dead g0)∧K (put T i.dst (.loc (k*10+j) (g0+1) 0 len sz c)) (H.set (k*10+j) (.cells (g0+1) cs)))
  | none=>False
 | op=>apre op (Opd.ev T) H→match aop op (Opd.ev T) H with
  | some (v,H')=>asm op (Opd.ev T)→K (put T i.dst v) H'
  | none=>False
def runOps (P:Program) (draw:Bool):List AIns→(Tm→AHeap→Prop)→Tm→AHeap→Prop
 | [],K,T,H=>K T H
 | i::is,K,T,H=>match i.guard with
  | none=>runIns P draw i (runOps P draw is K) T H
  | some (g,want)=>match T.get g with
   | .bool b=>(b=want→runIns P draw i (runOps P draw is K) ((g,.bool want)::T) H)∧(b≠want→runOps P draw is K (put ((g,.bool (!want))::T) i.dst (.tuple [])) H)
   | .tuple vs=>vs=[]∧runOps P draw is K (put T i.dst (.tuple [])) H
   | _=>False
theorem undefR:VR X E w (.tuple []) undef:=.tuple [] #[] rfl (fun j hj=>by simp at hj)
theorem get_same {T:Tm} {g:Nat} {v:AV} (h:T.get g=v) (k:Nat):Tm.get ((g,v)::T) k=T.get k:=by
 simp only [Tm.get]
 split
 ·rename_i hk;subst hk;exact h.symm
 ·rfl
theorem TR.same {T:Tm} {tmps:Array Value} {g:Nat} {v:AV} (h:TR X E w T tmps) (hg:T.get g=v):TR X E w ((g,v)::T) tmps :=
 ⟨fun k=>by rw [get_same hg];exact h.rel k⟩
structure NF where
 n:Nat
 p:Env→World→List Deferred→Prop
 mono:∀ {E:Env} {w:World} {E':Env} {w':World} {ds:List Deferred},Ev E w E' w'→p E w ds→p E' w' ds
 lo:Nat
 cut:∀ {E:Env} {w:World} {ds:List Deferred} (k:Nat),lo≤k→p E w ds→p (E.take k) w ds
instance:Coe NF Nat:=⟨NF.n⟩
def St (X:Nat→Prop) (E0:Env) (w0:World) (n:NF) (T:Tm) (H:AHeap) (a:Act) (w:World):Prop :=
 ∃ E,Ev E0 w0 E w∧HR X E w H∧TR X E w T a.tmps∧a.tmps.size=n.n∧n.p E w a.defers
def cGuard (ops:Array Oper):Option (Nat×Bool)→Option (Option (Nat×Bool))
 | none=>some none
 | some (j,want)=>match ops[j]? with
  | some oj=>match oj.dst with
   | some g=>some (some (g,want))
   | none=>none
  | none=>none
def cIns (P:Program) (an:An) (n:Nat) (ops:Array Oper) (o:Oper):Option AIns :=
 match cOp P o.op,cGuard ops o.guard with
 | some op,some gd=>match o.dst with
  | none=>some ⟨none,ownOp an none op,gd⟩
  | some d=>if d<n then some ⟨some d,ownOp an (some d) op,gd⟩ else none
 | _,_=>none
theorem cIns_spec {n:Nat} {ops:Array Oper} {i:AIns} (h:cIns P an n ops o=some i):COp P o.op i.op∧cGuard ops o.guard=some i.guard∧i.dst=o.dst∧∀ d,o.dst=some d→d<n:=by
 unfold cIns at h
 split at h
 ·rename_i op gd h1 h2
  split at h
  ·rename_i h3
   injection h with h
   subst h
   exact ⟨ownOp_spec (an:=an) (dst:=none) h1,h2,h3.symm,fun d hd=>by rw [h3] at hd;cases hd⟩
  ·rename_i d h3
   split at h
   ·rename_i h4
    injection h with h
    subst h
    exact ⟨ownOp_spec (an:=an) (dst:=some d) h1,h2,h3.symm,fun d' hd=>by rw [h3] at hd;injection hd with hd;subst hd;exact h4⟩
   ·cases h
 ·cases h
theorem put_tr {T:Tm} {a:Act} {dst:Option Nat} {av:AV} {v:Value} (h:TR X E w T a.tmps) (hd:∀ d,dst=some d→d<a.tmps.size) (hv:VR X E w av v) :
  TR X E w (put T dst av) (a.put dst v).tmps∧(a.put dst v).tmps.size=a.tmps.size∧(a.put dst v).defers=a.defers:=by
 cases dst with
 | none=>exact ⟨h,rfl,rfl⟩
 | some d=>exact ⟨h.set (hd d rfl) hv,by simp [Act.put],rfl⟩
theorem guard_run {T:Tm} {a:Act} {ops:Array Oper} {gd:Option (Nat×Bool)} (h:TR X E w T a.tmps) (hg:cGuard ops o.guard=some gd) :
  (gd=none→Region.wanted o (yielded ops a.tmps)=true)∧(∀ g want b,gd=some (g,want)→T.get g=.bool b→Region.wanted o (yielded ops a.tmps)=(b==want))∧∀ g want,gd=some (g,want)→T.get g=.tuple []→Region.wanted o (yielded ops a.tmps)=false:=by
 unfold cGuard at hg
 unfold Region.wanted
 cases ho:o.guard with
 | none =>
  rw [ho] at hg
  injection hg with hg
  subst hg
  exact ⟨fun _=>rfl,(fun g want b h=>by cases h),fun g want h=>by cases h⟩
 | some p =>
  obtain ⟨j,want⟩:=p
  rw [ho] at hg
  simp only at hg
  split at hg
  ·rename_i oj hj
   split at hg
   ·rename_i g hgd
    injection hg with hg
    subst hg
    refine ⟨(fun h=>by cases h),fun g' want' b h1 h2=>?_,fun g' want' h1 h2=>?_⟩
    rotate_left
    ·injection h1 with h1
     simp at h1
     obtain ⟨rfl,rfl⟩:=h1
     have:=h.rel g
     rw [h2] at this
     have hu:a.tmps.getD g undef=.tuple #[]:=by
      generalize a.tmps.getD g undef=u at this
      cases this with
      | tuple _ vs h1 _=>have e:vs=#[]:=Array.eq_empty_of_size_eq_zero (by simpa using h1);rw [e]
     have:∀ b,a.tmps[g]?≠some (.bool b):=by
      intro b hb
      simp [Array.getD_eq_getD_getElem?,hb] at hu
     simp only [yielded,hj,Option.bind_some,hgd]
     cases hq:a.tmps[g]? with
     | none=>rfl
     | some u =>
      cases u<;>first|rfl|exact absurd hq (this _)
    injection h1 with h1
    simp at h1
    obtain ⟨rfl,rfl⟩:=h1
    have:=h.rel g
    rw [h2] at this
    have:=this.inv_bool
    have hlt:g<a.tmps.size:=by
     rcases Nat.lt_or_ge g a.tmps.size with h'|h'
     ·exact h'
     ·simp [Array.getD,Nat.not_lt.2 h'] at this
      cases this
    have hget:a.tmps[g]?=some (.bool b):=by
     rw [Array.getElem?_eq_getElem hlt]
     simp [Array.getD,hlt] at this
     rw [this]
    simp [yielded,hj,hgd,hget]
   ·cases hg
  ·cases hg
theorem call_run {f:Operand} {args:Array Operand} {ats:Array TypeId} {g:FuncId} {first cap:Array Value} (ho:o.op=.call { callee:=.value f,args,argTypes:=ats }) (hf:ρc f=.func (.func g) first cap) (hc:Callable P g) :
  (execOp ρc o).run P w=.ok (.enter g (first++args.map ρc++cap)) w:=by
 obtain ⟨fn,h1,h2,h3⟩:=hc
 have h4:¬ fn.body=none:=by cases hb:fn.body<;>simp_all
 have h5:¬ fn.name="runtime.NumGoroutine":=by simpa using h3
 simp [execOp,ho,resolve,Deferred.ofValue,hf,invoke,callFunc,h1]
 rw [if_neg h5,if_neg h4]
theorem ArgsR.app {as bs:List AV} {vs us:Array Value} (h:ArgsR X E w as vs) (k:ArgsR X E w bs us):ArgsR X E w (as++bs) (vs++us):=by
 refine ⟨by simp [h.1,k.1],fun j hj hj'=>?_⟩
 simp at hj
 by_cases hjo:j<as.length
 ·rw [List.getElem_append_left hjo,Array.getElem_append_left (by rw [h.1];exact hjo)]
  exact h.2 j hjo (by rw [h.1];exact hjo)
 ·rw [List.getElem_append_right (by omega),Array.getElem_append_right (by rw [h.1];omega)]
  have:=k.2 (j - as.length) (by omega) (by rw [k.1];omega)
  simp only [h.1]
  exact this
theorem cOp_call {op:Op} {f:Opd} {args:List Opd} (h:COp P op (.call f args)):∃ f0 args0 ats,op=.call { callee:=.value f0,args:=args0,argTypes:=ats }∧cOpd f0=some f∧cOpds args0.toList=some args:=by
 rcases h with h|⟨_,_,_,_,_,h⟩|⟨_,_,_,_,_,h⟩|⟨_,_,_,h⟩|⟨_,_,_,_,_,h⟩
 rotate_left
 ·cases h
 ·cases h
 ·cases h
 ·cases h
 cases op with
 | call c =>
  obtain ⟨callee,as,ats⟩:=c
  cases callee with
  | value f0 =>
   simp only [cOp,cCall] at h
   split at h
   ·rename_i h1 h2
    injection h with h
    injection h with e1 e2
    subst e1 e2
    exact ⟨f0,as,ats,rfl,h1,h2⟩
   ·cases h
  | builtin b =>
   cases b<;>simp only [cOp,cCall,cLen,cApp] at h
   all_goals (repeat' (first|(cases h;done)|split at h))
  | invoke r m=>cases h
 | unOp op t x=>cases op<;>simp only [cOp] at h<;>first|(cases h;done)|(cases hx:cOpd x<;>rw [hx] at h<;>cases h)
 | move x=>simp only [cOp] at h;cases hx:cOpd x<;>rw [hx] at h<;>cases h
 | assign x=>simp only [cOp] at h;cases hx:cOpd x<;>rw [hx] at h<;>cases h
 | box t x=>simp only [cOp] at h;cases hx:cOpd x<;>rw [hx] at h<;>cases h
 | extract x i=>simp only [cOp] at h;cases hx:cOpd x<;>rw [hx] at h<;>cases h
 | nilCheck x=>simp only [cOp] at h;cases hx:cOpd x<;>rw [hx] at h<;>cases h
 | alloc t=>simp only [cOp] at h;cases hx:zeroOf P t<;>rw [hx] at h<;>cases h
 | _ =>
  simp only [cOp,cBuild,cBslice,cMksl,cSlc,cConv,cIdx,cIa,cMkif,cUpd,cLkp,cMkmap,cBin,cCmp] at h
  all_goals (repeat' (first|(cases h;done)|split at h))
theorem cOp_nocallh {op:Op} (f:Opd) (args:List Opd):¬ cOp P op=some (.callh f args):=by
 intro h
 cases op with
 | call c =>
  obtain ⟨callee,as,ats⟩:=c
  cases callee with
  | value f0 =>
   simp only [cOp,cCall] at h
   split at h<;>cases h
  | builtin b =>
   cases b<;>simp only [cOp,cCall,cLen,cApp] at h
   all_goals (repeat' (first|(cases h;done)|split at h))
  | invoke r m=>cases h
 | unOp op t x=>cases op<;>simp only [cOp] at h<;>first|(cases h;done)|(cases hx:cOpd x<;>rw [hx] at h<;>cases h)
 | move x=>simp only [cOp] at h;cases hx:cOpd x<;>rw [hx] at h<;>cases h
 | assign x=>simp only [cOp] at h;cases hx:cOpd x<;>rw [hx] at h<;>cases h
 | box t x=>simp only [cOp] at h;cases hx:cOpd x<;>rw [hx] at h<;>cases h
 | extract x i=>simp only [cOp] at h;cases hx:cOpd x<;>rw [hx] at h<;>cases h
 | nilCheck x=>simp only [cOp] at h;cases hx:cOpd x<;>rw [hx] at h<;>cases h
 | alloc t=>simp only [cOp] at h;cases hx:zeroOf P t<;>rw [hx] at h<;>cases h
 | _ =>
  simp only [cOp,cBuild,cBslice,cMksl,cSlc,cConv,cIdx,cIa,cMkif,cUpd,cLkp,cMkmap,cBin,cCmp] at h
  all_goals (repeat' (first|(cases h;done)|split at h))
theorem cOp_nocalla {op:Op} (k j:Nat) (f:Opd) (args:List Opd):¬ cOp P op=some (.calla k j f args):=by
 intro h
 cases op with
 | call c =>
  obtain ⟨callee,as,ats⟩:=c
  cases callee with
  | value f0 =>
   simp only [cOp,cCall] at h
   split at h<;>cases h
  | builtin b =>
   cases b<;>simp only [cOp,cCall,cLen,cApp] at h
   all_goals (repeat' (first|(cases h;done)|split at h))
  | invoke r m=>cases h
 | unOp op t x=>cases op<;>simp only [cOp] at h<;>first|(cases h;done)|(cases hx:cOpd x<;>rw [hx] at h<;>cases h)
 | move x=>simp only [cOp] at h;cases hx:cOpd x<;>rw [hx] at h<;>cases h
 | assign x=>simp only [cOp] at h;cases hx:cOpd x<;>rw [hx] at h<;>cases h
 | box t x=>simp only [cOp] at h;cases hx:cOpd x<;>rw [hx] at h<;>cases h
 | extract x i=>simp only [cOp] at h;cases hx:cOpd x<;>rw [hx] at h<;>cases h
 | nilCheck x=>simp only [cOp] at h;cases hx:cOpd x<;>rw [hx] at h<;>cases h
 | alloc t=>simp only [cOp] at h;cases hx:zeroOf P t<;>rw [hx] at h<;>cases h
 | _ =>
  simp only [cOp,cBuild,cBslice,cMksl,cSlc,cConv,cIdx,cIa,cMkif,cUpd,cLkp,cMkmap,cBin,cCmp] at h
  all_goals (repeat' (first|(cases h;done)|split at h))
theorem cOp_callh {op:Op} {f:Opd} {args:List Opd} (h:COp P op (.callh f args)):∃ f0 args0 ats,op=.call { callee:=.value f0,args:=args0,argTypes:=ats }∧cOpd f0=some f∧cOpds args0.toList=some args:=by
 rcases h with h|⟨_,_,_,_,_,h⟩|⟨_,_,_,_,_,h⟩|⟨f',args',h,e⟩|⟨_,_,_,_,_,h⟩
 ·exact absurd h (cOp_nocallh _ _)
 ·cases h
 ·cases h
 ·injection e with e1 e2
  subst e1 e2
  exact cOp_call (.inl h)
 ·cases h
theorem cOp_calla {op:Op} {k j:Nat} {f:Opd} {args:List Opd} (h:COp P op (.calla k j f args)):∃ f0 args0 ats,op=.call { callee:=.value f0,args:=args0,argTypes:=ats }∧cOpd f0=some f∧cOpds args0.toList=some args:=by
 rcases h with h|⟨_,_,_,_,_,h⟩|⟨_,_,_,_,_,h⟩|⟨_,_,_,h⟩|⟨k',j',f',args',h,e⟩
 ·exact absurd h (cOp_nocalla _ _ _ _)
 ·cases h
 ·cases h
 ·cases h
 ·injection e with e1 e2 e3 e4
  subst e1 e2 e3 e4
  exact cOp_call (.inl h)
theorem cOp_snil {op:Op} {neg:Bool} {x:Opd} (h:COp P op (.snil neg x)):∃ t x0 ty el,op=.binOp (eqOp neg) t x0 (.const (.slice none 0 0)) ty∧cOpd x0=some x∧P.underlying t=some (.slice el):=by
 have cmp:∀ neg' t x0 y,cCmp P neg' t x0 y=some (.snil neg x)→neg'=neg∧y=.const (.slice none 0 0)∧cOpd x0=some x∧∃ el,P.underlying t=some (.slice el):=by
  intro neg' t x0 y h
  unfold cCmp at h
  split at h
  ·rename_i d x' hd hx
   split at h
   ·rename_i hsl
    split at h
    ·rename_i hy
     injection h with h
     injection h with h1 h2
     subst h1 h2
     refine ⟨rfl,?_,hx,?_⟩
     ·unfold constNilS at hy
      split at hy
      ·rfl
      ·cases hy
     ·cases d<;>simp [isSliceD] at hsl
      exact ⟨_,hd⟩
    ·cases h
   ·repeat' (first|(cases h;done)|split at h)
  ·cases h
 rcases h with h|⟨_,_,_,_,_,h⟩|⟨_,_,_,_,_,h⟩|⟨_,_,_,h⟩|⟨_,_,_,_,_,h⟩
 rotate_left
 ·cases h
 ·cases h
 ·cases h
 ·cases h
 cases op with
 | binOp op t x0 y ty =>
  simp only [cOp,cBin] at h
  cases op<;>simp only at h
  case eql =>
   obtain ⟨rfl,rfl,h3,el,h4⟩:=cmp _ _ _ _ h
   exact ⟨t,x0,ty,el,rfl,h3,h4⟩
  case neq =>
   obtain ⟨rfl,rfl,h3,el,h4⟩:=cmp _ _ _ _ h
   exact ⟨t,x0,ty,el,rfl,h3,h4⟩
  all_goals (split at h<;>cases h)
 | call c =>
  obtain ⟨callee,as,ats⟩:=c
  cases callee with
  | value f0 =>
   simp only [cOp,cCall] at h
   split at h<;>cases h
  | builtin b =>
   cases b<;>simp only [cOp,cCall,cLen,cApp] at h
   all_goals (repeat' (first|(cases h;done)|split at h))
  | invoke r m=>cases h
 | unOp op t x=>cases op<;>simp only [cOp] at h<;>first|(cases h;done)|(cases hx:cOpd x<;>rw [hx] at h<;>cases h)
 | move x=>simp only [cOp] at h;cases hx:cOpd x<;>rw [hx] at h<;>cases h
 | assign x=>simp only [cOp] at h;cases hx:cOpd x<;>rw [hx] at h<;>cases h
 | box t x=>simp only [cOp] at h;cases hx:cOpd x<;>rw [hx] at h<;>cases h
 | extract x i=>simp only [cOp] at h;cases hx:cOpd x<;>rw [hx] at h<;>cases h
 | nilCheck x=>simp only [cOp] at h;cases hx:cOpd x<;>rw [hx] at h<;>cases h
 | alloc t=>simp only [cOp] at h;cases hx:zeroOf P t<;>rw [hx] at h<;>cases h
 | _ =>
  simp only [cOp,cBuild,cBslice,cMksl,cSlc,cConv,cIdx,cIa,cMkif,cUpd,cLkp,cMkmap] at h
  all_goals (repeat' (first|(cases h;done)|split at h))
theorem cOp_app {op:Op} {sz bytes:Nat} {x y:Opd} (h:COp P op (.app sz bytes x y)):∃ x0 y0,cOpd x0=some x∧cOpd y0=some y:=by
 rcases h with h|⟨_,_,_,_,_,h⟩|⟨_,_,_,_,_,h⟩|⟨_,_,_,h⟩|⟨_,_,_,_,_,h⟩
 rotate_left
 ·cases h
 ·cases h
 ·cases h
 ·cases h
 cases op with
 | binOp op t x0 y ty =>
  exfalso
  simp only [cOp,cBin] at h
  cases op<;>simp only [cCmp] at h
  all_goals (repeat' (first|(cases h;done)|split at h))
 | call c =>
  obtain ⟨callee,as,ats⟩:=c
  cases callee with
  | value f0 =>
   simp only [cOp,cCall] at h
   split at h<;>cases h
  | builtin b =>
   cases b
   case append =>
    simp only [cOp,cCall] at h
    split at h
    ·rename_i x0 y0 t t' _ _
     simp only [cApp] at h
     split at h
     ·split at h
      ·rename_i h2 h3 h4
       split at h
       ·injection h with h
        injection h with e1 e2 e3 e4
        subst e3 e4
        exact ⟨x0,y0,h3,h4⟩
       ·cases h
      ·cases h
     ·cases h
    ·cases h
   all_goals
    exfalso
    simp only [cOp,cCall,cLen] at h
    (repeat' (first|(cases h;done)|split at h))
  | invoke r m=>cases h
 | unOp op t x=>exfalso;cases op<;>simp only [cOp] at h<;>first|(cases h;done)|(cases hx:cOpd x<;>rw [hx] at h<;>cases h)
 | move x=>exfalso;simp only [cOp] at h;cases hx:cOpd x<;>rw [hx] at h<;>cases h
 | assign x=>exfalso;simp only [cOp] at h;cases hx:cOpd x<;>rw [hx] at h<;>cases h
 | box t x=>exfalso;simp only [cOp] at h;cases hx:cOpd x<;>rw [hx] at h<;>cases h
 | extract x i=>exfalso;simp only [cOp] at h;cases hx:cOpd x<;>rw [hx] at h<;>cases h
 | nilCheck x=>exfalso;simp only [cOp] at h;cases hx:cOpd x<;>rw [hx] at h<;>cases h
 | alloc t=>exfalso;simp only [cOp] at h;cases hx:zeroOf P t<;>rw [hx] at h<;>cases h
 | _ =>
  exfalso
  simp only [cOp,cBuild,cBslice,cMksl,cSlc,cConv,cIdx,cIa,cMkif,cUpd,cLkp,cMkmap] at h
  all_goals (repeat' (first|(cases h;done)|split at h))
theorem VR.preLen {av:AV} {v:Value} (h:VR X E w av v) (hr:HR X E w H):preLen H av:=by
 cases h with
 | rows clip sz es a c ad f hn hc hclip hsz ha hL hcell _=>exact hn
 | loc i g off len sz clip e v he ho hg hl' =>
  intro hal
  obtain ⟨cs,hH⟩:=alive_spec hal
  obtain ⟨a,c,q1,q2,_⟩:=hl' (hr.br i e _ he hH).1.symm
  exact q2
 | _=>trivial
theorem apre_of {op:Op} {ao:AOp} (h:COp P op ao) (hρ:OR X E w ρ ρc) (hr:HR X E w H):apre ao ρ H:=by
 cases ao with
 | app sz bytes x y =>
  obtain ⟨x0,y0,h1,h2⟩:=cOp_app h
  exact ⟨(hρ.rel x0 x h1).preLen hr,(hρ.rel y0 y h2).preLen hr⟩
 | _=>trivial
def AOp.isSnil:AOp→Bool
 | .snil ..=>true
 | _=>false
theorem ins_sound {E0:Env} {w0:World} {n:NF} {k:Nat} {ops:Array Oper} {i:AIns} {Q:Exit→Act→World→Prop} {K:Tm→AHeap→Prop} {T:Tm} {a:Act} (hi:cIns P an n ops o=some i) (hk:ops[k]?=some o)
  (hw:Region.wanted o (yielded ops a.tmps)=true) (hs:St X E0 w0 n T H a w) (h:runIns P false i K T H):wpOp P ops Q k (fun a w=>∃ T H,K T H∧St X E0 w0 n T H a w) a w:=by
 obtain ⟨c1,c2,c3,c4⟩:=cIns_spec hi
 obtain ⟨E,hev,hr,ht,hn,hd⟩:=hs
 have hρ:=OR.of ht
 unfold wpOp
 simp only [hk,hw,if_true]
 refine .inl ?_
 unfold Oper.wp
 have hdst:∀ d,o.dst=some d→d<a.tmps.size:=fun d h=>by rw [hn];exact c4 d h
 by_cases hcall:i.op.isCall=true
 ·obtain ⟨f,args,g,as,⟨f0,args0,ats,ho,hf,hargs⟩,hca,h⟩:∃ f args g as,(∃ f0 args0 ats,o.op=.call { callee:=.value f0,args:=args0,argTypes:=ats }∧cOpd f0=some f∧cOpds args0.toList=some args)∧callArgs T f args=some (g,as)∧FT P g as H fun rv H'=>K (put T i.dst rv) H':=by
   obtain ⟨dst,op,gd⟩:=i
   cases op<;>first|(cases hcall;done)|skip
   rotate_right
   ·unfold runIns at h
    simp only at h
    split at h
    ·simp at h
    ·cases h
   all_goals
    rename_i f args
    unfold runIns at h
    simp only at h c1 c3
    split at h
    ·rename_i g as hca
     simp only [Bool.false_eq_true,if_false] at h
     exact ⟨f,args,g,as,by first|exact cOp_call c1|exact cOp_callh c1,hca,h⟩
    ·cases h
  unfold callArgs at hca
  split at hca
  ·rename_i g' first cap hfe
   simp at hca
   obtain ⟨rfl,rfl⟩:=hca
   have hvf:=hρ.rel f0 f hf
   rw [hfe] at hvf
   obtain ⟨first',cap',e1,e2,e3,e4,e5⟩:∃ first' cap':Array Value,a.eval f0=.func (.func g') first' cap'∧first'.size=first.length∧cap'.size=cap.length∧(∀ j (hj:j<first.length) (hj':j<first'.size),VR X E w first[j] first'[j])∧∀ j (hj:j<cap.length) (hj':j<cap'.size),VR X E w cap[j] cap'[j]:=by
    generalize a.eval f0=u at hvf
    cases hvf with
    | fn _ _ _ fs' cs' h1 h2 h3 h4=>exact ⟨fs',cs',rfl,h1,h2,h3,h4⟩
   rw [call_run ho e1 h.1]
   simp only [Oper.upon]
   obtain ⟨k1,k2⟩:=cOpds_sound hρ hargs
   have hA:ArgsR X E w (first++(args.map (Opd.ev T)++cap)) (first'++args0.map a.eval++cap'):=by
    rw [←List.append_assoc]
    refine ArgsR.app (ArgsR.app ⟨e2,e4⟩ ⟨by simp [k1],fun j hj hj'=>?_⟩) ⟨e3,e5⟩
    have:=k2 j hj (by simpa using hj')
    simpa using this
   refine (h.2 X E w _ hr hA).mono ?_
   rintro e w' ⟨v,rv,E',H',rfl,hR,q1,q2,q3⟩
   obtain ⟨t1,t2,t3⟩:=put_tr (dst:=o.dst) (ht.mono q3) hdst q1
   exact ⟨_,H',hR,E',hev.trans q3,q2,by rw [c3];exact t1,by rw [t2];exact hn,by rw [t3];exact n.mono q3 hd⟩
  ·cases hca
 ·have hcall:i.op.isCall=false:=by simpa using hcall
  by_cases hsn:i.op.isSnil=true
  ·obtain ⟨dst,op,gd⟩:=i
   cases op<;>first|(cases hsn;done)|skip
   rename_i neg x
   unfold runIns at h
   simp only at h c1 c3
   split at h
   ·rename_i p hp
    obtain ⟨t,x0,ty,el,ho,hx0,hel⟩:=cOp_snil c1
    obtain ⟨b,hb,E',w',nx,v,r1,r2,r3,r4,r5⟩:=S_snil ho hx0 (hρ.cst _) hel hp hρ hr
    rw [r1]
    obtain ⟨t1,t2,t3⟩:=put_tr (dst:=o.dst) (ht.mono r5) hdst r3
    have fin:∃ T H,K T H∧St X E0 w0 n T H (a.put o.dst v) w':=⟨_,H,h.2 b hb,E',hev.trans r5,r4,by rw [c3];exact t1,by rw [t2];exact hn,by rw [t3];exact n.mono r5 hd⟩
    rcases r2 with rfl|⟨rfl,rfl⟩
    ·exact fin
    ·exact fin
   ·cases h
  have hsn:i.op.isSnil=false:=by simpa using hsn
  have hpre:apre i.op (Opd.ev T) H:=apre_of c1 hρ hr
  have h':∃ v H',aop i.op (Opd.ev T) H=some (v,H')∧(asm i.op (Opd.ev T)→K (put T i.dst v) H'):=by
   unfold runIns at h
   split at h
   ·rename_i neg x hh
    rw [hh] at hsn
    cases hsn
   ·rename_i f args hh
    rw [hh] at hcall
    cases hcall
   ·rename_i f args hh
    rw [hh] at hcall
    cases hcall
   ·rename_i k j f args hh
    rw [hh] at hcall
    cases hcall
   ·have h:=h hpre
    split at h
    ·rename_i v H' hh
     exact ⟨v,H',hh,h⟩
    ·cases h
  obtain ⟨av,H',hav,hK⟩:=h'
  obtain ⟨⟨E',w',nx,v,r1,r2,r3,r4,r5⟩,hasm⟩:=op_soundO c1 hcall hav hρ hr
  rw [r1]
  obtain ⟨t1,t2,t3⟩:=put_tr (dst:=o.dst) (ht.mono r5) hdst r3
  have fin:∃ T H,K T H∧St X E0 w0 n T H (a.put o.dst v) w':=⟨_,H',hK hasm,E',hev.trans r5,r4,by rw [c3];exact t1,by rw [t2];exact hn,by rw [t3];exact n.mono r5 hd⟩
  rcases r2 with rfl|⟨rfl,rfl⟩
  ·exact fin
  ·exact fin
end Go.AM
namespace Go.AM
set_option linter.unusedVariables false
set_option linter.unusedSimpArgs false
variable {P:Program} {X:Nat→Prop} {E:Env} {w:World} {H:AHeap} {ρ:Opd→AV} {ρc:Operand→Value} {o:Oper}
variable {an:An}
theorem ops_sound {E0:Env} {w0:World} {n:NF} {ops:Array Oper} {K:Tm→AHeap→Prop} {Q:Exit→Act→World→Prop} (hQ:∀ T H a w,K T H→St X E0 w0 n T H a w→Q .normal a w) :
  ∀ (is:List AIns) (os:List Oper) (ks:List Nat) (T:Tm) (H:AHeap) (a:Act) (w:World),os.mapM (cIns P an n ops)=some is→ks.map (ops[·]?)=os.map some→St X E0 w0 n T H a w→runOps P false is K T H→wpOps P ops Q ks a w
 | is,[],ks,T,H,a,w,hm,hk,hs,h=>by
  simp at hm hk
  subst hm hk
  exact hQ T H a w h hs
 | is,o::os,[],T,H,a,w,hm,hk,hs,h=>by simp at hk
 | is,o::os,k::ks,T,H,a,w,hm,hk,hs,h=>by
  rw [List.mapM_cons] at hm
  simp only [bind,Option.bind_eq_some_iff,pure,Option.some.injEq] at hm
  obtain ⟨i,hi,is',hm',rfl⟩:=hm
  simp only [List.map_cons,List.cons.injEq] at hk
  obtain ⟨hk1,hk2⟩:=hk
  rw [wpOps_cons]
  have c:=cIns_spec hi
  have hg:(i.guard=none→Region.wanted o (yielded ops a.tmps)=true)∧(∀ g want b,i.guard=some (g,want)→T.get g=.bool b→Region.wanted o (yielded ops a.tmps)=(b==want))∧∀ g want,i.guard=some (g,want)→T.get g=.tuple []→Region.wanted o (yielded ops a.tmps)=false:=by
   obtain ⟨E,hev,hr,ht,hn,hd⟩:=hs
   exact guard_run ht c.2.1
  have go:∀ (T':Tm),(∀ k,T'.get k=T.get k)→∀ (hw:Region.wanted o (yielded ops a.tmps)=true),runIns P false i (runOps P false is' K) T' H→wpOp P ops Q k (wpOps P ops Q ks) a w:=fun T' hT' hw hrun =>
   wpOp_mono (fun a w ⟨T,H,hK,hS⟩=>ops_sound hQ is' os ks T H a w hm' hk2 hS hK) (ins_sound hi hk1 hw (by
    obtain ⟨E,hev,hr,ht,hn,hd⟩:=hs
    exact ⟨E,hev,hr,⟨fun k=>by rw [hT'];exact ht.rel k⟩,hn,hd⟩) hrun)
  have skip:∀ (T':Tm),(∀ k,T'.get k=T.get k)→∀ (hw:Region.wanted o (yielded ops a.tmps)=false),runOps P false is' K (put T' i.dst (.tuple [])) H→wpOp P ops Q k (wpOps P ops Q ks) a w:=by
   intro T' hT' hw' h2
   unfold wpOp
   simp only [hk1,hw',Bool.false_eq_true,if_false]
   obtain ⟨E,hev,hr,ht,hn,hd⟩:=hs
   have ht':TR X E w T' a.tmps:=⟨fun k=>by rw [hT'];exact ht.rel k⟩
   obtain ⟨t1,t2,t3⟩:=put_tr (dst:=o.dst) (v:=undef) ht' (fun d h=>by rw [hn];exact c.2.2.2 d h) undefR
   rw [←c.2.2.1] at t1 t2 t3 ⊢
   exact ops_sound hQ is' os ks _ H _ w hm' hk2 ⟨E,hev,hr,t1,by rw [t2];exact hn,by rw [t3];exact hd⟩ h2
  simp only [runOps] at h
  split at h
  ·rename_i hgn
   exact go T (fun _=>rfl) (hg.1 hgn) h
  ·rename_i g want hgs
   split at h
   ·rename_i b hb
    have hw:=hg.2.1 g want b hgs hb
    by_cases hbw:b=want
    ·subst hbw
     exact go _ (get_same hb) (by rw [hw];simp) (h.1 rfl)
    ·have hbn:b=!want:=by cases b<;>cases want<;>simp at hbw ⊢
     subst hbn
     exact skip _ (get_same hb) (by rw [hw];simp) (h.2 hbw)
   ·rename_i vs hb
    obtain ⟨rfl,h⟩:=h
    exact skip T (fun _=>rfl) (hg.2.2 g want hgs hb) h
   ·cases h
def flatY:AV→Bool
 | .any|.bool _|.int ..|.str _|.nilFunc|.nilIface|.nilPtr|.nilMap|.nilS=>true
 | .agg cs=>go cs
 | _=>false
where go:List AV→Bool
 | []=>true
 | c::cs=>flatY c&&go cs
def SeqA (P:Program) (g:FuncId) (cap:List AV) (N:Nat) (enc:Nat→List AV) (I:Nat→AHeap→Prop):Prop :=
 Callable P g∧∀ (X:Nat→Prop) (caps:Array Value) (l:Nat) (J:Nat→World→Prop) (Jx:World→Prop) (W:World),
  (∀ k W W',J k W→Ev [] W [] W'→J k W')→(∀ W W',Jx W→Ev [] W [] W'→Jx W') →
  (∀ k W,J k W→∃ E H,HR X E W H∧I k H∧ArgsR X E W cap caps) →
  (∀ k W args,k<N→J k W→ArgsR X [] W (enc k) args→YieldAt Fence.wide 0 P l args W fun e W'=>(e=.returned (.bool true)∧J (k+1) W')∨(e=.returned (.bool false)∧Jx W')) →
  J 0 W→Calls P g (#[.func (.yield l) #[] #[]]++caps) W fun e W'=>(∃ v,e=.returned v)∧(J N W'∨Jx W')
def putps (T:Tm):List Nat→List AV→Tm
 | p::ps,v::vs=>putps ((p,v)::T) ps vs
 | _,_=>T
inductive ACode where
 | skip
 | mark
 | reg (draw:Bool) (ops:List AIns)
 | regD (ops:List AIns) (prs:List (AIns×AIns))
 | stuck
 | seq (a b:ACode)
 | cond (c:Opd) (a b:ACode)
 | block (id:Nat) (a:ACode)
 | loop (a:ACode)
 | exit (id:Nat)
 | ret
 | range (f:Opd) (ps:List Nat) (a b:ACode)
 deriving Inhabited
inductive AEx where
 | normal
 | exit (id:Nat)
 | ret
 deriving DecidableEq
def apartB (n m:Nat):AV→AV→Bool
 | .ptr i _ o,.ptr j _ p=>i != j||decide (o+n≤p)||decide (p+m≤o)
 | .rptr _,.ptr ..=>true
 | .ptr ..,.rptr _=>true
 | _,_=>false
def refA:AV→Option Nat
 | .ptr i _ _=>some i
 | .loc i ..=>some i
 | _=>none
def apartS (a b:AV):Bool :=
 match refA a,refA b with
 | some i,some j=>i != j
 | _,_=>true
def aliveRd:AOp→Option Opd
 | .fa _ x|.ia _ x _|.iarr _ _ x _|.nilc x|.len x|.slc _ x _ _ _=>some x
 | _=>none
def indB (x y:AOp) (ρ:Opd→AV):Bool :=
 match x,y with
 | .load n _ a,.store m b _=>apartB (max n 1) m (ρ a) (ρ b)
 | .store n a _,.load m _ b=>apartB n (max m 1) (ρ a) (ρ b)
 | .store n a _,.store m b _=>apartB n m (ρ a) (ρ b)
 | .load _ _ a,.app _ _ b y=>apartS (ρ a) (ρ b)
 | .store _ a _,.app _ _ b y=>apartS (ρ a) (ρ b)&&apartS (ρ a) (ρ y)
 | .calla k j _ _,.calla k' j' _ _=>k*10+j != k'*10+j'
 | .load ..,.calla ..=>true
 | .store ..,.calla ..=>true
 | .calla k j _ _,.load _ _ a=>refA (ρ a) != some (k*10+j)
 | .calla k j _ _,.store _ a _=>refA (ρ a) != some (k*10+j)
 | .calla k j _ _,y=>match aliveRd y with
  | some a=>refA (ρ a) != some (k*10+j)
  | none=>false
 | x,.calla ..=>(aliveRd x).isSome
 | .store ..,y=>(aliveRd y).isSome
 | x,.store ..=>(aliveRd x).isSome
 | x,.app _ _ b y=>match aliveRd x with
  | some a=>apartS (ρ a) (ρ b)
  | none=>false
 | _,_=>false
def disP (prs:List (AIns×AIns)) (T:Tm):Prop:=match prs with
 | []=>True
 | (x,y)::ps=>indB x.op y.op (Opd.ev T)=true∧disP ps T
def Wk (lo:Nat) (T:Tm) (H:AHeap) (T':Tm) (H':AHeap):Prop :=
 ∀ (X:Nat→Prop) (E0:Env) (w0:World) (n:NF) (a:Act) (w:World),E0.length≤lo∧n.lo≤lo→St X E0 w0 n T H a w→St X E0 w0 n T' H' a w
def run (P:Program) (lo:Nat):ACode→(AEx→Tm→AHeap→Prop)→Tm→AHeap→Prop
 | .skip,K,T,H=>K .normal T H
 | .mark,K,T,H=>∃ T' H',Wk lo T H T' H'∧K .normal T' H'
 | .reg d ops,K,T,H=>runOps P d ops (K .normal) T H
 | .regD ops prs,K,T,H=>runOps P true ops (fun T H=>disP prs T∧K .normal T H) T H
 | .stuck,K,T,H=>False
 | .seq a b,K,T,H=>run P lo a (fun e=>match e with
  | .normal=>run P lo b K
  | e=>K e) T H
 | .cond c a b,K,T,H=>match c.ev T with
  | .bool t=>(t=true→run P lo a K T H)∧(t=false→run P lo b K T H)
  | _=>False
 | .block id a,K,T,H=>run P lo a (fun e=>match e with
  | .exit id'=>if id'=id then K .normal else K (.exit id')
  | e=>K e) T H
 | .loop a,K,T,H=>∃ (I:Nat→Tm→AHeap→Prop) (n:Nat),(∃ T' H',Wk lo T H T' H'∧I n T' H') ∧
   ∀ n T H,I n T H→run P lo a (fun e=>match e with
    | .normal=>fun T' H'=>∃ m T'' H'',m<n∧Wk lo T' H' T'' H''∧I m T'' H''
    | e=>K e) T H
 | .exit id,K,T,H=>K (.exit id) T H
 | .ret,K,T,H=>K .ret T H
 | .range f ps a b,K,T,H=>∃ (g:FuncId) (cap:List AV) (N:Nat) (enc:Nat→List AV) (I:Nat→AHeap→Prop) (lo':Nat),lo≤lo'∧(∀ p∈T,RL lo' p.2)∧(∀ v∈cap,RL lo' v) ∧
   f.ev T=.fn (.func g) [] cap∧SeqA P g cap N enc I∧(∀ k,k<N→(enc k).length=ps.length∧flatY.go (enc k)=true)∧I 0 H ∧
   (∀ k H1,k<N→I k H1→run P lo' a (fun e T2 H2=>e=.normal∧run P lo' b (fun e=>match e with
    | .normal=>fun _ H3=>∃ H4,Wk lo' T H3 T H4∧I (k+1) H4
    | e=>fun _ H3=>K e T H3) T2 H2) (putps T ps (enc k)) H1) ∧
   (∀ H1,I N H1→K .normal T H1)
def Qf (X:Nat→Prop) (E0:Env) (w0:World) (n:NF) (K:AEx→Tm→AHeap→Prop):Exit→Act→World→Prop
 | .normal,a,w=>∃ T H,K .normal T H∧St X E0 w0 n T H a w
 | .exit id,a,w=>∃ T H,K (.exit id) T H∧St X E0 w0 n T H a w
 | .ret,a,w=>∃ T H,K .ret T H∧St X E0 w0 n T H a w
 | _,_,_=>False
def mapMo {α β:Type} (f:α→Option β):List α→Option (List β)
 | []=>some []
 | a::as=>match f a,mapMo f as with
  | some b,some bs=>some (b::bs)
  | _,_=>none
theorem mapMo_eq {α β:Type} (f:α→Option β):∀ l,mapMo f l=l.mapM f
 | []=>rfl
 | a::as=>by
  rw [List.mapM_cons,mapMo,mapMo_eq f as]
  cases f a<;>cases as.mapM f<;>rfl
def RegW (P:Program) (ops:Array Oper) (draw:Bool) (Q:Exit→Act→World→Prop) (a:Act) (w:World):Prop :=
 (draw=true→∀ t,wpOps P ops Q (Region.schedule (P.follows .mixedOrders) ops t) a { w with drawn:=w.drawn+1 })∧(draw=false→wpOps P ops Q (List.range ops.size) a w)
theorem RegW.any {P:Program} {ops:Array Oper} {Q:Exit→Act→World→Prop} {a:Act} {w:World} (hm:P.follows .mixedOrders=true)
  (h:wpAny P .any ops Q ops.size (Array.replicate ops.size false) a { w with drawn:=w.drawn+1 }):RegW P ops true Q a w :=
 ⟨fun _ t=>by
  simp only [Region.schedule,hm,Bool.true_or,if_true]
  exact wpAny_sound ops.size t _ a _ h,fun h=>by cases h⟩
def FOk (F:Fence):Prop:=F=Fence.wide∨∃ l,F=Fence.wide.inRound l
def isDefer:Op→Bool
 | .defer _=>true
 | _=>false
theorem calls_F {F:Fence} (hF:FOk F) {n:Nat} {P:Program} {f:FuncId} {args:Array Value} {w:World} {R:Ending→World→Prop} (h:Calls P f args w R):CallsIn F n P f args w R:=by
 rcases hF with rfl|⟨l,rfl⟩
 ·exact callsIn_wide.2 h
 ·exact CallsIn.inRound l (callsIn_wide.2 h)
theorem rows_F {F:Fence} (hF:FOk F) {n:Nat} {P:Program} {row:String} {args:Array Value} {w:World} {R:Value→World→Prop} (h:Rows P row args w R):RowsIn F n P row args w R:=by
 rcases hF with rfl|⟨l,rfl⟩
 ·exact fun c cs _=>let ⟨v,w',r,s⟩:=h c cs;⟨v,w',r,stepsIn_wide.2 s⟩
 ·exact fun c cs _=>let ⟨v,w',r,s⟩:=h c cs;⟨v,w',r,stepsIn_wide.2 s⟩
theorem op_F {F:Fence} (hF:FOk F) {n:Nat} {P:Program} {o:Oper} {a:Act} {w:World} {K:Act→World→Prop} {Q:Exit→Act→World→Prop} (hd:F.round=none∨isDefer o.op=false) (h:o.wp P a w K Q):o.wpIn F n P a w K Q:=by
 have hfn:∀ f,F.fn f:=by
  rcases hF with rfl|⟨l,rfl⟩<;>exact fun _=>trivial
 have hdep:F.depth=none:=by rcases hF with rfl|⟨l,rfl⟩<;>rfl
 have hsem:o.semAt F.round a.eval=execOp a.eval o:=by
  rcases hd with hd|hd
  ·rw [hd];rfl
  ·exact Oper.semAt_eq _ _ _ fun c hc=>by rw [hc] at hd;cases hd
 refine ⟨fun f _=>hfn f,?_⟩
 rw [hsem]
 unfold Oper.wp at h
 generalize (execOp a.eval o).run P w=r at *
 cases r with
 | ok x w' =>
  cases x<;>simp only [Oper.upon,Oper.uponIn] at h ⊢ <;>
   first
    | exact h
    | exact ⟨fun h=>by simp [hdep] at h,CallsIn.mono (calls_F hF h) (fun e w'' he=>by cases e<;>exact he)⟩
    | exact ⟨fun h=>by simp [hdep] at h,RowsIn.mono (rows_F hF h) (fun _ _ he=>he)⟩
    | exact h.elim
 | halt x w'=>cases x<;>simp only [Oper.upon,Oper.uponIn] at h ⊢<;>exact h
theorem ops_F {F:Fence} (hF:FOk F) {n:Nat} {P:Program} {ops:Array Oper} {Q:Exit→Act→World→Prop} (hQ:¬ LetsOut Q) (hd:F.round=none∨ops.all (fun o=>!isDefer o.op)=true):∀ (l:List Nat) (a:Act) (w:World),wpOps P ops Q l a w→wpOpsIn F n P ops Q l a w
 | [],a,w,h=>h
 | i::l,a,w,h=>by
  rw [wpOps_cons] at h
  rw [wpOpsIn_cons]
  unfold wpOp at h
  unfold wpOpIn
  have hfn:∀ f,F.fn f:=by
   rcases hF with rfl|⟨l,rfl⟩<;>exact fun _=>trivial
  cases ho:ops[i]? with
  | none =>
   rw [ho] at h
   exact ops_F hF hQ hd l a w h
  | some o =>
   rw [ho] at h
   simp only at h ⊢
   have hd':F.round=none∨isDefer o.op=false:=hd.imp id fun hd=>by
    have hlt:i<ops.size:=by
     rcases Nat.lt_or_ge i ops.size with h'|h'
     ·exact h'
     ·rw [Array.getElem?_eq_none h'] at ho;cases ho
    have e:ops[i]=o:=by rw [Array.getElem?_eq_getElem hlt] at ho;injection ho
    have:=(Array.all_eq_true.1 hd) i hlt
    rw [e] at this
    simpa using this
   split at h
   ·rename_i hw
    rw [if_pos hw]
    rcases h with h|h
    ·exact Oper.wpIn_mono (fun a w h=>ops_F hF hQ hd l a w h) (op_F hF hd' h)
    ·exact (hQ h.2).elim
   ·rename_i hw
    rw [if_neg hw]
    exact ⟨fun f _=>hfn f,ops_F hF hQ hd l _ _ h⟩
theorem RegW.wpIn {F:Fence} (hF:FOk F) {n:Nat} {P:Program} {ops:Array Oper} {Q:Exit→Act→World→Prop} (hQ:¬ LetsOut Q) (hd:F.round=none∨ops.all (fun o=>!isDefer o.op)=true) {draw:Bool} {id:Nat} {a:Act} {w:World}
  (h:RegW P ops draw Q a w):(Code.region id ops draw).wpIn F n P Q a w:=by
 cases draw with
 | true=>exact wpIn_region_draw fun t=>ops_F hF hQ hd _ _ _ (h.1 rfl t)
 | false=>exact wpIn_region (ops_F hF hQ hd _ _ _ (h.2 rfl))
def DrawOk (P:Program) (n:NF) (ops:Array Oper) (is:List AIns):Prop :=
 ∀ (X:Nat→Prop) (E0:Env) (w0:World) (K:Tm→AHeap→Prop) (T:Tm) (H:AHeap) (a:Act) (w:World) (id:Nat) (Q:Exit→Act→World→Prop),
  (∀ T H a w,K T H→St X E0 w0 n T H a w→Q .normal a w)→St X E0 w0 n T H a w→runOps P true is K T H→RegW P ops true Q a w
end Go.AM
namespace Go.AM
set_option linter.unusedVariables false
set_option linter.unusedSimpArgs false
variable {P:Program} {X:Nat→Prop} {E:Env} {w:World} {H:AHeap}
theorem VR.re {X X':Nat→Prop} {E E':Env} (hX:∀ B,Lone X E B→Lone X' E' B) {av:AV} {v:Value} (hv:VR X E w av v) (hn:RL 0 av):VR X' E' w av v:=by
 induction hv with
 | any v=>exact .any v
 | bool b=>exact .bool b
 | int k n=>exact .int k n
 | str s hs=>exact .str s hs
 | nilFunc=>exact .nilFunc
 | nilIface=>exact .nilIface
 | nilPtr=>exact .nilPtr
 | nilMap=>exact .nilMap
 | nilS=>exact .nilS
 | rows clip sz es a c ad f hn' hc hclip hsz ha hL hcell _ ih =>
  simp at hn
  exact .rows clip sz es a c ad f hn' hc hclip hsz ha (fun h0 hz=>hX _ (hL h0 hz)) hcell
   (fun i hi j hj=>ih i hi j hj (hn _ (List.getElem_mem _) _ (List.getElem_mem _)))
 | loc i g off len sz clip e v he ho hg hl=>simp at hn
 | ptr i g off e v he ho hg hl=>simp at hn
 | rptr cs ad f hL hcell _ ih =>
  simp at hn
  exact .rptr cs ad f (fun h0=>hX _ (hL h0)) hcell (fun j hj=>ih j hj (hn _ (List.getElem_mem _)))
 | mapr i g e v he ho hg hl=>simp at hn
 | fn f fs cs fs' cs' h1 h2 _ _ ih1 ih2 =>
  simp at hn
  exact .fn f fs cs fs' cs' h1 h2 (fun j hj hj'=>ih1 j hj hj' (hn.1 _ (List.getElem_mem _))) (fun j hj hj'=>ih2 j hj hj' (hn.2 _ (List.getElem_mem _)))
 | iface t v u _ ih=>simp at hn;exact .iface t v u (ih hn)
 | agg cs vs h1 _ ih=>simp at hn;exact .agg cs vs h1 (fun j hj hj'=>ih j hj hj' (hn _ (List.getElem_mem _)))
 | tuple cs vs h1 _ ih=>simp at hn;exact .tuple cs vs h1 (fun j hj hj'=>ih j hj hj' (hn _ (List.getElem_mem _)))
theorem PFA.fill {f:FuncId} {as cs:List AV} {len sz s g0:Nat} {c:Bool} (h:PFA P f as len sz c cs) (hs:H[s]?=some (.dead g0)) :
  FT P f as H fun rv H'=>rv=.loc s (g0+1) 0 len sz c∧H'=H.set s (.cells (g0+1) cs):=by
 obtain ⟨ha,hcs,hcl,hft⟩:=h
 refine ⟨hcl,fun X E w vals hr hA=>?_⟩
 have hr0:HR (fun B=>X B∨Own E B) [] w []:=⟨rfl,fun i j ei ej B h=>by simp at h,fun i e B h=>by simp at h,fun i e b h=>by simp at h,fun B hB=>hB.elim (hr.bound B) hr.own_lt⟩
 have hA0:ArgsR (fun B=>X B∨Own E B) [] w as vals:=⟨hA.1,fun j hj hj'=>(hA.2 j hj hj').frame (ha _ (List.getElem_mem _))⟩
 refine (hft _ _ _ _ hr0 hA0).mono ?_
 rintro e w' ⟨v,rv,E',H',rfl,⟨rfl,rfl⟩,k1,k2,k3⟩
 obtain ⟨e0,rfl⟩:∃ e0,E'=[e0]:=by
  have:=k2.len
  match E',this with
  | [e0],_=>exact ⟨e0,rfl⟩
 have hsl:s<H.length:=lt_of_get hs
 have hsE:s<E.length:=by rw [hr.len];exact hsl
 obtain ⟨es,hes⟩:∃ es,E[s]?=some es:=⟨_,List.getElem?_eq_getElem hsE⟩
 have hbs:=hr.br s es _ hes hs
 obtain ⟨hg,hlv⟩:es.gen=g0∧es.live=false:=hbs
 have hb0:=k2.br 0 e0 (.cells 0 cs) rfl rfl
 obtain ⟨b1,b2,b3,b4⟩:e0.gen=0∧e0.live=true∧(e0.blk=none→cs=[])∧_:=hb0
 have hkeep:∀ B,B<w.heap.size→w'.heap[B]?=w.heap[B]?:=fun B hB=>k3.keep B hB (fun ⟨e,he,_⟩=>by cases he)
 have hnew:∀ B,e0.blk=some B→w.heap.size≤B:=by
  intro B hB
  rcases k3.own B ⟨e0,by simp,b2,hB⟩ with ⟨e,he,_⟩|h
  ·cases he
  ·exact h
 have hown:∀ B,Own (E.set s { e0 with gen:=g0+1 }) B→Own E B∨e0.blk=some B:=by
  rintro B ⟨e,he,h1,h2⟩
  rcases List.mem_or_eq_of_mem_set he with he|rfl
  ·exact .inl ⟨e,he,h1,h2⟩
  ·exact .inr h2
 have hev:Ev E w (E.set s { e0 with gen:=g0+1 }) w':=by
  refine ⟨k3.os,k3.tape,k3.output,k3.size,fun B hB _=>hkeep B hB,fun B hB=>(hown B hB).imp id (hnew B),fun i e hi=>?_,k3.draw⟩
  by_cases his:s=i
  ·subst his
   rw [hes] at hi
   injection hi with hi
   subst hi
   exact ⟨_,List.getElem?_set_self hsE,by simp [hg],fun h=>by simp [hg] at h⟩
  ·exact ⟨e,by rw [List.getElem?_set_ne his];exact hi,Nat.le_refl _,fun _=>⟨rfl,rfl,rfl⟩⟩
 have hlone:∀ B,Lone (fun B=>X B∨Own E B) [e0] B→Lone X (E.set s { e0 with gen:=g0+1 }) B:=by
  rintro B ⟨h1,h2⟩
  refine ⟨fun h=>h1 (.inl h),fun h=>?_⟩
  rcases hown B h with h|h
  ·exact h1 (.inr h)
  ·exact h2 ⟨e0,by simp,b2,h⟩
 refine ⟨v,_,E.set s { e0 with gen:=g0+1 },_,rfl,⟨rfl,rfl⟩,?_,?_,hev⟩
 ·cases k1 with
  | loc _ _ _ _ _ _ e1 _ he h1 hg1 hl1 =>
   simp at he
   subst he
   exact .loc s (g0+1) 0 len sz c _ v (List.getElem?_set_self hsE) h1 (Nat.le_refl _) (fun _=>hl1 b1.symm)
 ·refine ⟨by simp [hr.len],fun i j ei ej B h1 h2 h3 h4 h5 h6=>?_,fun i e B h1 h2 h3=>?_,fun i e b h1 h2=>?_,fun B hB=>Nat.lt_of_lt_of_le (hr.bound B hB) k3.size⟩
  ·have key:∀ k ek,(E.set s { e0 with gen:=g0+1 })[k]?=some ek→ek.live=true→ek.blk=some B→(s≠k∧E[k]?=some ek∧B<w.heap.size)∨(s=k∧w.heap.size≤B):=by
    intro k ek hk hl hbk
    by_cases hsk:s=k
    ·subst hsk
     rw [List.getElem?_set_self hsE] at hk
     injection hk with hk
     subst hk
     exact .inr ⟨rfl,hnew B hbk⟩
    ·rw [List.getElem?_set_ne hsk] at hk
     exact .inl ⟨hsk,hk,(hr.own k ek B hk hl hbk).2⟩
   rcases key i ei h1 h3 h5 with ⟨a1,a2,a3⟩|⟨a1,a2⟩<;>rcases key j ej h2 h4 h6 with ⟨c1,c2,c3⟩|⟨c1,c2⟩
   ·exact hr.inj i j ei ej B a2 c2 h3 h4 h5 h6
   ·omega
   ·omega
   ·omega
  ·by_cases hsk:s=i
   ·subst hsk
    rw [List.getElem?_set_self hsE] at h1
    injection h1 with h1
    subst h1
    have:=k2.own 0 e0 B rfl b2 h3
    exact ⟨fun h=>this.1 (.inl h),this.2⟩
   ·rw [List.getElem?_set_ne hsk] at h1
    have:=hr.own i e B h1 h2 h3
    exact ⟨this.1,Nat.lt_of_lt_of_le this.2 k3.size⟩
  ·by_cases hsk:s=i
   ·subst hsk
    rw [List.getElem?_set_self hsE] at h1
    rw [List.getElem?_set_self hsl] at h2
    injection h1 with h1
    injection h2 with h2
    subst h1 h2
    refine ⟨rfl,b2,b3,fun B hB=>?_⟩
    obtain ⟨arr,t,lo,hi,q1,q2,q3,q4,q5⟩:=b4 B hB
    refine ⟨arr,t,lo,hi,q1,q2,q3,q4,fun j hj=>?_⟩
    obtain ⟨u,u1,u2⟩:=q5 j hj
    exact ⟨u,u1,u2.re hlone (hcs _ (List.getElem_mem _))⟩
   ·rw [List.getElem?_set_ne hsk] at h1 h2
    exact (hr.br i e b h1 h2).mono hev (fun B hl hb=>hkeep B (hr.own i e B h1 hl hb).2)
end Go.AM
namespace Go.AM
set_option linter.unusedVariables false
set_option linter.unusedSimpArgs false
variable {P:Program} {X:Nat→Prop} {E:Env} {w:World} {H:AHeap} {ρ:Opd→AV} {ρc:Operand→Value} {o:Oper}
variable {an:An}
def AOp.opds:AOp→List Opd
 | .mov x|.box x|.load _ _ x|.not x|.neg x|.cint _ x|.cid x|.b2s x|.s2b x|.mkif _ x|.fa _ x|.fld _ _ _ x|.ext x _|.len x|.lens x|.nilc x|.isnil _ _ x|.snil _ x=>[x]
 | .pick c a b=>[c,a,b]
 | .alloc _|.mkmap=>[]
 | .build _ ps=>ps.map (·.2.2)
 | .bslice _ _ _ ps|.bsloc _ _ _ ps=>ps.map (·.2)
 | .store _ a v=>[a,v]
 | .bin _ x y|.eqa _ _ _ x y|.mksl _ _ _ x y|.ia _ x y|.iarr _ _ x y|.idx _ _ _ x y|.idxs x y|.lkp _ _ _ x y _|.app _ _ x y|.appc _ _ x y|.cpy _ x y|.mx x y|.mn x y=>[x,y]
 | .mkfn _ xs ys=>xs++ys
 | .slc _ x lo hi m0=>x::(lo.toList++hi.toList++m0.toList)
 | .slstr x lo hi=>x::(lo.toList++hi.toList)
 | .upd _ _ m k v=>[m,k,v]
 | .call f as|.callh f as|.calla _ _ f as=>f::as
theorem bldParts_congr {ρ ρ':Opd→AV}:∀ (ps:List (Nat×Nat×Opd)) (cs:List AV),(∀ x∈ps.map (·.2.2),ρ x=ρ' x)→bldParts ρ cs ps=bldParts ρ' cs ps
 | [],cs,h=>rfl
 | (off,size,x)::ps,cs,h=>by
  simp only [bldParts,h x (by simp)]
  split
  ·split
   ·exact bldParts_congr ps _ (fun y hy=>h y (by simp at hy ⊢;exact .inr hy))
   ·rfl
  ·rfl
theorem bslParts_congr {ρ ρ':Opd→AV} {sz:Nat}:∀ (ps:List (Nat×Opd)) (es:List (List AV)),(∀ x∈ps.map (·.2),ρ x=ρ' x)→bslParts ρ sz es ps=bslParts ρ' sz es ps
 | [],es,h=>rfl
 | (i,x)::ps,es,h=>by
  simp only [bslParts,h x (by simp)]
  split
  ·split
   ·exact bslParts_congr ps _ (fun y hy=>h y (by simp at hy ⊢;exact .inr hy))
   ·rfl
  ·rfl
theorem abound_congr {ρ ρ':Opd→AV} {m d:Nat} {x:Option Opd} (h:∀ y∈x.toList,ρ y=ρ' y):abound ρ m d x=abound ρ' m d x:=by
 cases x with
 | none=>rfl
 | some y=>simp only [abound,h y (by simp)]
theorem aop_congr {ρ ρ':Opd→AV} (op:AOp) (H:AHeap) (h:∀ x∈op.opds,ρ x=ρ' x):aop op ρ H=aop op ρ' H:=by
 cases op with
 | build zero ps=>simp only [aop,bldParts_congr ps zero h]
 | bslice sz len zero ps=>simp only [aop,bslParts_congr ps _ h]
 | bsloc sz len zero ps=>simp only [aop,bslParts_congr ps _ h]
 | slc sz x lo hi mx =>
  have hx:ρ x=ρ' x:=h x (by simp [AOp.opds])
  have h1:∀ m d,abound ρ m d lo=abound ρ' m d lo:=fun m d=>abound_congr (fun y hy=>h y (by simp [AOp.opds] at hy ⊢;simp [hy]))
  have h2:∀ m d,abound ρ m d hi=abound ρ' m d hi:=fun m d=>abound_congr (fun y hy=>h y (by simp [AOp.opds] at hy ⊢;simp [hy]))
  cases mx with
  | none=>simp only [aop,aslc,hx,h1,h2]
  | some m0 =>
   have h3:∀ m d,abound ρ m d (some m0)=abound ρ' m d (some m0):=fun m d=>abound_congr (fun y hy=>h y (by simp [AOp.opds] at hy ⊢;simp [hy]))
   simp only [aop,aslc,hx,h1,h2,h3]
 | slstr x lo hi =>
  have hx:ρ x=ρ' x:=h x (by simp [AOp.opds])
  have h1:∀ m d,abound ρ m d lo=abound ρ' m d lo:=fun m d=>abound_congr (fun y hy=>h y (by simp [AOp.opds] at hy ⊢;simp [hy]))
  have h2:∀ m d,abound ρ m d hi=abound ρ' m d hi:=fun m d=>abound_congr (fun y hy=>h y (by simp [AOp.opds] at hy ⊢;simp [hy]))
  simp only [aop,hx,h1,h2]
 | mkfn f xs ys =>
  have h1:xs.map ρ=xs.map ρ':=List.map_congr_left fun x hx=>h x (by simp [AOp.opds,hx])
  have h2:ys.map ρ=ys.map ρ':=List.map_congr_left fun x hx=>h x (by simp [AOp.opds,hx])
  simp only [aop,h1,h2]
 | _=>simp [AOp.opds] at h<;>simp [aop,h]
def AOp.noread:AOp→Bool
 | .mov _|.pick ..|.build ..|.bslice ..|.bin ..|.not _|.neg _|.cint ..|.cid _|.mkif ..|.mkfn ..|.slstr ..|.fld ..|.idx ..|.idxs ..|.ext ..|.lens _|.mx ..|.mn ..|.eqa ..|.isnil ..|.s2b _=>true
 | _=>false
theorem aop_noread_eq {op:AOp} (hn:op.noread=true) (H:AHeap):aop op ρ H=((aop op ρ []).map Prod.fst).map fun v=>(v,H):=by
 cases op<;>simp only [AOp.noread] at hn<;>first|(cases hn;done)|skip
 all_goals
  simp only [aop]
  (repeat' split)<;>simp_all
theorem aop_noread {op:AOp} {v:AV} {H':AHeap} (hn:op.noread=true) (h:aop op ρ H=some (v,H')) (H2:AHeap):aop op ρ H2=some (v,H2):=by
 rw [aop_noread_eq hn] at h ⊢
 cases h0:(aop op ρ []).map Prod.fst with
 | none=>rw [h0] at h;cases h
 | some u =>
  rw [h0] at h
  simp at h ⊢
  exact h.1
theorem get_app {H:AHeap} {b:ABlk} {i:Nat} {x:ABlk} (h:H[i]?=some x):(H++[b])[i]?=some x:=by
 rw [List.getElem?_append_left (lt_of_get h)];exact h
theorem alive_app {H:AHeap} {b:ABlk} {i g:Nat} (h:alive H i g=true):alive (H++[b]) i g=true:=by
 obtain ⟨cs,hH⟩:=alive_spec h
 simp [alive,get_app hH]
theorem aop_mono {op:AOp} {v:AV} {H':AHeap} {b:ABlk} (hp:op.pure=true) (h:aop op ρ H=some (v,H')):aop op ρ (H++[b])=some (v,H++[b]):=by
 by_cases hn:op.noread=true
 ·exact aop_noread hn h _
 cases op<;>simp only [AOp.pure,AOp.noread] at hp hn<;>first|(cases hp;done)|(exact absurd trivial hn)|(exact absurd rfl hn)|(simp only [aop] at h;cases h;done)|skip
 case load n agg x =>
  simp only [aop] at h ⊢
  split at h
  ·rename_i v' hv
   have:aload n agg (H++[b]) (ρ x)=some v':=by
    unfold aload at hv ⊢
    split at hv
    ·split at hv
     ·rename_i hH
      rw [get_app hH]
      exact hv
     ·cases hv
    ·exact hv
    ·cases hv
   rw [this]
   simp at h ⊢
   exact h.1
  ·cases h
 case slc sz x lo hi mx =>
  simp only [aop] at h ⊢
  split at h
  ·rename_i v' hv
   have:aslc (H++[b]) ρ sz x lo hi mx=some v':=by
    unfold aslc at hv ⊢
    split at hv
    ·exact hv
    ·split at hv
     ·rename_i hc
      rw [if_pos ⟨hc.1,alive_app hc.2⟩]
      exact hv
     ·cases hv
    ·exact hv
    ·cases hv
   rw [this]
   simp at h ⊢
   exact h.1
  ·cases h
 case fa off x =>
  simp only [aop] at h ⊢
  split at h
  ·split at h
   ·rename_i hal
    rw [if_pos (alive_app hal)]
    simp at h ⊢
    exact h.1
   ·cases h
  ·simp at h ⊢
   exact h.1
  ·cases h
 case ia sz x i =>
  simp only [aop] at h ⊢
  cases hx:ρ x<;>rw [hx] at h<;>simp only at h ⊢<;>first|(cases h;done)|skip
  ·rename_i cl sz' es
   cases hi:aindex es.length (ρ i) with
   | none=>rw [hi] at h;cases h
   | some k =>
    rw [hi] at h
    simp only at h ⊢
    split at h
    ·rename_i hs
     rw [if_pos hs]
     cases he:es[k]? with
     | none=>rw [he] at h;cases h
     | some e =>
      rw [he] at h
      simp at h ⊢
      exact h.1
    ·cases h
  ·rename_i j g off len sz' cl
   cases hi:aindex len (ρ i) with
   | none=>rw [hi] at h;cases h
   | some k =>
    rw [hi] at h
    simp only at h ⊢
    split at h
    ·rename_i hs
     rw [if_pos ⟨hs.1,alive_app hs.2⟩]
     simp at h ⊢
     exact h.1
    ·cases h
 case iarr len sz x i =>
  simp only [aop] at h ⊢
  cases hi:aindex len (ρ i) with
  | none=>rw [hi] at h;cases h
  | some k =>
   rw [hi] at h
   simp only at h ⊢
   cases hx:ρ x<;>rw [hx] at h<;>simp only at h ⊢<;>first|(cases h;done)|skip
   ·split at h
    ·rename_i hal
     rw [if_pos (alive_app hal)]
     simp at h ⊢
     exact h.1
    ·cases h
   ·simp at h ⊢
    exact h.1
 case len x =>
  simp only [aop] at h ⊢
  split at h
  ·rename_i n hn
   have:alen (H++[b]) (ρ x)=some n:=by
    unfold alen at hn ⊢
    split at hn
    ·exact hn
    ·split at hn
     ·rename_i hal
      rw [if_pos (alive_app hal)]
      exact hn
     ·cases hn
    ·exact hn
    ·cases hn
   rw [this]
   simp at h ⊢
   exact h.1
  ·cases h
 case b2s x =>
  simp only [aop] at h ⊢
  have hel:∀ {q},elems H (ρ x)=some q→elems (H++[b]) (ρ x)=some q:=by
   intro q hq
   unfold elems at hq ⊢
   split at hq
   ·exact hq
   ·exact hq
   ·split at hq
    ·rename_i hH
     rw [get_app hH]
     exact hq
    ·cases hq
   ·cases hq
  split at h
  ·rename_i q1 q2 hq
   rw [hel hq]
   simp only at h ⊢
   split at h
   ·rename_i hb
    simp at h ⊢
    exact h.1
   ·cases h
  ·cases h
 case lkp agg ks d x k ok =>
  simp only [aop] at h ⊢
  have hl:∀ {q},alkp agg ks d ok H (ρ x) (ρ k)=some q→alkp agg ks d ok (H++[b]) (ρ x) (ρ k)=some q:=by
   intro q hq
   have hm:∀ {es},amap H (ρ x)=some es→amap (H++[b]) (ρ x)=some es:=by
    intro es he
    unfold amap at he ⊢
    split at he
    ·exact he
    ·split at he
     ·rename_i hH
      rw [get_app hH]
      exact he
     ·cases he
    ·cases he
   unfold alkp at hq ⊢
   cases h1:amap H (ρ x) with
   | none=>rw [h1] at hq;cases hq
   | some es =>
    rw [h1] at hq
    rw [hm h1]
    exact hq
  split at h
  ·rename_i v' hv
   rw [hl hv]
   simp at h ⊢
   exact h.1
  ·cases h
 case nilc x =>
  simp only [aop] at h ⊢
  split at h
  ·split at h
   ·rename_i hal
    rw [if_pos (alive_app hal)]
    simp at h ⊢
    exact h.1
   ·cases h
  ·simp at h ⊢
   exact h.1
  ·simp at h ⊢
   exact h.1
  ·cases h
end Go.AM
namespace Go.AM
set_option linter.unusedVariables false
set_option linter.unusedSimpArgs false
variable {P:Program} {X:Nat→Prop} {E:Env} {w:World} {H:AHeap} {ρ:Opd→AV} {ρc:Operand→Value} {o:Oper}
variable {an:An}
def Opd.t:Opd→List Nat
 | .tmp n=>[n]
 | .lit _=>[]
def AIns.reads (i:AIns):List Nat:=i.op.opds.flatMap Opd.t++(match i.guard with|some (g,_)=>[g]|none=>[])
def AOp.isCA:AOp→Bool
 | .calla ..=>true
 | _=>false
def AIns.isP (i:AIns):Bool:=i.op.pure||(i.op.isCall&&!i.op.isCA)
def AOp.isPC:AOp→Bool
 | .call ..=>true
 | _=>false
def AOp.allocs:AOp→Bool
 | .alloc _|.box _|.appc ..=>true
 | _=>false
def isDst (d:Option Nat) (k:Nat):Bool :=
 match d with
 | some d=>d==k
 | none=>false
def swapOK (x y:AIns):Bool :=
 x.isP&&y.reads.all (fun k=>!isDst x.dst k)&&x.reads.all (fun k=>!isDst y.dst k) &&
 (match x.dst,y.dst with|some a,some b=>a != b|_,_=>true) &&
 (x.op.isPC||x.op.noread||y.isP||(y.op.allocs&&!x.op.isCA))
theorem get_put {T:Tm} {d:Option Nat} {v:AV} {k:Nat} (h:isDst d k=false):(put T d v).get k=T.get k:=by
 cases d with
 | none=>rfl
 | some d =>
  simp [isDst] at h
  simp [put,Tm.get,h]
def TEq (T T':Tm):Prop:=∀ k,T.get k=T'.get k
theorem TEq_put {T T':Tm} (h:TEq T T') (d:Option Nat) (v:AV):TEq (put T d v) (put T' d v):=by
 intro k
 cases d with
 | none=>exact h k
 | some d =>
  simp only [put,Tm.get]
  split
  ·rfl
  ·exact h k
theorem TEq_swap {T:Tm} {d d':Option Nat} {v v':AV} (h:(match d,d' with|some a,some b=>a != b|_,_=>true)=true):TEq (put (put T d v) d' v') (put (put T d' v') d v):=by
 intro k
 cases d with
 | none=>rfl
 | some a=>cases d' with
  | none=>rfl
  | some b =>
   simp at h
   simp only [put,Tm.get]
   by_cases h1:b=k<;>by_cases h2:a=k
   ·exact absurd (h2.trans h1.symm) h
   all_goals simp [h1,h2]
theorem TEq_ev {T T':Tm} {x:Opd} (h:∀ k∈x.t,T.get k=T'.get k):x.ev T=x.ev T':=by
 cases x with
 | tmp n=>exact h n (by simp [Opd.t])
 | lit v=>rfl
def execV (P:Program) (i:AIns) (T:Tm) (H:AHeap) (v:AV) (H':AHeap):Prop :=
 match i.op with
 | .call f args=>∃ g as,callArgs T f args=some (g,as)∧PF P g as v∧H'=H
 | .callh f args=>∃ g as,callArgs T f args=some (g,as)∧(∀ X,FT P g as (H++X) (fun rv h=>rv=v∧h=H++X))∧H'=H
 | .calla k j f args=>∃ g as,callArgs T f args=some (g,as)∧((PF P g as v∧H'=H)∨∃ len sz c cs g0,PFA P g as len sz c cs∧H[k*10+j]?=some (.dead g0)∧v=.loc (k*10+j) (g0+1) 0 len sz c∧H'=H.set (k*10+j) (.cells (g0+1) cs))
 | op=>aop op (Opd.ev T) H=some (v,H')
def stepV (P:Program) (i:AIns) (T:Tm) (H:AHeap) (v:AV) (H':AHeap):Prop :=
 match i.guard with
 | none=>execV P i T H v H'
 | some (g,want)=>(∃ b,T.get g=.bool b∧b=want∧execV P i T H v H')∨(((∃ b,T.get g=.bool b∧b≠want)∨T.get g=.tuple [])∧v=.tuple []∧H'=H)
theorem execV_op {i:AIns} {T:Tm} {H':AHeap} {v:AV} (hc:i.op.isCall=false):execV P i T H v H'↔aop i.op (Opd.ev T) H=some (v,H'):=by
 unfold execV
 split
 ·rename_i h;rw [h] at hc;cases hc
 ·rename_i h;rw [h] at hc;cases hc
 ·rename_i h;rw [h] at hc;cases hc
 ·rfl
theorem execV_congr {i:AIns} {T T':Tm} {v:AV} {H':AHeap} (h:∀ k∈i.op.opds.flatMap Opd.t,T.get k=T'.get k) (hv:execV P i T H v H'):execV P i T' H v H':=by
 have hx:∀ x∈i.op.opds,x.ev T=x.ev T':=fun x hx=>TEq_ev fun k hk=>h k (List.mem_flatMap.2 ⟨x,hx,hk⟩)
 by_cases hc:i.op.isCall=true
 ·obtain ⟨dst,op,gd⟩:=i
  cases op<;>first|(cases hc;done)|skip
  all_goals
   rename_i f args
   obtain ⟨g,as,h1,h2⟩:=hv
   refine ⟨g,as,?_,h2⟩
   rw [←h1]
   unfold callArgs
   simp only at hx
   rw [hx f (by simp [AOp.opds])]
   have:args.map (Opd.ev T)=args.map (Opd.ev T'):=List.map_congr_left fun x hx'=>hx x (by simp [AOp.opds,hx'])
   rw [this]
 ·have hc:i.op.isCall=false:=by simpa using hc
  rw [execV_op hc] at hv ⊢
  rw [←hv]
  exact (aop_congr _ _ hx).symm
theorem stepV_congr {i:AIns} {T T':Tm} {v:AV} {H':AHeap} (h:∀ k∈i.reads,T.get k=T'.get k) (hv:stepV P i T H v H'):stepV P i T' H v H':=by
 have h1:∀ k∈i.op.opds.flatMap Opd.t,T.get k=T'.get k:=fun k hk=>h k (List.mem_append.2 (.inl hk))
 unfold stepV at *
 cases hg:i.guard with
 | none=>rw [hg] at hv;exact execV_congr h1 hv
 | some p =>
  obtain ⟨g,want⟩:=p
  rw [hg] at hv
  have hgk:=h g (List.mem_append.2 (.inr (by simp [hg])))
  simp only at hv ⊢
  rw [hgk] at hv
  exact hv.imp (fun ⟨b,h1',h2',h3'⟩=>⟨b,h1',h2',execV_congr h1 h3'⟩) id
theorem stepV_isP {i:AIns} {T:Tm} {v:AV} {H':AHeap} (hp:i.isP=true) (hv:stepV P i T H v H'):H'=H:=by
 have ex:execV P i T H v H'→H'=H:=by
  intro he
  by_cases hc:i.op.isCall=true
  ·obtain ⟨dst,op,gd⟩:=i
   cases op<;>first|(cases hc;done)|(cases hp;done)|skip
   all_goals
    obtain ⟨g,as,h1,h2,h3⟩:=he
    exact h3
  ·have hc:i.op.isCall=false:=by simpa using hc
   rw [execV_op hc] at he
   simp [AIns.isP,hc] at hp
   exact aop_pure hp he
 unfold stepV at hv
 split at hv
 ·exact ex hv
 ·rcases hv with ⟨_,_,_,h⟩|⟨_,_,h⟩
  ·exact ex h
  ·exact h
theorem stepV_other {i:AIns} {T:Tm} {v:AV} {H2:AHeap} (hp:i.isP=true) (h2:(i.op.isPC||i.op.noread)=true∨H2=H∨((∃ b,H2=H++[b])∧i.op.isCA=false)) (hv:stepV P i T H v H):stepV P i T H2 v H2:=by
 have ex:execV P i T H v H→execV P i T H2 v H2:=by
  intro he
  by_cases hc:i.op.isCall=true
  ·obtain ⟨dst,op,gd⟩:=i
   cases op<;>first|(cases hc;done)|(cases hp;done)|skip
   ·obtain ⟨g,as,h1,h2,h3⟩:=he
    exact ⟨g,as,h1,h2,rfl⟩
   ·rcases h2 with h2|rfl|⟨⟨b,rfl⟩,_⟩
    ·cases h2
    ·exact he
    ·obtain ⟨g,as,h1,h2,h3⟩:=he
     exact ⟨g,as,h1,fun X=>by rw [List.append_assoc];exact h2 ([b]++X),rfl⟩
  ·have hc:i.op.isCall=false:=by simpa using hc
   rw [execV_op hc] at he ⊢
   simp [AIns.isP,hc] at hp
   rcases h2 with h2|rfl|⟨⟨b,rfl⟩,_⟩
   ·have:i.op.isPC=false:=by cases hop:i.op<;>rw [hop] at hc<;>first|rfl|cases hc
    simp [this] at h2
    exact aop_noread h2 he _
   ·exact he
   ·exact aop_mono hp he
 cases hg:i.guard with
 | none =>
  simp only [stepV,hg] at hv ⊢
  exact ex hv
 | some p =>
  obtain ⟨g,want⟩:=p
  simp only [stepV,hg] at hv ⊢
  exact hv.imp (fun ⟨b,a,c,e⟩=>⟨b,a,c,ex e⟩) (fun ⟨a,c,_⟩=>⟨a,c,by first|trivial|rfl⟩)
theorem stepV_allocs {i:AIns} {T:Tm} {v:AV} {H':AHeap} (ha:i.op.allocs=true) (hv:stepV P i T H v H'):H'=H∨∃ b,H'=H++[b]:=by
 have ex:execV P i T H v H'→H'=H∨∃ b,H'=H++[b]:=by
  intro he
  obtain ⟨dst,op,gd⟩:=i
  cases op<;>first|(cases ha;done)|skip
  ·simp [execV,aop] at he
   exact .inr ⟨_,he.2.symm⟩
  ·simp only [execV,aop] at he
   split at he
   ·simp at he
    exact .inr ⟨_,he.2.symm⟩
   ·cases he
  ·simp only [execV,aop] at he
   exact aappc_new he
 unfold stepV at hv
 split at hv
 ·exact ex hv
 ·rcases hv with ⟨_,_,_,h⟩|⟨_,_,h⟩
  ·exact ex h
  ·exact .inl h
theorem swap_step {x y:AIns} {T:Tm} {vx vy:AV} {H1 H2:AHeap} (hs:swapOK x y=true) (hx:stepV P x T H vx H1) (hy:stepV P y (put T x.dst vx) H1 vy H2) :
  stepV P y T H vy H2∧stepV P x (put T y.dst vy) H2 vx H2∧TEq (put (put T y.dst vy) x.dst vx) (put (put T x.dst vx) y.dst vy):=by
 unfold swapOK at hs
 simp only [Bool.and_eq_true] at hs
 obtain ⟨⟨⟨⟨h1,h2⟩,h3⟩,h4⟩,h5⟩:=hs
 have e1:=stepV_isP h1 hx
 subst e1
 have hy':stepV P y T H1 vy H2:=stepV_congr (fun k hk=>get_put (by have:=List.all_eq_true.1 h2 k hk;simpa using this)) hy
 refine ⟨hy',?_,fun k=>(TEq_swap h4 k).symm⟩
 have hx':stepV P x (put T y.dst vy) H1 vx H1:=stepV_congr (fun k hk=>(get_put (by have:=List.all_eq_true.1 h3 k hk;simpa using this)).symm) hx
 refine stepV_other h1 ?_ hx'
 simp only [Bool.or_eq_true] at h5
 rcases h5 with ((h5|h5)|h5)|h5
 ·exact .inl (by simp [h5])
 ·exact .inl (by simp [h5])
 ·exact .inr (.inl (stepV_isP h5 hy'))
 ·simp only [Bool.and_eq_true] at h5
  rcases stepV_allocs h5.1 hy' with h|h
  ·exact .inr (.inl h)
  ·exact .inr (.inr ⟨h,by simpa using h5.2⟩)
inductive Chain (P:Program):List AIns→Tm→AHeap→Tm→AHeap→Prop where
 | nil (T:Tm) (H:AHeap):Chain P [] T H T H
 | cons {i:AIns} {is:List AIns} {T:Tm} {H:AHeap} {v:AV} {H1:AHeap} {T':Tm} {H':AHeap} (h:stepV P i T H v H1) (k:Chain P is (put T i.dst v) H1 T' H'):Chain P (i::is) T H T' H'
theorem Chain.congr {is:List AIns} {T T':Tm} {H:AHeap} {Tf:Tm} {Hf:AHeap} (h:Chain P is T H Tf Hf) (e:TEq T T'):∃ Tf',Chain P is T' H Tf' Hf∧TEq Tf Tf':=by
 induction h generalizing T' with
 | nil T H=>exact ⟨T',.nil _ _,e⟩
 | cons h k ih =>
  rename_i i is T H v H1 Tf Hf
  obtain ⟨Tf',k',e'⟩:=ih (TEq_put e i.dst v)
  exact ⟨Tf',.cons (stepV_congr (fun k _=>e k) h) k',e'⟩
theorem Chain.front {i:AIns} {s:List AIns}:∀ {p:List AIns} {T:Tm} {H:AHeap} {Tf:Tm} {Hf:AHeap},Chain P (p++i::s) T H Tf Hf→(∀ x∈p,swapOK x i=true) →
  ∃ v H1 Tf',stepV P i T H v H1∧Chain P (p++s) (put T i.dst v) H1 Tf' Hf∧TEq Tf' Tf
 | [],T,H,Tf,Hf,h,hs=>by
  cases h with
  | cons h k=>exact ⟨_,_,_,h,k,fun _=>rfl⟩
 | x::p,T,H,Tf,Hf,h,hs=>by
  cases h with
  | cons hx k =>
   obtain ⟨v,H1,Tf',h1,h2,h3⟩:=Chain.front k (fun y hy=>hs y (by simp [hy]))
   obtain ⟨a1,a2,a3⟩:=swap_step (hs x (by simp)) hx h1
   obtain ⟨Tf2,b1,b2⟩:=h2.congr (fun k=>(a3 k).symm)
   exact ⟨v,H1,Tf2,a1,.cons a2 b1,fun k=>(b2 k).symm.trans (h3 k)⟩
theorem ownOp_nil (d:Option Nat) (op:AOp):ownOp ⟨[],[]⟩ d op=op:=by
 cases op<;>cases d<;>simp [ownOp]
theorem ownOp_calla {d:Option Nat} {op:AOp} {k j:Nat} {f:Opd} {args:List Opd} (h:ownOp an d op=.calla k j f args):op=.call f args∨op=.calla k j f args:=by
 unfold ownOp at h
 split at h
 ·split at h
  ·split at h<;>cases h
  ·cases h
 ·split at h
  ·split at h<;>cases h
  ·cases h
 ·split at h
  ·split at h
   ·cases h
   ·split at h
    ·injection h with e1 e2 e3 e4
     subst e3 e4
     exact .inl rfl
    ·cases h
  ·cases h
 ·exact .inr h
theorem cIns_calla {n:Nat} {ops:Array Oper} {dst:Option Nat} {k j:Nat} {f:Opd} {args:List Opd} {gd:Option (Nat×Bool)} (h:cIns P an n ops o=some ⟨dst,.calla k j f args,gd⟩):cIns P ⟨[],[]⟩ n ops o=some ⟨dst,.call f args,gd⟩:=by
 unfold cIns at h ⊢
 split at h
 ·rename_i op gd' h1 h2
  have key:ownOp an dst op=.calla k j f args→op=.call f args:=fun h=>(ownOp_calla h).resolve_right fun h=>absurd (h▸h1) (cOp_nocalla _ _ _ _)
  split at h
  ·rename_i h3
   injection h with h
   injection h with e1 e2 e3
   subst e1 e3
   simp [h1,h2,h3,ownOp_nil,key e2]
  ·rename_i d h3
   split at h
   ·rename_i hd
    injection h with h
    injection h with e1 e2 e3
    subst e1 e3
    simp [h1,h2,h3,ownOp_nil,key e2,hd]
   ·cases h
 ·cases h
theorem stepV_sound {E0:Env} {w0:World} {n:NF} {k:Nat} {ops:Array Oper} {i:AIns} {Q:Exit→Act→World→Prop} {T:Tm} {a:Act} {v:AV} {H1:AHeap} (hi:cIns P an n ops o=some i) (hk:ops[k]?=some o)
  (hs:St X E0 w0 n T H a w) (h:stepV P i T H v H1):wpOp P ops Q k (St X E0 w0 n (put T i.dst v) H1) a w:=by
 have c:=cIns_spec hi
 have hg:(i.guard=none→Region.wanted o (yielded ops a.tmps)=true)∧(∀ g want b,i.guard=some (g,want)→T.get g=.bool b→Region.wanted o (yielded ops a.tmps)=(b==want))∧∀ g want,i.guard=some (g,want)→T.get g=.tuple []→Region.wanted o (yielded ops a.tmps)=false:=by
  obtain ⟨E,hev,hr,ht,hn,hd⟩:=hs
  exact guard_run ht c.2.1
 have go:∀ (hw:Region.wanted o (yielded ops a.tmps)=true),execV P i T H v H1→wpOp P ops Q k (St X E0 w0 n (put T i.dst v) H1) a w:=by
  intro hw he
  by_cases hca:i.op.isCA=true
  ·obtain ⟨dst,op,gd⟩:=i
   cases op<;>first|(cases hca;done)|skip
   rename_i k' j' f args
   obtain ⟨g,as,e1,e2⟩:=he
   have hft:FT P g as H fun rv H'=>rv=v∧H'=H1:=by
    rcases e2 with ⟨e2,rfl⟩|⟨len,sz,cc,cs,g0,e2,e3,rfl,rfl⟩
    ·exact e2.frame H1
    ·exact e2.fill e3
   obtain ⟨f1,f2⟩:=hft
   have hrun:runIns P false ⟨dst,.call f args,gd⟩ (fun T' H'=>T'=put T dst v∧H'=H1) T H:=by
    unfold runIns
    simp only [e1,Bool.false_eq_true,if_false]
    refine ⟨f1,fun X E w vals hr ha=>(f2 X E w vals hr ha).mono ?_⟩
    rintro e w' ⟨v',rv,E',H',q1,⟨rfl,rfl⟩,q2⟩
    exact ⟨v',rv,E',H',q1,⟨rfl,rfl⟩,q2⟩
   refine wpOp_mono ?_ (ins_sound (an:=⟨[],[]⟩) (cIns_calla hi) hk hw hs hrun)
   rintro a w ⟨T',H',⟨rfl,rfl⟩,hS⟩
   exact hS
  have hrun:runIns P false i (fun T' H'=>T'=put T i.dst v∧H'=H1) T H:=by
   unfold runIns
   by_cases hc:i.op.isCall=true
   ·obtain ⟨dst,op,gd⟩:=i
    cases op<;>first|(cases hc;done)|(exact absurd rfl hca)|skip
    ·obtain ⟨g,as,e1,e2,rfl⟩:=he
     simp only [e1,Bool.false_eq_true,if_false]
     obtain ⟨f1,f2⟩:=e2.frame H1
     refine ⟨f1,fun X E w vals hr ha=>(f2 X E w vals hr ha).mono ?_⟩
     rintro e w' ⟨v',rv,E',H',q1,⟨rfl,rfl⟩,q2⟩
     exact ⟨v',rv,E',H',q1,⟨rfl,rfl⟩,q2⟩
    ·obtain ⟨g,as,e1,e2,rfl⟩:=he
     simp only [e1,Bool.false_eq_true,if_false]
     obtain ⟨f1,f2⟩:FT P g as H1 (fun rv h=>rv=v∧h=H1):=by simpa using e2 []
     refine ⟨f1,fun X E w vals hr ha=>(f2 X E w vals hr ha).mono ?_⟩
     rintro e w' ⟨v',rv,E',H',q1,⟨rfl,rfl⟩,q2⟩
     exact ⟨v',rv,E',H',q1,⟨rfl,rfl⟩,q2⟩
   ·have hc:i.op.isCall=false:=by simpa using hc
    rw [execV_op hc] at he
    split
    ·rename_i hop;rw [hop] at he;simp [aop] at he
    ·rename_i hop;rw [hop] at hc;cases hc
    ·rename_i hop;rw [hop] at hc;cases hc
    ·rename_i hop;rw [hop] at hc;cases hc
    ·rw [he]
     exact fun _ _=>⟨rfl,rfl⟩
  refine wpOp_mono ?_ (ins_sound hi hk hw hs hrun)
  rintro a w ⟨T',H',⟨rfl,rfl⟩,hS⟩
  exact hS
 unfold stepV at h
 split at h
 ·rename_i hgn
  exact go (hg.1 hgn) h
 ·rename_i g want hgs
  rcases h with ⟨b,hb,hbw,h⟩|⟨hno,rfl,rfl⟩
  ·exact go (by rw [hg.2.1 g want b hgs hb];simp [hbw]) h
  ·have hw':Region.wanted o (yielded ops a.tmps)=false:=by
    rcases hno with ⟨b,hb,hbw⟩|hb
    ·rw [hg.2.1 g want b hgs hb];simp [hbw]
    ·exact hg.2.2 g want hgs hb
   unfold wpOp
   simp only [hk,hw',Bool.false_eq_true,if_false]
   obtain ⟨E,hev,hr,ht,hn,hd⟩:=hs
   obtain ⟨t1,t2,t3⟩:=put_tr (dst:=o.dst) (v:=undef) ht (fun d h=>by rw [hn];exact c.2.2.2 d h) undefR
   rw [←c.2.2.1] at t1 t2 t3 ⊢
   exact ⟨E,hev,hr,t1,by rw [t2];exact hn,by rw [t3];exact hd⟩
end Go.AM
namespace Go.AM
set_option linter.unusedVariables false
set_option linter.unusedSimpArgs false
variable {P:Program} {X:Nat→Prop} {E:Env} {w:World} {H:AHeap} {ρ:Opd→AV} {ρc:Operand→Value} {o:Oper}
variable {an:An}
theorem chain_of {E0:Env} {w0:World} {n:NF} {ops:Array Oper} {K:Tm→AHeap→Prop}:∀ (is:List AIns) (os:List Oper) (T:Tm) (H:AHeap) (a:Act) (w:World),mapMo (cIns P an n ops) os=some is →
  St X E0 w0 n T H a w→runOps P true is K T H→∃ Tf Hf Tk,Chain P is T H Tf Hf∧TEq Tf Tk∧K Tk Hf
 | is,[],T,H,a,w,hm,hs,h=>by
  simp [mapMo] at hm
  subst hm
  exact ⟨T,H,T,.nil T H,fun _=>rfl,h⟩
 | is,o::os,T,H,a,w,hm,hs,h=>by
  simp only [mapMo] at hm
  split at hm
  ·rename_i i is' hi hm'
   injection hm with hm
   subst hm
   have c:=cIns_spec hi
   have go:∀ (T:Tm),St X E0 w0 n T H a w→runIns P true i (runOps P true is' K) T H→∃ v H1,execV P i T H v H1∧(∃ a1 w1,St X E0 w0 n (put T i.dst v) H1 a1 w1)∧runOps P true is' K (put T i.dst v) H1:=by
    intro T hs
    obtain ⟨E,hev,hr,ht,hn,hd⟩:=hs
    have hρ:=OR.of ht
    have hdst:∀ d,i.dst=some d→d<a.tmps.size:=fun d h=>by rw [hn];exact c.2.2.2 d (by rw [←c.2.2.1];exact h)
    intro h
    by_cases hcall:i.op.isCall=true
    ·obtain ⟨f,args,g,as,r,H1,⟨f0,args0,ats,ho,hf,hargs⟩,hca,h1,hex,h2⟩:∃ f args g as r H1,(∃ f0 args0 ats,o.op=.call { callee:=.value f0,args:=args0,argTypes:=ats }∧cOpd f0=some f∧cOpds args0.toList=some args)∧callArgs T f args=some (g,as)∧FT P g as H (fun rv H'=>rv=r∧H'=H1)∧execV P i T H r H1∧runOps P true is' K (put T i.dst r) H1:=by
      obtain ⟨dst,op,gd⟩:=i
      cases op<;>first|(cases hcall;done)|skip
      case call f args _ =>
       simp only [runIns] at h
       split at h
       ·rename_i g as hca
        simp only [if_true] at h
        obtain ⟨r,h1,h2⟩:=h
        exact ⟨f,args,g,as,r,H,cOp_call c.1,hca,h1.frame H,⟨g,as,hca,h1,rfl⟩,h2⟩
       ·cases h
      case callh f args _ =>
       simp only [runIns] at h
       split at h
       ·rename_i g as hca
        simp only [if_true] at h
        obtain ⟨r,h1,h2⟩:=h
        exact ⟨f,args,g,as,r,H,cOp_callh c.1,hca,by simpa using h1 [],⟨g,as,hca,h1,rfl⟩,h2⟩
       ·cases h
      case calla k j f args _ =>
       simp only [runIns] at h
       split at h
       ·rename_i g as hca
        obtain ⟨_,⟨r,h1,h2⟩|⟨len,sz,cc,cs,g0,h1,h2,h3⟩⟩:=h
        ·exact ⟨f,args,g,as,r,H,cOp_calla c.1,hca,h1.frame H,⟨g,as,hca,.inl ⟨h1,rfl⟩⟩,h2⟩
        ·exact ⟨f,args,g,as,_,_,cOp_calla c.1,hca,h1.fill h2,⟨g,as,hca,.inr ⟨len,sz,cc,cs,g0,h1,h2,rfl,rfl⟩⟩,h3⟩
       ·cases h
     refine ⟨r,H1,hex,?_,h2⟩
     unfold callArgs at hca
     split at hca
     ·rename_i g' first cap hfe
      simp at hca
      obtain ⟨rfl,rfl⟩:=hca
      have hvf:=hρ.rel f0 f hf
      rw [hfe] at hvf
      obtain ⟨first',cap',e1,e2,e3,e4,e5⟩:∃ first' cap':Array Value,a.eval f0=.func (.func g') first' cap'∧first'.size=first.length∧cap'.size=cap.length∧(∀ j (hj:j<first.length) (hj':j<first'.size),VR X E w first[j] first'[j])∧∀ j (hj:j<cap.length) (hj':j<cap'.size),VR X E w cap[j] cap'[j]:=by
       generalize a.eval f0=u at hvf
       cases hvf with
       | fn _ _ _ fs' cs' h1 h2 h3 h4=>exact ⟨fs',cs',rfl,h1,h2,h3,h4⟩
      obtain ⟨k1,k2⟩:=cOpds_sound hρ hargs
      have hA:ArgsR X E w (first++(args.map (Opd.ev T)++cap)) (first'++args0.map a.eval++cap'):=by
       rw [←List.append_assoc]
       refine ArgsR.app (ArgsR.app ⟨e2,e4⟩ ⟨by simp [k1],fun j hj hj'=>?_⟩) ⟨e3,e5⟩
       have:=k2 j hj (by simpa using hj')
       simpa using this
      obtain ⟨e,w',fr,⟨v,rv,E',H',q0,⟨rfl,rfl⟩,q1,q2,q3⟩,_⟩:=h1.2 X E w _ hr hA []
      obtain ⟨t1,t2,t3⟩:=put_tr (dst:=i.dst) (ht.mono q3) hdst q1
      exact ⟨a.put i.dst v,w',E',hev.trans q3,q2,t1,by rw [t2];exact hn,by rw [t3];exact n.mono q3 hd⟩
     ·cases hca
    ·have hcall:i.op.isCall=false:=by simpa using hcall
     obtain ⟨v,H',hav,hK⟩:∃ v H',aop i.op (Opd.ev T) H=some (v,H')∧(asm i.op (Opd.ev T)→runOps P true is' K (put T i.dst v) H'):=by
      unfold runIns at h
      split at h
      ·split at h
       ·cases h.1
       ·cases h
      ·rename_i f args hh
       rw [hh] at hcall
       cases hcall
      ·rename_i f args hh
       rw [hh] at hcall
       cases hcall
      ·rename_i f args hh
       rw [hh] at hcall
       cases hcall
      ·have h:=h (apre_of c.1 hρ hr)
       split at h
       ·rename_i v H' hh
        exact ⟨v,H',hh,h⟩
       ·cases h
     obtain ⟨⟨E',w',nx,u,r1,r2,r3,r4,r5⟩,hasm⟩:=op_soundO c.1 hcall hav hρ hr
     obtain ⟨t1,t2,t3⟩:=put_tr (dst:=i.dst) (ht.mono r5) hdst r3
     exact ⟨v,H',(execV_op hcall).2 hav,⟨a.put i.dst u,w',E',hev.trans r5,r4,t1,by rw [t2];exact hn,by rw [t3];exact n.mono r5 hd⟩,hK hasm⟩
   have step:∀ (T':Tm),(∀ k,T'.get k=T.get k)→(∀ v H1,execV P i T H v H1→stepV P i T H v H1)→runIns P true i (runOps P true is' K) T' H→∃ Tf Hf Tk,Chain P (i::is') T H Tf Hf∧TEq Tf Tk∧K Tk Hf:=by
    intro T' hT' hst hrun
    have hs':St X E0 w0 n T' H a w:=by
     obtain ⟨E,hev,hr,ht,hn,hd⟩:=hs
     exact ⟨E,hev,hr,⟨fun k=>by rw [hT'];exact ht.rel k⟩,hn,hd⟩
    obtain ⟨v,H1,h1,⟨a1,w1,hs1⟩,h2⟩:=go T' hs' hrun
    obtain ⟨Tf,Hf,Tk,q1,q2,q3⟩:=chain_of is' os _ _ a1 w1 hm' hs1 h2
    obtain ⟨Tf',r1,r2⟩:=q1.congr (TEq_put hT' i.dst v)
    exact ⟨Tf',Hf,Tk,.cons (hst v H1 (execV_congr (fun k _=>hT' k) h1)) r1,fun k=>(r2 k).symm.trans (q2 k),q3⟩
   have skip:∀ (T':Tm),(∀ k,T'.get k=T.get k)→stepV P i T H (.tuple []) H→runOps P true is' K (put T' i.dst (.tuple [])) H→∃ Tf Hf Tk,Chain P (i::is') T H Tf Hf∧TEq Tf Tk∧K Tk Hf:=by
    intro T' hT' hst hrun
    obtain ⟨E,hev,hr,ht,hn,hd⟩:=hs
    have hdst:∀ d,i.dst=some d→d<a.tmps.size:=fun d h=>by rw [hn];exact c.2.2.2 d (by rw [←c.2.2.1];exact h)
    have ht':TR X E w T' a.tmps:=⟨fun k=>by rw [hT'];exact ht.rel k⟩
    obtain ⟨t1,t2,t3⟩:=put_tr (dst:=i.dst) (v:=undef) ht' hdst undefR
    obtain ⟨Tf,Hf,Tk,q1,q2,q3⟩:=chain_of is' os _ H (a.put i.dst undef) w hm' ⟨E,hev,hr,t1,by rw [t2];exact hn,by rw [t3];exact hd⟩ hrun
    obtain ⟨Tf',r1,r2⟩:=q1.congr (TEq_put hT' i.dst (.tuple []))
    exact ⟨Tf',Hf,Tk,.cons hst r1,fun k=>(r2 k).symm.trans (q2 k),q3⟩
   simp only [runOps] at h
   split at h
   ·rename_i hgn
    exact step T (fun _=>rfl) (fun v H1 h=>by unfold stepV;rw [hgn];exact h) h
   ·rename_i g want hgs
    split at h
    ·rename_i b hb
     by_cases hbw:b=want
     ·subst hbw
      exact step _ (get_same hb) (fun v H1 h=>by unfold stepV;rw [hgs];exact .inl ⟨b,hb,rfl,h⟩) (h.1 rfl)
     ·have hbn:b=!want:=by cases b<;>cases want<;>simp at hbw ⊢
      subst hbn
      exact skip _ (get_same hb) (by unfold stepV;rw [hgs];exact .inr ⟨.inl ⟨_,hb,hbw⟩,rfl,rfl⟩) (h.2 hbw)
    ·rename_i vs hb
     obtain ⟨rfl,h⟩:=h
     exact skip T (fun _=>rfl) (by unfold stepV;rw [hgs];exact .inr ⟨.inr hb,rfl,rfl⟩) h
    ·cases h
  ·cases hm
def direct (o:Oper):List Nat:=(o.after.toList.filter (Region.binds .any ·)).map (·.on)
def dmask (D:List Nat):List Nat→Nat
 | []=>0
 | j::js=>((1 <<< j) ||| D.getD j 0) ||| dmask D js
theorem dmask_bit {D:List Nat} {k:Nat}:∀ {js:List Nat},(dmask D js).testBit k=true→∃ j∈js,j=k∨(D.getD j 0).testBit k=true
 | [],h=>by simp [dmask] at h
 | j::js,h=>by
  simp only [dmask,Nat.testBit_or,Bool.or_eq_true] at h
  rcases h with (h|h)|h
  ·rw [Nat.one_shiftLeft,Nat.testBit_two_pow] at h
   exact ⟨j,by simp,.inl (by simpa using h)⟩
  ·exact ⟨j,by simp,.inr h⟩
  ·obtain ⟨j',h1,h2⟩:=dmask_bit h
   exact ⟨j',by simp [h1],h2⟩
def swapAll (D:List Nat):List (Nat×AIns)→Bool
 | []=>true
 | (k,x)::rest=>rest.all (fun (k',y)=>k != k'&&((D.getD k' 0).testBit k||swapOK x y))&&swapAll D rest
theorem swapAll_pw {D:List Nat}:∀ {R:List (Nat×AIns)},swapAll D R=true→R.Pairwise fun x y=>x.1≠y.1∧((D.getD y.1 0).testBit x.1=true∨swapOK x.2 y.2=true)
 | [],_=>.nil
 | (k,x)::rest,h=>by
  simp only [swapAll,Bool.and_eq_true] at h
  refine .cons (fun y hy=>?_) (swapAll_pw h.2)
  have:=List.all_eq_true.1 h.1 y hy
  simp only [Bool.and_eq_true,bne_iff_ne,ne_eq,Bool.or_eq_true] at this
  exact this
theorem any_sound {E0:Env} {w0:World} {n:NF} {ops:Array Oper} {D:List Nat} {Q:Exit→Act→World→Prop}
  (hD:∀ (i:Nat) (oi:Oper),ops[i]?=some oi→D.getD i 0=dmask D (direct oi)) (hlt:∀ (i:Nat) (oi:Oper),ops[i]?=some oi→∀ j∈direct oi,j<i) {Tf:Tm} {Hf:AHeap}
  (hQ:∀ T a w,TEq T Tf→St X E0 w0 n T Hf a w→Q .normal a w) :
  ∀ (fuel:Nat) (listed:Array Bool) (R:List (Nat×AIns)) (T:Tm) (H:AHeap) (a:Act) (w:World) (Tf':Tm),R.length=fuel→(∀ k,listed.getD k true=false↔k∈R.map (·.1)) →
   (R.Pairwise fun x y=>x.1≠y.1∧((D.getD y.1 0).testBit x.1=true∨swapOK x.2 y.2=true))→(∀ i,listed.getD i false=true→∀ k,(D.getD i 0).testBit k=true→listed.getD k false=true) →
   (∀ p∈R,∃ o,ops[p.1]?=some o∧cIns P an n ops o=some p.2)→Chain P (R.map (·.2)) T H Tf' Hf→TEq Tf' Tf→St X E0 w0 n T H a w→wpAny P .any ops Q fuel listed a w
 | fuel,listed,R,T,H,a,w,Tf',hl,h1,hpw,hcl,hin,hch,hte,hs=>by
  have hready:∀ i,listed.getD i true=false→i∈R.map (·.1):=fun i h=>(h1 i).1 h
  cases fuel with
  | zero =>
   have hR:R=[]:=List.eq_nil_of_length_eq_zero hl
   subst hR
   simp only [List.map_nil] at hch
   cases hch
   refine ⟨?_,hQ _ _ _ hte hs⟩
   rw [List.eq_nil_iff_forall_not_mem]
   intro i hi
   have:=(mem_ready.1 hi).1
   rw [h1] at this
   cases this
  | succ fuel =>
   have hne:Region.ready .any ops listed≠[]:=by
    have key:∀ k,listed.getD k true=false→∃ r,r∈Region.ready .any ops listed:=by
     intro k
     induction k using Nat.strongRecOn with
     | _ k ih =>
      intro hk
      have:=(h1 k).1 hk
      obtain ⟨p,hp,rfl⟩:=List.mem_map.1 this
      obtain ⟨o,ho,_⟩:=hin p hp
      by_cases hall:∀ e∈o.after,Region.binds .any e=true→listed.getD e.on false=true
      ·exact ⟨p.1,mem_ready.2 ⟨hk,o,ho,hall⟩⟩
      ·simp only [Classical.not_forall] at hall
       obtain ⟨e,he,hb,hno⟩:=hall
       have hj:e.on∈direct o:=List.mem_map.2 ⟨e,List.mem_filter.2 ⟨by simpa using he,hb⟩,rfl⟩
       have hlt':=hlt _ o ho _ hj
       refine ih e.on hlt' ?_
       by_cases hsz:e.on<listed.size
       ·simp [hsz] at hno ⊢
        exact hno
       ·exfalso
        have hk2:¬ p.1<listed.size:=by omega
        simp [hk2] at hk
    cases R with
    | nil=>simp at hl
    | cons p R =>
     have:listed.getD p.1 true=false:=(h1 p.1).2 (by simp)
     obtain ⟨r,hr⟩:=key p.1 this
     intro h
     rw [h] at hr
     cases hr
   refine ⟨fun h=>absurd h hne,fun i hi=>?_⟩
   obtain ⟨hu,oi,hoi,hall⟩:=mem_ready.1 hi
   have hmem:=hready i hu
   obtain ⟨⟨i',ins⟩,hp,rfl⟩:=List.mem_map.1 hmem
   obtain ⟨p,s,rfl⟩:=List.append_of_mem hp
   have hDl:∀ k,(D.getD i' 0).testBit k=true→listed.getD k false=true:=by
    intro k hk
    rw [hD _ _ hoi] at hk
    obtain ⟨j,hj,hjk⟩:=dmask_bit hk
    obtain ⟨e,he,rfl⟩:=List.mem_map.1 hj
    obtain ⟨he1,he2⟩:=List.mem_filter.1 he
    have hjl:=hall e (by simpa using he1) he2
    rcases hjk with rfl|hjk
    ·exact hjl
    ·exact hcl _ hjl k hjk
   have hunl:∀ k,listed.getD k true=false→listed.getD k false=true→False:=by
    intro k a b
    by_cases hsz:k<listed.size
    ·simp [hsz] at a b
     rw [a] at b
     cases b
    ·simp [hsz] at a
   rw [List.pairwise_append] at hpw
   obtain ⟨pw1,pw2,pw3⟩:=hpw
   rw [List.pairwise_cons] at pw2
   have hsw:∀ x∈p.map (·.2),swapOK x ins=true:=by
    intro x hx
    obtain ⟨⟨k,x'⟩,hkx,rfl⟩:=List.mem_map.1 hx
    obtain ⟨_,hh⟩:=pw3 _ hkx (i',ins) (by simp)
    rcases hh with hh|hh
    ·have hkl:=hDl k hh
     have hku:listed.getD k true=false:=(h1 k).2 (by simp only [List.map_append,List.mem_append];exact .inl (List.mem_map.2 ⟨_,hkx,rfl⟩))
     exact (hunl k hku hkl).elim
    ·exact hh
   rw [List.map_append,List.map_cons] at hch
   obtain ⟨v,H1,Tf2,hst,hch2,hte2⟩:=hch.front hsw
   obtain ⟨o',ho',hci⟩:=hin (i',ins) (by simp)
   have hoo:o'=oi:=by
    have:some o'=some oi:=ho'.symm.trans hoi
    injection this
   subst hoo
   refine wpOp_mono ?_ (stepV_sound (Q:=Q) hci hoi hs hst)
   intro a1 w1 hs1
   refine any_sound hD hlt hQ fuel (listed.setIfInBounds i' true) (p++s) _ H1 a1 w1 Tf2 (by simp at hl ⊢;omega) (fun k=>?_) ?_ (fun j hj k hk=>?_) (fun q hq=>hin q (by simp at hq ⊢;rcases hq with h|h<;>simp [h])) (by rw [List.map_append];exact hch2) (fun k=>(hte2 k).trans (hte k)) hs1
   ·by_cases hki:i'=k
    ·subst hki
     constructor
     ·intro h
      have:i'<listed.size:=by
       rcases Nat.lt_or_ge i' listed.size with h'|h'
       ·exact h'
       ·simp [Nat.not_lt.2 h'] at hu
      simp [this] at h
     ·intro h
      exfalso
      rw [List.map_append,List.mem_append] at h
      rcases h with h|h
      ·obtain ⟨q,hq,e⟩:=List.mem_map.1 h
       exact (pw3 q hq (i',ins) (by simp)).1 e
      ·obtain ⟨q,hq,e⟩:=List.mem_map.1 h
       exact (pw2.1 q hq).1 e.symm
    ·rw [getD_set_ne true hki,h1]
     simp only [List.map_append,List.map_cons,List.mem_append,List.mem_cons]
     constructor
     ·rintro (h|h|h)
      ·exact .inl h
      ·exact absurd h.symm hki
      ·exact .inr h
     ·rintro (h|h)
      ·exact .inl h
      ·exact .inr (.inr h)
   ·rw [List.pairwise_append]
    exact ⟨pw1,pw2.2,fun x hx y hy=>pw3 x hx y (by simp [hy])⟩
   ·by_cases hji:i'=j
    ·subst hji
     exact getD_set_true (hDl k hk)
    ·have hj':listed.getD j false=true:=by
      rw [getD_set_ne false hji] at hj
      exact hj
     exact getD_set_true (hcl j hj' k hk)
end Go.AM
