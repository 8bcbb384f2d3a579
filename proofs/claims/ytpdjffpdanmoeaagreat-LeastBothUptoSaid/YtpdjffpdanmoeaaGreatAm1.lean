/- The abstract machine, part 1: values, the heap of the call's own blocks, and how both relate to the model's. -/
import Derived.Calls
import Derived.Orders
import Derived.Deep.LoopGhost
import Derived.Below
import Derived.Laws.World
import Derived.Laws.Cells
import Derived.Laws.Append
import Derived.Laws.StructEq
import Derived.ChangeKeysEq
import Derived.WideKeyRuns
import Derived.Laws.Entries
import Derived.Laws.AppendOwn
import Derived.Laws.CopyRow
import Derived.Laws.Concat
import Derived.Laws.Strings
import Derived.Laws.Tables
import Derived.Laws.MakeOwn
namespace Go.AM
set_option linter.unusedVariables false
set_option linter.unusedSimpArgs false
inductive AV where
 | any
 | bool (b:Bool)
 | int (k:IntKind) (n:Int)
 | str (s:ByteArray)
 | nilFunc
 | nilIface
 | nilPtr
 | nilMap
 | nilS
 | rows (clip:Bool) (sz:Nat) (es:List (List AV))
 | loc (i g off len sz:Nat) (clip:Bool)
 | ptr (i g off:Nat)
 | rptr (cs:List AV)
 | mapr (i g:Nat)
 | fn (f:Fn) (first captured:List AV)
 | iface (t:TypeId) (v:AV)
 | agg (cs:List AV)
 | tuple (vs:List AV)
 deriving Inhabited
inductive ABlk where
 | cells (g:Nat) (cs:List AV)
 | map (g:Nat) (es:List (AV×AV))
 | dead (g:Nat)
 deriving Inhabited
abbrev AHeap:=List ABlk
def ABlk.gen:ABlk→Nat
 | .cells g _|.map g _|.dead g=>g
structure Ent where
 gen:Nat
 blk:Option Nat
 base:Nat
 room:Nat
 live:Bool
abbrev Env:=List Ent
def Own (E:Env) (B:Nat):Prop:=∃ e,e∈E∧e.live=true∧e.blk=some B
def Lone (X:Nat→Prop) (E:Env) (B:Nat):Prop:=¬ X B∧¬ Own E B
def maxA:Nat:=1099511627776
def LocR (e:Ent) (off len sz:Nat) (clip:Bool) (v:Value):Prop :=
 ∃ a c,v=.slice a len c∧len≤maxA∧len≤c∧(clip=true→c=len) ∧
  (c≠0→∃ B,e.blk=some B∧a=some ⟨B,e.base+off,none⟩∧e.base+off+c*sz≤e.room)
def PtrR (e:Ent) (off:Nat) (v:Value):Prop:=∃ B,e.blk=some B∧v=.pointer (some ⟨B,e.base+off,none⟩)
def MapR (e:Ent) (v:Value):Prop:=∃ B,e.blk=some B∧v=.map (some B)
inductive VR (X:Nat→Prop) (E:Env) (w:World):AV→Value→Prop where
 | any (v:Value):VR X E w .any v
 | bool (b:Bool):VR X E w (.bool b) (.bool b)
 | int (k:IntKind) (n:Int):VR X E w (.int k n) (.int k n)
 | str (s:ByteArray) (h:s.size≤9223372036854775807):VR X E w (.str s) (.string s)
 | nilFunc:VR X E w .nilFunc .nilFunc
 | nilIface:VR X E w .nilIface .nilIface
 | nilPtr:VR X E w .nilPtr (.pointer none)
 | nilMap:VR X E w .nilMap (.map none)
 | nilS:VR X E w .nilS (.slice none 0 0)
 | rows (clip:Bool) (sz:Nat) (es:List (List AV)) (a:Option Addr) (c:Nat) (ad:Addr) (f:Nat→Nat→Value)
   (hn:es.length≤maxA) (hc:es.length≤c) (hclip:clip=true→c=es.length)
   (hsz:∀ i (hi:i<es.length),es[i].length=sz)
   (ha:0<es.length→a=some ⟨ad.block,ad.off,none⟩) (hL:0<es.length→0<sz→Lone X E ad.block)
   (hcell:∀ i j,i<es.length→j<sz→w.cell? ⟨ad.block,ad.off+(i*sz+j),none⟩=some (f i j))
   (hv:∀ i (hi:i<es.length) j (hj:j<es[i].length),VR X E w (es[i][j]) (f i j)) :
   VR X E w (.rows clip sz es) (.slice a es.length c)
 | loc (i g off len sz:Nat) (clip:Bool) (e:Ent) (v:Value) (he:E[i]?=some e) (h1:v.oneCell'=true) (hg:g≤e.gen) (h:g=e.gen→LocR e off len sz clip v) :
   VR X E w (.loc i g off len sz clip) v
 | ptr (i g off:Nat) (e:Ent) (v:Value) (he:E[i]?=some e) (h1:v.oneCell'=true) (hg:g≤e.gen) (h:g=e.gen→PtrR e off v):VR X E w (.ptr i g off) v
 | rptr (cs:List AV) (ad:Addr) (f:Nat→Value) (hL:0<cs.length→Lone X E ad.block)
   (hcell:∀ j,j<cs.length→w.cell? ⟨ad.block,ad.off+j,none⟩=some (f j))
   (hv:∀ j (hj:j<cs.length),VR X E w (cs[j]) (f j)):VR X E w (.rptr cs) (.pointer (some ⟨ad.block,ad.off,none⟩))
 | mapr (i g:Nat) (e:Ent) (v:Value) (he:E[i]?=some e) (h1:v.oneCell'=true) (hg:g≤e.gen) (h:g=e.gen→MapR e v):VR X E w (.mapr i g) v
 | fn (f:Fn) (fs cs:List AV) (fs' cs':Array Value) (h1:fs'.size=fs.length) (h2:cs'.size=cs.length)
   (hf:∀ j (hj:j<fs.length) (hj':j<fs'.size),VR X E w (fs[j]) (fs'[j]))
   (hc:∀ j (hj:j<cs.length) (hj':j<cs'.size),VR X E w (cs[j]) (cs'[j])):VR X E w (.fn f fs cs) (.func f fs' cs')
 | iface (t:TypeId) (v:AV) (u:Value) (h:VR X E w v u):VR X E w (.iface t v) (.iface t u)
 | agg (cs:List AV) (vs:Array Value) (h1:vs.size=cs.length) (h:∀ j (hj:j<cs.length) (hj':j<vs.size),VR X E w (cs[j]) (vs[j])):VR X E w (.agg cs) (.agg vs)
 | tuple (cs:List AV) (vs:Array Value) (h1:vs.size=cs.length) (h:∀ j (hj:j<cs.length) (hj':j<vs.size),VR X E w (cs[j]) (vs[j])):VR X E w (.tuple cs) (.tuple vs)
def nd (w:World):Nat:=w.drawn
theorem nd_le {w w':World} (h:w.drawn≤w'.drawn):nd w≤nd w':=h
structure Ev (E:Env) (w:World) (E':Env) (w':World):Prop where
 os:w'.os=w.os
 tape:w'.tape=w.tape
 output:w'.output=w.output
 size:w.heap.size≤w'.heap.size
 keep:∀ B,B<w.heap.size→¬ Own E B→w'.heap[B]?=w.heap[B]?
 own:∀ B,Own E' B→Own E B∨w.heap.size≤B
 ext:∀ (i:Nat) (e:Ent),E[i]?=some e→∃ e':Ent,E'[i]?=some e'∧e.gen≤e'.gen∧(e.gen=e'.gen→e'.blk=e.blk∧e'.base=e.base∧e'.room=e.room)
 draw:nd w≤nd w'
theorem Ev.refl (E:Env) (w:World):Ev E w E w :=
 ⟨rfl,rfl,rfl,Nat.le_refl _,fun _ _ _=>rfl,fun _ h=>.inl h,fun _ e h=>⟨e,h,Nat.le_refl _,fun _=>⟨rfl,rfl,rfl⟩⟩,Nat.le_refl _⟩
theorem Ev.trans {E E' E'':Env} {w w' w'':World} (h:Ev E w E' w') (k:Ev E' w' E'' w''):Ev E w E'' w'':=by
 refine ⟨k.os.trans h.os,k.tape.trans h.tape,k.output.trans h.output,Nat.le_trans h.size k.size,?_,?_,?_,Nat.le_trans h.draw k.draw⟩
 ·intro B hB hO
  rw [k.keep B (Nat.lt_of_lt_of_le hB h.size) (fun ho=>(h.own B ho).elim hO (fun h=>by omega)),h.keep B hB hO]
 ·intro B hB
  rcases k.own B hB with h1|h1
  ·exact h.own B h1
  ·exact .inr (Nat.le_trans h.size h1)
 ·intro i e he
  obtain ⟨e1,h1,g1,m1⟩:=h.ext i e he
  obtain ⟨e2,h2,g2,m2⟩:=k.ext i e1 h1
  refine ⟨e2,h2,Nat.le_trans g1 g2,fun hg=>?_⟩
  have a1:e.gen=e1.gen:=by omega
  have a2:e1.gen=e2.gen:=by omega
  obtain ⟨x1,x2,x3⟩:=m1 a1
  obtain ⟨y1,y2,y3⟩:=m2 a2
  exact ⟨y1.trans x1,y2.trans x2,y3.trans x3⟩
theorem Ev.drew {E E':Env} {w w':World} (h:Ev E w E' w') (n:Nat) (hn:w'.drawn≤n:=by first|exact Nat.le_refl _|exact Nat.le_add_right _ _):Ev E w E' { w' with drawn:=n } :=
 ⟨h.os,h.tape,h.output,h.size,h.keep,h.own,h.ext,Nat.le_trans h.draw (nd_le hn)⟩
theorem block_lt {w:World} {a:Addr} {v:Value} (h:w.cell? a=some v):a.block<w.heap.size:=by
 unfold World.cell? at h
 rcases Nat.lt_or_ge a.block w.heap.size with h'|h'
 ·exact h'
 ·rw [Array.getElem?_eq_none h'] at h;cases h
theorem cell_lt {w:World} {b o:Nat} {s:Option Nat} {v:Value} (h:w.cell? ⟨b,o,s⟩=some v):b<w.heap.size:=block_lt (a:=⟨b,o,s⟩) h
theorem Ev.cell {E E':Env} {w w':World} (h:Ev E w E' w') {a:Addr} {v:Value} (hc:w.cell? a=some v) (hO:¬ Own E a.block):w'.cell? a=some v:=by
 rw [←hc]
 unfold World.cell?
 rw [h.keep _ (block_lt hc) hO]
theorem Ev.lone {X:Nat→Prop} {E E':Env} {w w':World} (h:Ev E w E' w') {B:Nat} (hB:B<w.heap.size) (hL:Lone X E B):Lone X E' B :=
 ⟨hL.1,fun ho=>(h.own B ho).elim hL.2 (fun h=>by omega)⟩
theorem VR.mono {X:Nat→Prop} {E E':Env} {w w':World} (h:Ev E w E' w') {av:AV} {v:Value} (hv:VR X E w av v):VR X E' w' av v:=by
 induction hv with
 | any v=>exact .any v
 | bool b=>exact .bool b
 | int k n=>exact .int k n
 | str s hs=>exact .str s hs
 | nilFunc=>exact .nilFunc
 | nilIface=>exact .nilIface
 | nilPtr=>exact .nilPtr
 | nilMap=>exact .nilMap
 | nilS=>exact .nilS
 | rows clip sz es a c ad f hn hc hclip hsz ha hL hcell _ ih =>
  exact .rows clip sz es a c ad f hn hc hclip hsz ha (fun h0 hz=>h.lone (cell_lt (hcell 0 0 h0 hz)) (hL h0 hz))
   (fun i j hi hj=>h.cell (hcell i j hi hj) (hL (by omega) (by omega)).2) ih
 | loc i g off len sz clip e v he ho hg hl =>
  obtain ⟨e',h1,h2,h3⟩:=h.ext i e he
  refine .loc i g off len sz clip e' v h1 ho (by omega) (fun hgg=>?_)
  have:e.gen=e'.gen:=by omega
  obtain ⟨x1,x2,x3⟩:=h3 this
  have:=hl (by omega)
  unfold LocR at *
  rw [x1,x2,x3]
  exact this
 | ptr i g off e v he ho hg hl =>
  obtain ⟨e',h1,h2,h3⟩:=h.ext i e he
  refine .ptr i g off e' v h1 ho (by omega) (fun hgg=>?_)
  have:e.gen=e'.gen:=by omega
  obtain ⟨x1,x2,x3⟩:=h3 this
  have:=hl (by omega)
  unfold PtrR at *
  rw [x1,x2]
  exact this
 | rptr cs ad f hL hcell _ ih =>
  refine .rptr cs ad f (fun h0=>h.lone (cell_lt (hcell 0 h0)) (hL h0)) (fun j hj=>h.cell (hcell j hj) (hL (by omega)).2) ih
 | mapr i g e v he ho hg hl =>
  obtain ⟨e',h1,h2,h3⟩:=h.ext i e he
  refine .mapr i g e' v h1 ho (by omega) (fun hgg=>?_)
  have:e.gen=e'.gen:=by omega
  obtain ⟨x1,x2,x3⟩:=h3 this
  have:=hl (by omega)
  unfold MapR at *
  rw [x1]
  exact this
 | fn f fs cs fs' cs' h1 h2 _ _ ih1 ih2=>exact .fn f fs cs fs' cs' h1 h2 ih1 ih2
 | iface t v u _ ih=>exact .iface t v u ih
 | agg cs vs h1 _ ih=>exact .agg cs vs h1 ih
 | tuple cs vs h1 _ ih=>exact .tuple cs vs h1 ih
def BR (X:Nat→Prop) (E:Env) (w:World) (e:Ent):ABlk→Prop
 | .dead g=>e.gen=g∧e.live=false
 | .cells g cs=>e.gen=g∧e.live=true∧(e.blk=none→cs=[])∧∀ B,e.blk=some B→∃ arr t lo hi,w.heap[B]?=some (.cells arr t (lo,hi)) ∧
   arr.size=e.room∧e.base+cs.length≤e.room∧(∀ j,j<e.room→¬ (lo≤j∧j<hi)) ∧
   ∀ j (hj:j<cs.length),∃ u,arr[e.base+j]?=some u∧VR X E w cs[j] u
 | .map g es=>e.gen=g∧e.live=true∧∃ B ents clock,e.blk=some B∧w.heap[B]?=some (.map ents clock)∧ents.size=es.length ∧
   (∀ j (hj:j<es.length) (hj':j<ents.size),VR X E w es[j].1 ents[j].key∧VR X E w es[j].2 ents[j].val) ∧
   (∀ j (hj:j<ents.size),ents[j].born<clock)∧(∀ i j (hi:i<ents.size) (hj:j<ents.size),i<j→ents[i].born<ents[j].born)
structure HR (X:Nat→Prop) (E:Env) (w:World) (H:AHeap):Prop where
 len:E.length=H.length
 inj:∀ (i j:Nat) (ei ej:Ent) (B:Nat),E[i]?=some ei→E[j]?=some ej→ei.live=true→ej.live=true→ei.blk=some B→ej.blk=some B→i=j
 own:∀ (i:Nat) (e:Ent) (B:Nat),E[i]?=some e→e.live=true→e.blk=some B→¬ X B∧B<w.heap.size
 br:∀ (i:Nat) (e:Ent) (b:ABlk),E[i]?=some e→H[i]?=some b→BR X E w e b
 bound:∀ B,X B→B<w.heap.size
theorem BR.mono {X:Nat→Prop} {E E':Env} {w w':World} (h:Ev E w E' w') {e:Ent} {b:ABlk} (hb:BR X E w e b)
  (hB:∀ B,e.live=true→e.blk=some B→w'.heap[B]?=w.heap[B]?):BR X E' w' e b:=by
 cases b with
 | dead g=>exact hb
 | cells g cs =>
  obtain ⟨h1,h2,h3,h4⟩:=hb
  refine ⟨h1,h2,h3,fun B hBe=>?_⟩
  obtain ⟨arr,t,lo,hi,k1,k2,k3,k4,k5⟩:=h4 B hBe
  refine ⟨arr,t,lo,hi,by rw [hB B h2 hBe];exact k1,k2,k3,k4,fun j hj=>?_⟩
  obtain ⟨u,u1,u2⟩:=k5 j hj
  exact ⟨u,u1,u2.mono h⟩
 | map g es =>
  obtain ⟨h1,h2,B,ents,clock,k1,k2,k3,k4,k5⟩:=hb
  exact ⟨h1,h2,B,ents,clock,k1,by rw [hB B h2 k1];exact k2,k3,fun j hj hj'=>⟨(k4 j hj hj').1.mono h,(k4 j hj hj').2.mono h⟩,k5⟩
theorem HR.mono {X:Nat→Prop} {E:Env} {w w':World} {H:AHeap} (hr:HR X E w H) (h:Ev E w E w')
  (hB:∀ B,Own E B→w'.heap[B]?=w.heap[B]?):HR X E w' H where
 len:=hr.len
 inj:=hr.inj
 own:=fun i e B h1 h2 h3=>⟨(hr.own i e B h1 h2 h3).1,Nat.lt_of_lt_of_le (hr.own i e B h1 h2 h3).2 h.size⟩
 br:=fun i e b h1 h2=>(hr.br i e b h1 h2).mono h (fun B hl hb=>hB B ⟨e,List.mem_of_getElem? h1,hl,hb⟩)
 bound:=fun B hX=>Nat.lt_of_lt_of_le (hr.bound B hX) h.size
theorem HR.drew {X:Nat→Prop} {E:Env} {w:World} {H:AHeap} (hr:HR X E w H) (n:Nat) (hn:w.drawn≤n:=by first|exact Nat.le_refl _|exact Nat.le_add_right _ _):HR X E { w with drawn:=n } H :=
 hr.mono ((Ev.refl E w).drew n hn) (fun _ _=>rfl)
theorem more_get (w:World) (o:Obj) (B:Nat) (h:B<w.heap.size):(World.alloc w o).heap[B]?=w.heap[B]?:=by
 show (w.heap.push o)[B]?=_
 rw [Array.getElem?_push,if_neg (by omega)]
theorem more_new (w:World) (o:Obj):(World.alloc w o).heap[w.heap.size]?=some o:=by
 show (w.heap.push o)[w.heap.size]?=_
 rw [Array.getElem?_push,if_pos rfl]
theorem Ev.more (E:Env) (w:World) (o:Obj):Ev E w E (World.alloc w o) :=
 ⟨rfl,rfl,rfl,by simp,fun B hB _=>more_get w o B hB,fun _ h=>.inl h,fun _ e h=>⟨e,h,Nat.le_refl _,fun _=>⟨rfl,rfl,rfl⟩⟩,Nat.le_refl _⟩
theorem HR.own_lt {X:Nat→Prop} {E:Env} {w:World} {H:AHeap} (hr:HR X E w H) {B:Nat} (h:Own E B):B<w.heap.size:=by
 obtain ⟨e,he,hl,hb⟩:=h
 obtain ⟨i,hi,rfl⟩:=List.getElem_of_mem he
 exact (hr.own i _ B (by simp [hi]) hl hb).2
theorem HR.more {X:Nat→Prop} {E:Env} {w:World} {H:AHeap} (hr:HR X E w H) (o:Obj):HR X E (World.alloc w o) H :=
 hr.mono (Ev.more E w o) (fun B h=>more_get w o B (hr.own_lt h))
theorem Own.app {E E':Env} {B:Nat}:Own (E++E') B↔Own E B∨Own E' B:=by
 unfold Own
 constructor
 ·rintro ⟨e,he,h⟩
  rcases List.mem_append.1 he with he|he
  ·exact .inl ⟨e,he,h⟩
  ·exact .inr ⟨e,he,h⟩
 ·rintro (⟨e,he,h⟩|⟨e,he,h⟩)
  ·exact ⟨e,List.mem_append.2 (.inl he),h⟩
  ·exact ⟨e,List.mem_append.2 (.inr he),h⟩
theorem Ev.new (E:Env) (w:World) (o:Obj) (e:Ent) (he:∀ B,e.blk=some B→w.heap.size≤B):Ev E w (E++[e]) (World.alloc w o):=by
 refine ⟨rfl,rfl,rfl,by simp,fun B hB _=>more_get w o B hB,fun B h=>?_,fun i e' h=>⟨e',?_,Nat.le_refl _,fun _=>⟨rfl,rfl,rfl⟩⟩,Nat.le_refl _⟩
 ·rcases Own.app.1 h with h|⟨e',hm,h1,h2⟩
  ·exact .inl h
  ·simp at hm
   subst hm
   exact .inr (he B h2)
 ·rw [List.getElem?_append_left (by
   rcases Nat.lt_or_ge i E.length with h'|h'
   ·exact h'
   ·rw [List.getElem?_eq_none h'] at h;cases h)]
  exact h
theorem HR.new {X:Nat→Prop} {E:Env} {w:World} {H:AHeap} (hr:HR X E w H) (o:Obj) (e:Ent) (b:ABlk) (he:e.blk=some w.heap.size)
  (hb:BR X (E++[e]) (World.alloc w o) e b):HR X (E++[e]) (World.alloc w o) (H++[b]) where
 len:=by simp [hr.len]
 inj:=by
  intro i j ei ej B h1 h2 h3 h4 h5 h6
  have key:∀ k ek,(E++[e])[k]?=some ek→ek.live=true→ek.blk=some B→(k<E.length∧E[k]?=some ek∧B<w.heap.size)∨(k=E.length∧B=w.heap.size):=by
   intro k ek hk hl hbk
   rcases Nat.lt_or_ge k E.length with h'|h'
   ·rw [List.getElem?_append_left h'] at hk
    exact .inl ⟨h',hk,(hr.own k ek B hk hl hbk).2⟩
   ·rw [List.getElem?_append_right h'] at hk
    rcases Nat.eq_zero_or_pos (k - E.length) with h0|h0
    ·rw [h0] at hk
     simp at hk
     subst hk
     rw [he] at hbk
     injection hbk with hbk
     exact .inr ⟨by omega,hbk.symm⟩
    ·rw [List.getElem?_eq_none (by simp;omega)] at hk
     cases hk
  rcases key i ei h1 h3 h5 with ⟨a1,a2,a3⟩|⟨a1,a2⟩<;>rcases key j ej h2 h4 h6 with ⟨b1,b2,b3⟩|⟨b1,b2⟩
  ·exact hr.inj i j ei ej B a2 b2 h3 h4 h5 h6
  ·omega
  ·omega
  ·omega
 own:=by
  intro i e' B h1 h2 h3
  rcases Nat.lt_or_ge i E.length with h'|h'
  ·rw [List.getElem?_append_left h'] at h1
   have:=hr.own i e' B h1 h2 h3
   exact ⟨this.1,by simp;omega⟩
  ·rw [List.getElem?_append_right h'] at h1
   rcases Nat.eq_zero_or_pos (i - E.length) with h0|h0
   ·rw [h0] at h1
    simp at h1
    subst h1
    rw [he] at h3
    injection h3 with h3
    subst h3
    exact ⟨fun hX=>by have:=hr.bound _ hX;omega,by simp⟩
   ·rw [List.getElem?_eq_none (by simp;omega)] at h1
    cases h1
 br:=by
  intro i e' b' h1 h2
  rcases Nat.lt_or_ge i E.length with h'|h'
  ·rw [List.getElem?_append_left h'] at h1
   rw [List.getElem?_append_left (by rw [←hr.len];exact h')] at h2
   refine (hr.br i e' b' h1 h2).mono (Ev.new E w o e (fun B hB=>by rw [he] at hB;injection hB with hB;omega)) (fun B hl hB=>?_)
   exact more_get w o B (hr.own i e' B h1 hl hB).2
  ·rw [List.getElem?_append_right h'] at h1
   rw [List.getElem?_append_right (by rw [←hr.len];exact h')] at h2
   rw [hr.len] at h1
   rcases Nat.eq_zero_or_pos (i - H.length) with h0|h0
   ·rw [h0] at h1 h2
    simp at h1 h2
    subst h1 h2
    exact hb
   ·rw [List.getElem?_eq_none (by simp;omega)] at h1
    cases h1
 bound:=fun B hX=>by have:=hr.bound B hX;simp;omega
theorem HR.newCells {X:Nat→Prop} {E:Env} {w:World} {H:AHeap} (hr:HR X E w H) (cs:List AV) (vs:Array Value) (t:TypeId) (room:cs.length≤vs.size)
  (h:∀ j (hj:j<cs.length) (hj':j<vs.size),VR X E w cs[j] vs[j]) :
  Ev E w (E++[⟨0,some w.heap.size,0,vs.size,true⟩]) (World.alloc w (.cells vs t))∧HR X (E++[⟨0,some w.heap.size,0,vs.size,true⟩]) (World.alloc w (.cells vs t)) (H++[.cells 0 cs]):=by
 have hev:Ev E w (E++[⟨0,some w.heap.size,0,vs.size,true⟩]) (World.alloc w (.cells vs t)):=Ev.new E w _ _ (fun B hB=>by injection hB with hB;omega)
 refine ⟨hev,hr.new _ _ _ rfl ⟨rfl,rfl,(fun hn=>by cases hn),fun B hB=>?_⟩⟩
 injection hB with hB
 subst hB
 refine ⟨vs,t,0,0,more_new _ _,rfl,by simpa using room,fun j _=>by omega,fun j hj=>⟨vs[j]'(by omega),?_,(h j hj (by omega)).mono hev⟩⟩
 show vs[0+j]?=_
 rw [Nat.zero_add]
 exact Array.getElem?_eq_getElem (by omega)
theorem HR.ent {X:Nat→Prop} {E:Env} {w:World} {H:AHeap} (hr:HR X E w H) {i:Nat} {b:ABlk} (h:H[i]?=some b):∃ e,E[i]?=some e∧BR X E w e b:=by
 have hi:i<H.length:=by
  rcases Nat.lt_or_ge i H.length with h'|h'
  ·exact h'
  ·rw [List.getElem?_eq_none h'] at h;cases h
 have he:E[i]?=some (E[i]'(by rw [hr.len];exact hi)):=List.getElem?_eq_getElem _
 exact ⟨_,he,hr.br i _ b he h⟩
theorem cell_of {w:World} {B o:Nat} {arr:Array Value} {t:TypeId} {fr:Nat×Nat} (h:w.heap[B]?=some (.cells arr t fr)):w.cell? ⟨B,o,none⟩=arr[o]?:=by
 unfold World.cell?
 rw [h]
 simp
theorem HR.cell {X:Nat→Prop} {E:Env} {w:World} {H:AHeap} (hr:HR X E w H) {i g:Nat} {cs:List AV} (h:H[i]?=some (.cells g cs)) {e:Ent} (he:E[i]?=some e)
  {B:Nat} (hB:e.blk=some B) (j:Nat) (hj:j<cs.length):∃ u,w.cell? ⟨B,e.base+j,none⟩=some u∧VR X E w cs[j] u∧w.frozen? ⟨B,e.base+j,none⟩=false:=by
 obtain ⟨h1,h2,h3,h4⟩:=hr.br i e _ he h
 obtain ⟨arr,t,lo,hi,k1,k2,k3,k4,k5⟩:=h4 B hB
 obtain ⟨u,u1,u2⟩:=k5 j hj
 refine ⟨u,by rw [cell_of k1];exact u1,u2,?_⟩
 unfold World.frozen?
 rw [k1]
 have:=k4 (e.base+j) (by omega)
 simp
 omega
theorem setCell_get (w:World) (B o:Nat) (v:Value) (B':Nat) (h:B'≠B):(w.setCell ⟨B,o,none⟩ v).heap[B']?=w.heap[B']?:=by
 simp only [World.setCell,Array.getElem?_modify]
 rw [if_neg (by omega)]
theorem setCell_self {w:World} {B o:Nat} {v:Value} {arr:Array Value} {t:TypeId} {fr:Nat×Nat} (h:w.heap[B]?=some (.cells arr t fr)) :
  (w.setCell ⟨B,o,none⟩ v).heap[B]?=some (.cells (arr.setIfInBounds o v) t fr):=by
 simp only [World.setCell,Array.getElem?_modify]
 simp [h]
theorem Ev.setCell {E:Env} {w:World} {B o:Nat} {v:Value} (h:Own E B):Ev E w E (w.setCell ⟨B,o,none⟩ v) :=
 ⟨rfl,rfl,rfl,by simp [World.setCell],fun B' _ hO=>setCell_get w B o v B' (fun he=>hO (he▸h)),fun _ h=>.inl h,fun _ e h=>⟨e,h,Nat.le_refl _,fun _=>⟨rfl,rfl,rfl⟩⟩,Nat.le_refl _⟩
theorem HR.store {X:Nat→Prop} {E:Env} {w:World} {H:AHeap} (hr:HR X E w H) {i g:Nat} {cs:List AV} (h:H[i]?=some (.cells g cs)) {e:Ent} (he:E[i]?=some e)
  {B:Nat} (hB:e.blk=some B) (j:Nat) (hj:j<cs.length) {av:AV} {v:Value} (hv:VR X E w av v) :
  Ev E w E (w.setCell ⟨B,e.base+j,none⟩ v)∧HR X E (w.setCell ⟨B,e.base+j,none⟩ v) (H.set i (.cells g (cs.set j av))):=by
 have hbr:=hr.br i e _ he h
 have hown:Own E B:=⟨e,List.mem_of_getElem? he,hbr.2.1,hB⟩
 have hev:Ev E w E (w.setCell ⟨B,e.base+j,none⟩ v):=Ev.setCell hown
 refine ⟨hev,⟨by simp [hr.len],hr.inj,fun i e B h1 h2 h3=>⟨(hr.own i e B h1 h2 h3).1,Nat.lt_of_lt_of_le (hr.own i e B h1 h2 h3).2 hev.size⟩,?_,fun B hX=>Nat.lt_of_lt_of_le (hr.bound B hX) hev.size⟩⟩
 intro i' e' b' he' hb'
 by_cases hii:i'=i
 ·subst hii
  rw [he] at he'
  injection he' with he'
  subst he'
  rw [List.getElem?_set_self (by
   rcases Nat.lt_or_ge i' H.length with h'|h'
   ·exact h'
   ·rw [List.getElem?_eq_none h'] at h;cases h)] at hb'
  injection hb' with hb'
  subst hb'
  obtain ⟨h1,h2,h3,h4⟩:=hbr
  refine ⟨h1,h2,(fun hn=>by rw [hn] at hB;cases hB),fun B' hB'=>?_⟩
  rw [hB] at hB'
  injection hB' with hB'
  subst hB'
  obtain ⟨arr,t,lo,hi,k1,k2,k3,k4,k5⟩:=h4 B hB
  refine ⟨_,t,lo,hi,setCell_self k1,by simpa using k2,by simpa using k3,k4,fun j' hj'=>?_⟩
  simp only [List.length_set] at hj'
  by_cases hjj:j'=j
  ·subst hjj
   refine ⟨v,?_,?_⟩
   ·rw [Array.getElem?_setIfInBounds_self_of_lt (by omega)]
   ·simp only [List.getElem_set_self]
    exact hv.mono hev
  ·obtain ⟨u,u1,u2⟩:=k5 j' hj'
   refine ⟨u,?_,?_⟩
   ·rw [Array.getElem?_setIfInBounds_ne (by omega)]
    exact u1
   ·rw [List.getElem_set_ne (by omega)]
    exact u2.mono hev
 ·rw [List.getElem?_set_ne (by omega)] at hb'
  refine (hr.br i' e' b' he' hb').mono hev (fun B' hl hb=>setCell_get _ _ _ _ _ (fun hBB=>?_))
  subst hBB
  exact hii (hr.inj i' i e' e _ he' he hl hbr.2.1 hb hB)
theorem lt_of_get {α:Type} {l:List α} {i:Nat} {x:α} (h:l[i]?=some x):i<l.length:=by
 rcases Nat.lt_or_ge i l.length with h'|h'
 ·exact h'
 ·rw [List.getElem?_eq_none h'] at h;cases h
theorem own_set {E:Env} {i:Nat} {e':Ent} {B:Nat} (h:Own (E.set i e') B):Own E B∨(e'.live=true∧e'.blk=some B):=by
 obtain ⟨x,hx,h1,h2⟩:=h
 rcases List.mem_or_eq_of_mem_set hx with hx|rfl
 ·exact .inl ⟨x,hx,h1,h2⟩
 ·exact .inr ⟨h1,h2⟩
theorem Ev.turn {E:Env} {w w':World} {i:Nat} {e e':Ent} (he:E[i]?=some e) (os:w'.os=w.os) (tape:w'.tape=w.tape) (output:w'.output=w.output) (size:w.heap.size≤w'.heap.size)
  (keep:∀ B,B<w.heap.size→¬ Own E B→w'.heap[B]?=w.heap[B]?) (hown:∀ B,e'.live=true→e'.blk=some B→Own E B∨w.heap.size≤B)
  (hg:e.gen≤e'.gen) (hm:e.gen=e'.gen→e'.blk=e.blk∧e'.base=e.base∧e'.room=e.room) (hd:w.drawn≤w'.drawn:=by first|exact Nat.le_refl _|exact Nat.le_add_right _ _):Ev E w (E.set i e') w':=by
 refine ⟨os,tape,output,size,keep,fun B hB=>?_,fun j x hx=>?_,nd_le hd⟩
 ·rcases own_set hB with h|⟨h1,h2⟩
  ·exact .inl h
  ·exact hown B h1 h2
 ·by_cases hj:j=i
  ·subst hj
   rw [he] at hx
   injection hx with hx
   subst hx
   exact ⟨e',List.getElem?_set_self (lt_of_get he),hg,hm⟩
  ·exact ⟨x,by rw [List.getElem?_set_ne (by omega)];exact hx,Nat.le_refl _,fun _=>⟨rfl,rfl,rfl⟩⟩
theorem HR.turn {X:Nat→Prop} {E:Env} {w w':World} {H:AHeap} (hr:HR X E w H) {i:Nat} {e e':Ent} {b':ABlk} (he:E[i]?=some e)
  (hev:Ev E w (E.set i e') w') (hoth:∀ B,Own E B→(e.live=true→e.blk≠some B)→w'.heap[B]?=w.heap[B]?)
  (hown:∀ B,e'.live=true→e'.blk=some B→(¬ X B∧B<w'.heap.size)∧((e.live=true∧e.blk=some B)∨w.heap.size≤B))
  (hb:BR X (E.set i e') w' e' b'):HR X (E.set i e') w' (H.set i b') where
 len:=by simp [hr.len]
 inj:=by
  intro j k ej ek B h1 h2 h3 h4 h5 h6
  have key:∀ m em,(E.set i e')[m]?=some em→em.live=true→em.blk=some B→(m≠i∧E[m]?=some em)∨(m=i∧em=e'):=by
   intro m em hm hl hbk
   by_cases hmi:m=i
   ·subst hmi
    rw [List.getElem?_set_self (lt_of_get he)] at hm
    injection hm with hm
    exact .inr ⟨rfl,hm.symm⟩
   ·rw [List.getElem?_set_ne (by omega)] at hm
    exact .inl ⟨hmi,hm⟩
  rcases key j ej h1 h3 h5 with ⟨a1,a2⟩|⟨a1,a2⟩<;>rcases key k ek h2 h4 h6 with ⟨b1,b2⟩|⟨b1,b2⟩
  ·exact hr.inj j k ej ek B a2 b2 h3 h4 h5 h6
  ·subst b2
   rcases (hown B h4 h6).2 with ⟨c1,c2⟩|c
   ·have:=hr.inj j i ej e B a2 he h3 c1 h5 c2
    omega
   ·have:=(hr.own j ej B a2 h3 h5).2
    omega
  ·subst a2
   rcases (hown B h3 h5).2 with ⟨c1,c2⟩|c
   ·have:=hr.inj k i ek e B b2 he h4 c1 h6 c2
    omega
   ·have:=(hr.own k ek B b2 h4 h6).2
    omega
  ·omega
 own:=by
  intro j x B h1 h2 h3
  by_cases hj:j=i
  ·subst hj
   rw [List.getElem?_set_self (lt_of_get he)] at h1
   injection h1 with h1
   subst h1
   exact (hown B h2 h3).1
  ·rw [List.getElem?_set_ne (by omega)] at h1
   have:=hr.own j x B h1 h2 h3
   exact ⟨this.1,Nat.lt_of_lt_of_le this.2 hev.size⟩
 br:=by
  intro j x b h1 h2
  by_cases hj:j=i
  ·subst hj
   rw [List.getElem?_set_self (lt_of_get he)] at h1
   rw [List.getElem?_set_self (by rw [←hr.len];exact lt_of_get he)] at h2
   injection h1 with h1
   injection h2 with h2
   subst h1 h2
   exact hb
  ·rw [List.getElem?_set_ne (by omega)] at h1 h2
   refine (hr.br j x b h1 h2).mono hev (fun B hl hB=>hoth B ⟨x,List.mem_of_getElem? h1,hl,hB⟩ (fun hle hBe=>?_))
   exact hj (hr.inj j i x e B h1 he hl hle hB hBe)
 bound:=fun B hX=>Nat.lt_of_lt_of_le (hr.bound B hX) hev.size
theorem HR.kill {X:Nat→Prop} {E:Env} {w:World} {H:AHeap} (hr:HR X E w H) {i:Nat} {e:Ent} (he:E[i]?=some e) :
  Ev E w (E.set i { e with live:=false }) w∧HR X (E.set i { e with live:=false }) w (H.set i (.dead e.gen)):=by
 have hev:Ev E w (E.set i { e with live:=false }) w :=
  Ev.turn he rfl rfl rfl (Nat.le_refl _) (fun _ _ _=>rfl) (fun B h1=>by cases h1) (Nat.le_refl _) (fun _=>⟨rfl,rfl,rfl⟩)
 exact ⟨hev,hr.turn he hev (fun _ _ _=>rfl) (fun B h1=>by cases h1) ⟨rfl,rfl⟩⟩
theorem kill_lone {X:Nat→Prop} {E:Env} {w:World} {H:AHeap} (hr:HR X E w H) {i:Nat} {e:Ent} (he:E[i]?=some e) (hl:e.live=true) {B:Nat} (hB:e.blk=some B) :
  Lone X (E.set i { e with live:=false }) B:=by
 refine ⟨(hr.own i e B he hl hB).1,fun ho=>?_⟩
 obtain ⟨x,hx,h1,h2⟩:=ho
 obtain ⟨j,hj,hjx⟩:=List.getElem_of_mem hx
 by_cases hji:j=i
 ·subst hji
  simp at hjx
  subst hjx
  cases h1
 ·rw [List.getElem_set_ne (by omega)] at hjx
  have hj':E[j]?=some x:=by rw [←hjx];exact List.getElem?_eq_getElem _
  exact hji (hr.inj j i x e B hj' he h1 hl h2 hB)
inductive RL (n:Nat):AV→Prop where
 | any:RL n .any
 | bool (b:Bool):RL n (.bool b)
 | int (k:IntKind) (m:Int):RL n (.int k m)
 | str (s:ByteArray):RL n (.str s)
 | nilFunc:RL n .nilFunc
 | nilIface:RL n .nilIface
 | nilPtr:RL n .nilPtr
 | nilMap:RL n .nilMap
 | nilS:RL n .nilS
 | rows (c:Bool) (sz:Nat) (es:List (List AV)) (h:∀ x∈es,∀ y∈x,RL n y):RL n (.rows c sz es)
 | loc (i g off len sz:Nat) (c:Bool) (h:i<n):RL n (.loc i g off len sz c)
 | ptr (i g off:Nat) (h:i<n):RL n (.ptr i g off)
 | rptr (cs:List AV) (h:∀ y∈cs,RL n y):RL n (.rptr cs)
 | mapr (i g:Nat) (h:i<n):RL n (.mapr i g)
 | fn (f:Fn) (fs cs:List AV) (h:∀ y∈fs,RL n y) (h':∀ y∈cs,RL n y):RL n (.fn f fs cs)
 | iface (t:TypeId) (v:AV) (h:RL n v):RL n (.iface t v)
 | agg (cs:List AV) (h:∀ y∈cs,RL n y):RL n (.agg cs)
 | tuple (cs:List AV) (h:∀ y∈cs,RL n y):RL n (.tuple cs)
@[simp] theorem RL_any {n:Nat}:RL n .any:=.any
@[simp] theorem RL_bool {n:Nat} {b:Bool}:RL n (.bool b):=.bool b
@[simp] theorem RL_int {n:Nat} {k:IntKind} {m:Int}:RL n (.int k m):=.int k m
@[simp] theorem RL_str {n:Nat} {s:ByteArray}:RL n (.str s):=.str s
@[simp] theorem RL_nilFunc {n:Nat}:RL n .nilFunc:=.nilFunc
@[simp] theorem RL_nilIface {n:Nat}:RL n .nilIface:=.nilIface
@[simp] theorem RL_nilPtr {n:Nat}:RL n .nilPtr:=.nilPtr
@[simp] theorem RL_nilMap {n:Nat}:RL n .nilMap:=.nilMap
@[simp] theorem RL_nilS {n:Nat}:RL n .nilS:=.nilS
@[simp] theorem RL_rows {n:Nat} {c:Bool} {sz:Nat} {es:List (List AV)}:RL n (.rows c sz es)↔∀ x∈es,∀ y∈x,RL n y:=⟨fun h=>by cases h;assumption,.rows c sz es⟩
@[simp] theorem RL_loc {n i g off len sz:Nat} {c:Bool}:RL n (.loc i g off len sz c)↔i<n:=⟨fun h=>by cases h;assumption,.loc i g off len sz c⟩
@[simp] theorem RL_ptr {n i g off:Nat}:RL n (.ptr i g off)↔i<n:=⟨fun h=>by cases h;assumption,.ptr i g off⟩
@[simp] theorem RL_rptr {n:Nat} {cs:List AV}:RL n (.rptr cs)↔∀ y∈cs,RL n y:=⟨fun h=>by cases h;assumption,.rptr cs⟩
@[simp] theorem RL_mapr {n i g:Nat}:RL n (.mapr i g)↔i<n:=⟨fun h=>by cases h;assumption,.mapr i g⟩
@[simp] theorem RL_fn {n:Nat} {f:Fn} {fs cs:List AV}:RL n (.fn f fs cs)↔(∀ y∈fs,RL n y)∧∀ y∈cs,RL n y:=⟨fun h=>by cases h;exact ⟨by assumption,by assumption⟩,fun h=>.fn _ _ _ h.1 h.2⟩
@[simp] theorem RL_iface {n:Nat} {t:TypeId} {v:AV}:RL n (.iface t v)↔RL n v:=⟨fun h=>by cases h;assumption,.iface t v⟩
@[simp] theorem RL_agg {n:Nat} {cs:List AV}:RL n (.agg cs)↔∀ y∈cs,RL n y:=⟨fun h=>by cases h;assumption,.agg cs⟩
@[simp] theorem RL_tuple {n:Nat} {cs:List AV}:RL n (.tuple cs)↔∀ y∈cs,RL n y:=⟨fun h=>by cases h;assumption,.tuple cs⟩
def RLB (n:Nat):ABlk→Prop
 | .dead _=>True
 | .cells _ cs=>∀ y∈cs,RL n y
 | .map _ es=>∀ y∈es,RL n y.1∧RL n y.2
theorem Own.take {E:Env} {n B:Nat} (h:Own (E.take n) B):Own E B:=by
 obtain ⟨e,he,h⟩:=h
 exact ⟨e,List.mem_of_mem_take he,h⟩
theorem get_take {α:Type} {l:List α} {n i:Nat} {x:α} (h:l[i]?=some x) (hi:i<n):(l.take n)[i]?=some x:=by
 rw [List.getElem?_take];simp [hi,h]
theorem get_of_take {α:Type} {l:List α} {n i:Nat} {x:α} (h:(l.take n)[i]?=some x):l[i]?=some x∧i<n:=by
 rw [List.getElem?_take] at h
 split at h
 ·exact ⟨h,by assumption⟩
 ·cases h
theorem VR.take {X:Nat→Prop} {E:Env} {w:World} {av:AV} {v:Value} (n:Nat) (hv:VR X E w av v) (hn:RL n av):VR X (E.take n) w av v:=by
 induction hv with
 | any v=>exact .any v
 | bool b=>exact .bool b
 | int k n=>exact .int k n
 | str s hs=>exact .str s hs
 | nilFunc=>exact .nilFunc
 | nilIface=>exact .nilIface
 | nilPtr=>exact .nilPtr
 | nilMap=>exact .nilMap
 | nilS=>exact .nilS
 | rows clip sz es a c ad f hn' hc hclip hsz ha hL hcell _ ih =>
  simp at hn
  exact .rows clip sz es a c ad f hn' hc hclip hsz ha (fun h0 hz=>⟨(hL h0 hz).1,fun ho=>(hL h0 hz).2 ho.take⟩) hcell
   (fun i hi j hj=>ih i hi j hj (hn _ (List.getElem_mem _) _ (List.getElem_mem _)))
 | loc i g off len sz clip e v he ho hg hl=>simp at hn;exact .loc i g off len sz clip e v (get_take he hn) ho hg hl
 | ptr i g off e v he ho hg hl=>simp at hn;exact .ptr i g off e v (get_take he hn) ho hg hl
 | rptr cs ad f hL hcell _ ih =>
  simp at hn
  exact .rptr cs ad f (fun h0=>⟨(hL h0).1,fun ho=>(hL h0).2 ho.take⟩) hcell (fun j hj=>ih j hj (hn _ (List.getElem_mem _)))
 | mapr i g e v he ho hg hl=>simp at hn;exact .mapr i g e v (get_take he hn) ho hg hl
 | fn f fs cs fs' cs' h1 h2 _ _ ih1 ih2 =>
  simp at hn
  exact .fn f fs cs fs' cs' h1 h2 (fun j hj hj'=>ih1 j hj hj' (hn.1 _ (List.getElem_mem _))) (fun j hj hj'=>ih2 j hj hj' (hn.2 _ (List.getElem_mem _)))
 | iface t v u _ ih=>simp at hn;exact .iface t v u (ih hn)
 | agg cs vs h1 _ ih=>simp at hn;exact .agg cs vs h1 (fun j hj hj'=>ih j hj hj' (hn _ (List.getElem_mem _)))
 | tuple cs vs h1 _ ih=>simp at hn;exact .tuple cs vs h1 (fun j hj hj'=>ih j hj hj' (hn _ (List.getElem_mem _)))
theorem HR.take {X:Nat→Prop} {E:Env} {w:World} {H:AHeap} (hr:HR X E w H) (n:Nat) (hn:∀ b∈H.take n,RLB n b):HR X (E.take n) w (H.take n) where
 len:=by simp [hr.len]
 inj:=fun i j ei ej B h1 h2=>hr.inj i j ei ej B (get_of_take h1).1 (get_of_take h2).1
 own:=fun i e B h1=>hr.own i e B (get_of_take h1).1
 br:=by
  intro i e b h1 h2
  have hb:=hr.br i e b (get_of_take h1).1 (get_of_take h2).1
  have hR:=hn b (List.mem_of_getElem? h2)
  cases b with
  | dead g=>exact hb
  | cells g cs =>
   obtain ⟨k1,k2,k3,k4⟩:=hb
   refine ⟨k1,k2,k3,fun B hB=>?_⟩
   obtain ⟨arr,t,lo,hi,m1,m2,m3,m4,m5⟩:=k4 B hB
   refine ⟨arr,t,lo,hi,m1,m2,m3,m4,fun j hj=>?_⟩
   obtain ⟨u,u1,u2⟩:=m5 j hj
   exact ⟨u,u1,u2.take n (hR _ (List.getElem_mem _))⟩
  | map g es =>
   obtain ⟨k1,k2,B,ents,clock,m1,m2,m3,m4,m5⟩:=hb
   exact ⟨k1,k2,B,ents,clock,m1,m2,m3,fun j hj hj'=>⟨(m4 j hj hj').1.take n (hR _ (List.getElem_mem _)).1,(m4 j hj hj').2.take n (hR _ (List.getElem_mem _)).2⟩,m5⟩
 bound:=hr.bound
theorem Ev.take {E E':Env} {w w':World} (h:Ev E w E' w') (n:Nat) (hn:E.length≤n):Ev E w (E'.take n) w' :=
 ⟨h.os,h.tape,h.output,h.size,h.keep,fun B hB=>h.own B hB.take,fun i e he=>by
  obtain ⟨e',h1,h2⟩:=h.ext i e he
  exact ⟨e',get_take h1 (Nat.lt_of_lt_of_le (lt_of_get he) hn),h2⟩,h.draw⟩
abbrev Tm:=List (Nat×AV)
def Tm.get:Tm→Nat→AV
 | [],_=>.any
 | (k,v)::T,n=>if k=n then v else Tm.get T n
structure TR (X:Nat→Prop) (E:Env) (w:World) (T:Tm) (tmps:Array Value):Prop where
 rel:∀ k,VR X E w (T.get k) (tmps.getD k undef)
theorem TR.mono {X:Nat→Prop} {E E':Env} {w w':World} {T:Tm} {tmps:Array Value} (h:TR X E w T tmps) (hev:Ev E w E' w'):TR X E' w' T tmps :=
 ⟨fun k=>(h.rel k).mono hev⟩
theorem TR.set {X:Nat→Prop} {E:Env} {w:World} {T:Tm} {tmps:Array Value} (h:TR X E w T tmps) {d:Nat} (hd:d<tmps.size) {av:AV} {v:Value} (hv:VR X E w av v) :
  TR X E w ((d,av)::T) (tmps.setIfInBounds d v):=by
 refine ⟨fun k=>?_⟩
 simp only [Tm.get]
 split
 ·rename_i e
  subst e
  simp [hd]
  exact hv
 ·rename_i e
  have:=h.rel k
  simp only [Array.getD_eq_getD_getElem?] at *
  rw [Array.getElem?_setIfInBounds_ne e]
  exact this
theorem TR.sub {X:Nat→Prop} {E:Env} {w:World} {T T':Tm} {tmps:Array Value} (h:TR X E w T tmps) (hs:∀ k,T'.get k=.any∨T'.get k=T.get k):TR X E w T' tmps :=
 ⟨fun k=>by rcases hs k with e|e<;>rw [e];exact .any _;exact h.rel k⟩
end Go.AM
namespace Go.AM
set_option linter.unusedVariables false
set_option linter.unusedSimpArgs false
inductive LK where
 | bool
 | int (k:IntKind)
 | str
 deriving Inhabited
def LK.fits:LK→Value→Bool
 | .bool,.bool _=>true
 | .int k,.int k' _=>decide (k=k')
 | .str,.string _=>true
 | _,_=>false
def fitsL:List LK→List Value→Bool
 | [],[]=>true
 | k::ks,v::vs=>k.fits v&&fitsL ks vs
 | _,_=>false
def leafB:Value→Value→Bool
 | .bool a,.bool b=>a==b
 | .int _ a,.int _ b=>a==b
 | .string a,.string b=>a.toList==b.toList
 | _,_=>false
def leavesB:List Value→List Value→Bool
 | [],[]=>true
 | v::vs,u::us=>leafB v u&&leavesB vs us
 | _,_=>false
def flatFs (g:TypeId→Option (List LK)):Nat→List Field→Option (List LK)
 | _,[]=>some []
 | off,f::fs=>if f.name≠"_"∧f.offset=off then
   match g f.type with
   | some ks=>match flatFs g (off+ks.length) fs with
    | some ks'=>some (ks++ks')
    | none=>none
   | none=>none
  else none
def flatKs (P:Program):Nat→TypeId→Option (List LK)
 | 0,_=>none
 | m+1,t=>match P.underlying t,P.info? t with
  | some .bool,some i=>if i.size=1 then some [.bool] else none
  | some (.int k),some i=>if i.size=1 then some [.int k] else none
  | some .string,some i=>if i.size=1 then some [.str] else none
  | some (.array n e),some i=>match flatKs P m e with
   | some ks=>if i.size=n*ks.length then some (List.replicate n ks).flatten else none
   | none=>none
  | some (.struct fs),some i=>if P.stoodInHeld t=false then
    match flatFs (flatKs P m) 0 fs.toList with
    | some ks=>if i.size=ks.length then some ks else none
    | none=>none
   else none
  | _,_=>none
theorem fitsL_len:∀ {ks:List LK} {vs:List Value},fitsL ks vs=true→vs.length=ks.length
 | [],[],_=>rfl
 | k::ks,v::vs,h=>by simp [fitsL] at h;simp [fitsL_len h.2]
 | [],_::_,h=>by simp [fitsL] at h
 | _::_,[],h=>by simp [fitsL] at h
theorem fitsL_app:∀ {ks ks':List LK} {vs:List Value},fitsL (ks++ks') vs=true→fitsL ks (vs.take ks.length)=true∧fitsL ks' (vs.drop ks.length)=true
 | [],ks',vs,h=>by simpa [fitsL] using h
 | k::ks,ks',v::vs,h=>by
  simp [fitsL] at h
  obtain ⟨a,b⟩:=fitsL_app h.2
  simp [fitsL,h.1,a,b]
 | k::ks,ks',[],h=>by simp [fitsL] at h
theorem leavesB_app:∀ {as bs cs ds:List Value},as.length=bs.length→leavesB (as++cs) (bs++ds)=(leavesB as bs&&leavesB cs ds)
 | [],[],cs,ds,_=>by simp [leavesB]
 | a::as,b::bs,cs,ds,h=>by simp [leavesB,leavesB_app (as:=as) (bs:=bs) (by simpa using h),Bool.and_assoc]
 | [],_::_,_,_,h=>by simp at h
 | _::_,[],_,_,h=>by simp at h
def wideT (P:Program) (t:TypeId):Bool:=match P.underlying t with
 | some (.array _ _)|some (.struct _)=>true
 | _=>false
def FV (P:Program) (t:TypeId) (ks:List LK) (v:Value):Prop :=
 fitsL ks v.cells.toList=true∧((wideT P t)=true↔∃ xs,v=.agg xs)
variable {P:Program} {w:World}
theorem flatKs_info {m:Nat} {t:TypeId} {ks:List LK} (h:flatKs P m t=some ks):∃ i d,P.info? t=some i∧P.underlying t=some d∧i.size=ks.length ∧
  ((wideT P t)=false→ks.length=1):=by
 cases m with
 | zero=>cases h
 | succ m =>
  simp only [flatKs] at h
  cases hu:P.underlying t with
  | none=>simp only [hu] at h;cases h
  | some d =>
   cases hi:P.info? t with
   | none=>simp only [hu,hi] at h;cases d<;>cases h
   | some i =>
    refine ⟨i,d,rfl,rfl,?_⟩
    simp only [hu,hi] at h
    cases d<;>simp only at h<;>first|(cases h;done)|skip
    ·split at h
     ·rename_i hs;injection h with h;subst h;exact ⟨hs,fun _=>rfl⟩
     ·cases h
    ·split at h
     ·rename_i hs;injection h with h;subst h;exact ⟨hs,fun _=>rfl⟩
     ·cases h
    ·split at h
     ·rename_i hs;injection h with h;subst h;exact ⟨hs,fun _=>rfl⟩
     ·cases h
    ·split at h
     ·split at h
      ·rename_i hs
       injection h with h
       subst h
       refine ⟨by rw [hs];simp,fun h=>by simp [wideT,hu] at h⟩
      ·cases h
     ·cases h
    ·split at h
     ·split at h
      ·split at h
       ·rename_i hs;injection h with h;subst h;exact ⟨hs,fun h=>by simp [wideT,hu] at h⟩
       ·cases h
      ·cases h
     ·cases h
theorem cells_toList_one {v:Value} (h:¬ ∃ xs,v=.agg xs):v.cells.toList=[v]:=by
 cases v<;>first|rfl|exact absurd ⟨_,rfl⟩ h
theorem part_flat {m:Nat} {t:TypeId} {ks:List LK} (h:flatKs P m t=some ks) {xs:Array Value} {off:Nat} (hf:fitsL ks ((xs.toList.drop off).take ks.length)=true) :
  ∃ u,(part t xs off).run P w=.ok u w∧FV P t ks u∧u.cells.toList=(xs.toList.drop off).take ks.length:=by
 obtain ⟨i,d,hi,hu,hs,h1⟩:=flatKs_info h
 have hsz:(sizeOf t).run P w=.ok ks.length w:=by simp [sizeOf,typeInfo,hi,hs]
 have hlen:=fitsL_len hf
 by_cases hag:(wideT P t)=true
 ·refine ⟨.agg (xs.extract off (off+ks.length)),?_,⟨?_,?_⟩,?_⟩
  ·have:(isAgg t).run P w=.ok true w:=by
    unfold isAgg
    simp only [Sem.run_bind,run_underlying hu,Result.andThen_ok]
    simp only [wideT,hu] at hag
    cases d<;>simp at hag ⊢
   simp [part,this,hsz]
  ·have e:((Value.agg (xs.extract off (off+ks.length))).cells.toList)=(xs.toList.drop off).take ks.length:=by
    show (xs.extract off (off+ks.length)).toList=_
    rw [Array.toList_extract];simp [List.extract]
   rw [e];exact hf
  ·exact ⟨fun _=>⟨_,rfl⟩,fun _=>hag⟩
  ·show (xs.extract off (off+ks.length)).toList=_
   rw [Array.toList_extract];simp [List.extract]
 ·have hag:(wideT P t)=false:=by simpa using hag
  have hk1:=h1 hag
  rw [hk1] at hlen hf
  have hoff:off<xs.size:=by
   rcases Nat.lt_or_ge off xs.size with h'|h'
   ·exact h'
   ·rw [List.drop_eq_nil_of_le (by simpa using h')] at hlen;simp at hlen
  have e:(xs.toList.drop off).take 1=[xs[off]]:=by
   rw [List.drop_eq_getElem_cons (by simpa using hoff)]
   simp
  have hleaf:¬ ∃ ys,xs[off]=.agg ys:=by
   rintro ⟨ys,hy⟩
   rw [e,hy] at hf
   match ks,hk1 with
   | [k],_=>cases k<;>simp [fitsL,LK.fits] at hf
  refine ⟨xs[off],?_,⟨?_,?_⟩,?_⟩
  ·have:(isAgg t).run P w=.ok false w:=by
    unfold isAgg
    simp only [Sem.run_bind,run_underlying hu,Result.andThen_ok]
    simp only [wideT,hu] at hag
    cases d<;>simp at hag ⊢
   simp [part,this,Array.getElem?_eq_getElem hoff]
  ·rw [cells_toList_one hleaf,←e];exact hf
  ·rw [hag];simp only [Bool.false_eq_true,false_iff];exact hleaf
  ·rw [cells_toList_one hleaf,hk1,e]
def EqOk (P:Program) (d:Nat) (t:TypeId) (ks:List LK):Prop :=
 ∀ (w:World) (x y:Value),FV P t ks x→FV P t ks y→(Op.equalIn d t x y).run P w=.ok (leavesB x.cells.toList y.cells.toList) w
theorem chunk_app (l:List Value) (a b off:Nat):(l.drop off).take (a+b)=(l.drop off).take a++(l.drop (off+a)).take b:=by
 rw [List.take_add,List.drop_drop]
theorem eqFields_flat {m d:Nat} (IH:∀ (t:TypeId) (ks:List LK),flatKs P m t=some ks→EqOk P d t ks) (xs ys:Array Value):∀ (fs:List Field) (off:Nat) (ks:List LK),flatFs (flatKs P m) off fs=some ks →
  fitsL ks ((xs.toList.drop off).take ks.length)=true→fitsL ks ((ys.toList.drop off).take ks.length)=true →
  (Op.eqFields d xs ys fs).run P w=.ok (leavesB ((xs.toList.drop off).take ks.length) ((ys.toList.drop off).take ks.length)) w
 | [],off,ks,h,hx,hy=>by
  simp [flatFs] at h
  subst h
  simp [Op.eqFields,leavesB]
 | f::fs,off,ks,h,hx,hy=>by
  simp only [flatFs] at h
  split at h
  ·rename_i hn
   split at h
   ·rename_i k1 hk1
    split at h
    ·rename_i k2 hk2
     injection h with h
     subst h
     have hx2:=fitsL_app hx
     have hy2:=fitsL_app hy
     have ex:=chunk_app xs.toList k1.length k2.length off
     have ey:=chunk_app ys.toList k1.length k2.length off
     have lx:=fitsL_len hx
     have ly:=fitsL_len hy
     rw [List.length_append,ex] at hx2
     rw [List.length_append,ey] at hy2
     have hxl:((xs.toList.drop off).take k1.length).length=k1.length:=by rw [List.length_append] at lx;simp at lx ⊢;omega
     have hyl:((ys.toList.drop off).take k1.length).length=k1.length:=by rw [List.length_append] at ly;simp at ly ⊢;omega
     have hxa:((xs.toList.drop off).take k1.length++(xs.toList.drop (off+k1.length)).take k2.length).take k1.length=(xs.toList.drop off).take k1.length:=List.take_left' hxl
     have hxb:((xs.toList.drop off).take k1.length++(xs.toList.drop (off+k1.length)).take k2.length).drop k1.length=(xs.toList.drop (off+k1.length)).take k2.length:=List.drop_left' hxl
     have hya:((ys.toList.drop off).take k1.length++(ys.toList.drop (off+k1.length)).take k2.length).take k1.length=(ys.toList.drop off).take k1.length:=List.take_left' hyl
     have hyb:((ys.toList.drop off).take k1.length++(ys.toList.drop (off+k1.length)).take k2.length).drop k1.length=(ys.toList.drop (off+k1.length)).take k2.length:=List.drop_left' hyl
     rw [hxa,hxb] at hx2
     rw [hya,hyb] at hy2
     obtain ⟨a,p1,f1,c1⟩:=part_flat (w:=w) hk1 hx2.1
     obtain ⟨b,p2,f2,c2⟩:=part_flat (w:=w) hk1 hy2.1
     have p3:=IH f.type k1 hk1 w a b f1 f2
     have rest:=eqFields_flat IH xs ys fs (off+k1.length) k2 hk2 hx2.2 hy2.2
     rw [c1,c2] at p3
     obtain ⟨n1,n2⟩:=hn
     subst n2
     rw [List.length_append,ex,ey,leavesB_app (by rw [hxl,hyl])]
     simp only [Op.eqFields,n1,ne_eq,not_false_eq_true,if_true,Sem.run_bind,p1,p2,p3,Result.andThen_ok]
     cases leavesB ((xs.toList.drop f.offset).take k1.length) ((ys.toList.drop f.offset).take k1.length) with
     | false=>simp
     | true=>simpa using rest
    ·cases h
   ·cases h
  ·cases h
theorem eqItems_flat {m d n:Nat} {e:TypeId} {ks:List LK} (hk:flatKs P m e=some ks) (hc:P.cellsOf e=ks.length) (IH:EqOk P d e ks) (xs ys:Array Value):∀ (len i:Nat),
  fitsL (List.replicate len ks).flatten ((xs.toList.drop (i*ks.length)).take (len*ks.length))=true→fitsL (List.replicate len ks).flatten ((ys.toList.drop (i*ks.length)).take (len*ks.length))=true →
  (Op.eqItems d e (P.cellsOf e) xs ys (List.range' i len)).run P w=.ok (leavesB ((xs.toList.drop (i*ks.length)).take (len*ks.length)) ((ys.toList.drop (i*ks.length)).take (len*ks.length))) w
 | 0,i,hx,hy=>by simp [Op.eqItems,leavesB]
 | len+1,i,hx,hy=>by
  have e1:(List.replicate (len+1) ks).flatten=ks++(List.replicate len ks).flatten:=by simp [List.replicate_succ]
  have e2:(len+1)*ks.length=ks.length+len*ks.length:=by rw [Nat.add_mul];omega
  have e3:i*ks.length+ks.length=(i+1)*ks.length:=by rw [Nat.add_mul];omega
  have ex:=chunk_app xs.toList ks.length (len*ks.length) (i*ks.length)
  have ey:=chunk_app ys.toList ks.length (len*ks.length) (i*ks.length)
  rw [e1,e2] at hx hy
  have lx:=fitsL_len hx
  have ly:=fitsL_len hy
  have hlk:(List.replicate len ks).flatten.length=len*ks.length:=by simp
  have hxl:((xs.toList.drop (i*ks.length)).take ks.length).length=ks.length:=by rw [List.length_append,hlk] at lx;simp at lx ⊢;omega
  have hyl:((ys.toList.drop (i*ks.length)).take ks.length).length=ks.length:=by rw [List.length_append,hlk] at ly;simp at ly ⊢;omega
  have hx2:=fitsL_app hx
  have hy2:=fitsL_app hy
  rw [ex,List.take_left' hxl,List.drop_left' hxl] at hx2
  rw [ey,List.take_left' hyl,List.drop_left' hyl] at hy2
  rw [e3] at hx2 hy2
  obtain ⟨a,p1,f1,c1⟩:=part_flat (w:=w) hk hx2.1
  obtain ⟨b,p2,f2,c2⟩:=part_flat (w:=w) hk hy2.1
  have p3:=IH w a b f1 f2
  have rest:=eqItems_flat (n:=n) hk hc IH xs ys len (i+1) hx2.2 hy2.2
  rw [c1,c2] at p3
  rw [e2,ex,ey,leavesB_app (by rw [hxl,hyl]),e3]
  rw [hc] at rest ⊢
  simp only [List.range'_succ,Op.eqItems,Sem.run_bind,p1,p2,p3,Result.andThen_ok]
  cases leavesB ((xs.toList.drop (i*ks.length)).take ks.length) ((ys.toList.drop (i*ks.length)).take ks.length) with
  | false=>simp
  | true=>simpa using rest
theorem equalIn_flat:∀ (m:Nat) (t:TypeId) (ks:List LK),flatKs P m t=some ks→∀ d,EqOk P (d+m) t ks
 | 0,t,ks,h,d=>by cases h
 | m+1,t,ks,h,d=>by
  intro w x y hx hy
  have h0:=h
  simp only [flatKs] at h
  cases hu:P.underlying t with
  | none=>simp only [hu] at h;cases h
  | some td =>
   cases hi:P.info? t with
   | none=>simp only [hu,hi] at h;cases td<;>cases h
   | some i =>
    simp only [hu,hi] at h
    have leaf:∀ {k:LK},ks=[k]→(wideT P t)=false→∀ {v},FV P t ks v→v.cells.toList=[v]∧k.fits v=true:=by
     intro k hk hag v hv
     have hn:¬ ∃ xs,v=.agg xs:=fun hh=>by have:=hv.2.2 hh;rw [hag] at this;cases this
     have e:=cells_toList_one hn
     refine ⟨e,?_⟩
     have:=hv.1
     rw [e,hk] at this
     simpa [fitsL] using this
    cases td<;>simp only at h<;>first|(cases h;done)|skip
    ·split at h
     ·injection h with h
      subst h
      obtain ⟨e1,f1⟩:=leaf rfl (by simp [wideT,hu]) hx
      obtain ⟨e2,f2⟩:=leaf rfl (by simp [wideT,hu]) hy
      rw [e1,e2]
      cases x<;>simp [LK.fits] at f1
      cases y<;>simp [LK.fits] at f2
      rw [show d+(m+1)=d+m+1 from rfl,run_equalIn_bool w (d+m) t _ _ hu]
      simp [leavesB,leafB]
     ·cases h
    ·split at h
     ·injection h with h
      subst h
      obtain ⟨e1,f1⟩:=leaf rfl (by simp [wideT,hu]) hx
      obtain ⟨e2,f2⟩:=leaf rfl (by simp [wideT,hu]) hy
      rw [e1,e2]
      cases x<;>simp [LK.fits] at f1
      cases y<;>simp [LK.fits] at f2
      subst f1 f2
      rw [show d+(m+1)=d+m+1 from rfl,run_equalIn_int w (d+m) t _ _ _ _ hu]
      simp [leavesB,leafB]
     ·cases h
    ·split at h
     ·injection h with h
      subst h
      obtain ⟨e1,f1⟩:=leaf rfl (by simp [wideT,hu]) hx
      obtain ⟨e2,f2⟩:=leaf rfl (by simp [wideT,hu]) hy
      rw [e1,e2]
      cases x<;>simp [LK.fits] at f1
      cases y<;>simp [LK.fits] at f2
      rw [show d+(m+1)=d+m+1 from rfl,run_equalIn_string w (d+m) t _ _ hu]
      simp [leavesB,leafB]
     ·cases h
    ·rename_i n e
     split at h
     ·rename_i ke hk
      split at h
      ·rename_i hs
       injection h with h
       subst h
       obtain ⟨xs,rfl⟩:=hx.2.1 (by simp [wideT,hu])
       obtain ⟨ys,rfl⟩:=hy.2.1 (by simp [wideT,hu])
       obtain ⟨ie,de,hie,_,hse,_⟩:=flatKs_info hk
       have hc:P.cellsOf e=ke.length:=by simp [Program.cellsOf,hie,hse]
       have hxl:=fitsL_len hx.1
       have hyl:=fitsL_len hy.1
       have hlk:(List.replicate n ke).flatten.length=n*ke.length:=by simp
       rw [hlk] at hxl hyl
       have ex:(xs.toList.drop (0*ke.length)).take (n*ke.length)=xs.toList:=by rw [Nat.zero_mul,List.drop_zero];exact List.take_of_length_le (by rw [←hxl];exact Nat.le_refl _)
       have ey:(ys.toList.drop (0*ke.length)).take (n*ke.length)=ys.toList:=by rw [Nat.zero_mul,List.drop_zero];exact List.take_of_length_le (by rw [←hyl];exact Nat.le_refl _)
       have:=eqItems_flat (w:=w) (n:=n) (d:=d+m) hk hc (equalIn_flat m e ke hk d) xs ys n 0 (by rw [ex];exact hx.1) (by rw [ey];exact hy.1)
       rw [ex,ey] at this
       rw [show d+(m+1)=d+m+1 from rfl,run_equalIn_array w (d+m) xs ys hu hie,List.range_eq_range']
       exact this
      ·cases h
     ·cases h
    ·rename_i fs
     split at h
     ·rename_i hst
      split at h
      ·rename_i ks' hk
       split at h
       ·rename_i hs
        injection h with h
        subst h
        obtain ⟨xs,rfl⟩:=hx.2.1 (by simp [wideT,hu])
        obtain ⟨ys,rfl⟩:=hy.2.1 (by simp [wideT,hu])
        have hfs:P.fieldsOf t=fs:=by simp [Program.fieldsOf,hu]
        have hxl:=fitsL_len hx.1
        have hyl:=fitsL_len hy.1
        have ex:(xs.toList.drop 0).take ks'.length=xs.toList:=by rw [List.drop_zero];exact List.take_of_length_le (by rw [←hxl];exact Nat.le_refl _)
        have ey:(ys.toList.drop 0).take ks'.length=ys.toList:=by rw [List.drop_zero];exact List.take_of_length_le (by rw [←hyl];exact Nat.le_refl _)
        have:=eqFields_flat (w:=w) (m:=m) (d:=d+m) (fun t ks hk=>equalIn_flat m t ks hk d) xs ys fs.toList 0 ks' hk (by rw [ex];exact hx.1) (by rw [ey];exact hy.1)
        rw [ex,ey] at this
        rw [show d+(m+1)=d+m+1 from rfl,run_equalIn_struct w (d+m) t xs ys (by rw [hfs];exact hu) hst,hfs]
        exact this
       ·cases h
      ·cases h
     ·cases h
theorem bytes_beq (a b:ByteArray):(a.toList==b.toList)=decide (a=b):=by
 rw [←beq_toListBytes]
 by_cases h:a=b
 ·subst h
  simp
  obtain ⟨x⟩:=a
  show ((x==x)=true)
  simp
 ·simp [h]
  cases hb:a==b with
  | false=>rfl
  | true =>
   exfalso
   apply h
   obtain ⟨x⟩:=a
   obtain ⟨y⟩:=b
   have:x=y:=by simpa using (show (x==y)=true from hb)
   rw [this]
def LK.fitsA:LK→AV→Bool
 | .bool,.bool _=>true
 | .int k,.int k' _=>decide (k=k')
 | .str,.str _=>true
 | _,_=>false
def fitsA:List LK→List AV→Bool
 | [],[]=>true
 | k::ks,v::vs=>k.fitsA v&&fitsA ks vs
 | _,_=>false
def leafA:AV→AV→Bool
 | .bool a,.bool b=>a==b
 | .int _ a,.int _ b=>decide (a=b)
 | .str a,.str b=>decide (a=b)
 | _,_=>false
def leavesA:List AV→List AV→Bool
 | [],[]=>true
 | v::vs,u::us=>leafA v u&&leavesA vs us
 | _,_=>false
def cellsK (agg:Bool) (ks:List LK):AV→Option (List AV)
 | .agg cs=>if agg&&fitsA ks cs then some cs else none
 | v=>if !agg&&fitsA ks [v] then some [v] else none
def lookA (agg:Bool) (ks:List LK) (cs:List AV):List (AV×AV)→Option (Option AV)
 | []=>some none
 | (k,v)::es=>match cellsK agg ks k with
  | some ds=>if leavesA cs ds then some (some v) else lookA agg ks cs es
  | none=>none
def updA (agg:Bool) (ks:List LK) (cs:List AV) (k0 v0:AV):List (AV×AV)→Option (List (AV×AV))
 | []=>some [(k0,v0)]
 | (k,v)::es=>match cellsK agg ks k with
  | some ds=>if leavesA cs ds then some ((k0,v0)::es) else match updA agg ks cs k0 v0 es with
   | some es'=>some ((k,v)::es')
   | none=>none
  | none=>none
def toV:AV→Value
 | .bool b=>.bool b
 | .int k n=>.int k n
 | .str s=>.string s
 | _=>undef
theorem fits_toV {k:LK} {a:AV} (h:k.fitsA a=true):k.fits (toV a)=true:=by
 cases k<;>cases a<;>simp_all [LK.fitsA,LK.fits,toV]
theorem fitsL_toV:∀ {ks:List LK} {cs:List AV},fitsA ks cs=true→fitsL ks (cs.map toV)=true
 | [],[],_=>rfl
 | k::ks,c::cs,h=>by
  simp [fitsA] at h
  simp [fitsL,fits_toV h.1,fitsL_toV h.2]
 | [],_::_,h=>by simp [fitsA] at h
 | _::_,[],h=>by simp [fitsA] at h
theorem leaf_toV {k:LK} {a b:AV} (h:k.fitsA a=true) (h':k.fitsA b=true):leafB (toV a) (toV b)=leafA a b:=by
 cases k<;>cases a<;>simp [LK.fitsA] at h<;>cases b<;>simp [LK.fitsA] at h'<;>simp [leafB,leafA,toV,bytes_beq]
 rfl
theorem leaves_toV:∀ {ks:List LK} {cs ds:List AV},fitsA ks cs=true→fitsA ks ds=true→leavesB (cs.map toV) (ds.map toV)=leavesA cs ds
 | [],[],[],_,_=>rfl
 | k::ks,c::cs,d::ds,h,h'=>by
  simp [fitsA] at h h'
  simp [leavesB,leavesA,leaf_toV h.1 h'.1,leaves_toV h.2 h'.2]
 | [],_::_,_,h,_=>by simp [fitsA] at h
 | [],_,_::_,_,h=>by simp [fitsA] at h
 | _::_,[],_,h,_=>by simp [fitsA] at h
 | _::_,_,[],_,h=>by simp [fitsA] at h
theorem leafA_eq {k:LK} {a b:AV} (h:k.fitsA a=true) (h':k.fitsA b=true) (e:leafA a b=true):a=b:=by
 cases k<;>cases a<;>simp [LK.fitsA] at h<;>cases b<;>simp [LK.fitsA] at h'<;>simp_all [leafA]
theorem leavesA_eq:∀ {ks:List LK} {cs ds:List AV},fitsA ks cs=true→fitsA ks ds=true→leavesA cs ds=true→cs=ds
 | [],[],[],_,_,_=>rfl
 | k::ks,c::cs,d::ds,h,h',e=>by
  simp [fitsA] at h h'
  simp [leavesA] at e
  rw [leafA_eq h.1 h'.1 e.1,leavesA_eq h.2 h'.2 e.2]
 | [],_::_,_,h,_,_=>by simp [fitsA] at h
 | [],_,_::_,_,h,_=>by simp [fitsA] at h
 | _::_,[],_,h,_,_=>by simp [fitsA] at h
 | _::_,_,[],_,h,_=>by simp [fitsA] at h
variable {X:Nat→Prop} {E:Env}
theorem VR.leaf {k:LK} {a:AV} {v:Value} (h:VR X E w a v) (hf:k.fitsA a=true):v=toV a:=by
 cases k<;>cases a<;>simp [LK.fitsA] at hf<;>cases h<;>rfl
theorem cellsK_sound {agg:Bool} {t:TypeId} {ks:List LK} {av:AV} {v:Value} {cs:List AV} (ha:wideT P t=agg) (h:cellsK agg ks av=some cs) (hv:VR X E w av v) :
  FV P t ks v∧v.cells.toList=cs.map toV∧fitsA ks cs=true∧v=(if agg then .agg (cs.map toV).toArray else (cs.map toV).headD undef):=by
 have one:∀ {a:AV},agg=false→fitsA ks [a]=true→VR X E w a v→FV P t ks v∧v.cells.toList=[a].map toV∧fitsA ks [a]=true∧v=(if agg then .agg ([a].map toV).toArray else ([a].map toV).headD undef):=by
  intro a hag hf hv
  match ks,hf with
  | [k],hf =>
   have hf':k.fitsA a=true:=by simpa [fitsA] using hf
   have e:=hv.leaf hf'
   have hn:¬ ∃ xs,v=.agg xs:=by
    rintro ⟨xs,hx⟩
    rw [e] at hx
    cases a<;>simp [toV] at hx<;>cases k<;>simp [LK.fitsA] at hf'
   have hc:=cells_toList_one hn
   refine ⟨⟨?_,?_⟩,?_,hf,?_⟩
   ·rw [hc,e];exact fitsL_toV (cs:=[a]) hf
   ·have:(wideT P t)=false:=by rw [←hag,←ha]
    rw [this];simp only [Bool.false_eq_true,false_iff];exact hn
   ·rw [hc,e];rfl
   ·subst hag;simpa using e
  | [],hf=>simp [fitsA] at hf
  | _::_::_,hf=>simp [fitsA] at hf
 unfold cellsK at h
 split at h
 ·rename_i cs'
  split at h
  ·rename_i hc
   simp at hc
   injection h with h
   subst h
   obtain ⟨hag,hf⟩:=hc
   cases hv with
   | agg _ vs h1 hvv =>
    have e:vs.toList=cs'.map toV:=by
     have hfl:∀ (i:Nat) (hi:i<cs'.length),∃ k:LK,k.fitsA cs'[i]=true:=by
      clear h1 hvv one
      intro i hi
      have aux:∀ (ks:List LK) (cs:List AV),fitsA ks cs=true→∀ (i:Nat) (hi:i<cs.length),∃ k:LK,k.fitsA cs[i]=true:=by
       intro ks cs
       induction cs generalizing ks with
       | nil=>intro _ i hi;simp at hi
       | cons c cs ih =>
        intro hf i hi
        cases ks with
        | nil=>simp [fitsA] at hf
        | cons k ks =>
         simp [fitsA] at hf
         cases i with
         | zero=>exact ⟨k,hf.1⟩
         | succ i=>exact ih ks hf.2 i (by simpa using hi)
      exact aux ks cs' hf i hi
     apply List.ext_getElem
     ·simp [h1]
     ·intro i h2 h3
      simp at h2 h3
      obtain ⟨k,hk⟩:=hfl i h3
      have:=(hvv i h3 h2).leaf hk
      simpa using this
    refine ⟨⟨?_,?_⟩,e,hf,?_⟩
    ·show fitsL ks vs.toList=true
     rw [e];exact fitsL_toV hf
    ·have:(wideT P t)=true:=by rw [←hag,←ha]
     rw [this];exact ⟨fun _=>⟨_,rfl⟩,fun _=>rfl⟩
    ·rw [hag,if_pos rfl,←e]
  ·cases h
 ·split at h
  ·rename_i hc
   simp at hc
   injection h with h
   subst h
   exact one hc.1 hc.2 hv
  ·cases h
theorem equal_flat {agg:Bool} {m:Nat} {t:TypeId} {ks:List LK} {a b:AV} {x y:Value} {cs ds:List AV} (hm:m≤10000) (hk:flatKs P m t=some ks) (ha:wideT P t=agg) (h1:cellsK agg ks a=some cs) (h2:cellsK agg ks b=some ds)
  (hx:VR X E w a x) (hy:VR X E w b y):(Op.equal t x y).run P w=.ok (leavesA cs ds) w:=by
 obtain ⟨f1,c1,g1,_⟩:=cellsK_sound ha h1 hx
 obtain ⟨f2,c2,g2,_⟩:=cellsK_sound ha h2 hy
 have:=equalIn_flat m t ks hk (10000 - m) w x y f1 f2
 rw [show 10000 - m+m=10000 by omega,c1,c2,leaves_toV g1 g2] at this
 exact this
theorem checkFields_flat {m d:Nat} {em:Bool} (IH:∀ (t:TypeId) (ks:List LK),flatKs P m t=some ks→∀ w x,FV P t ks x→(Instr.checkKey em d t x).run P w=.ok () w) (xs:Array Value):∀ (fs:List Field) (off:Nat) (ks:List LK),flatFs (flatKs P m) off fs=some ks →
  fitsL ks ((xs.toList.drop off).take ks.length)=true →
  (forIn fs PUnit.unit (fun f (_:PUnit)=>(do
   if f.name≠"_" then do
    Instr.checkKey em d f.type (← part f.type xs f.offset)
    Pure.pure (ForInStep.yield PUnit.unit)
   else Pure.pure (ForInStep.yield PUnit.unit):Sem (ForInStep PUnit)))).run P w=.ok PUnit.unit w
 | [],off,ks,h,hx=>by simp
 | f::fs,off,ks,h,hx=>by
  simp only [flatFs] at h
  split at h
  ·rename_i hn
   split at h
   ·rename_i k1 hk1
    split at h
    ·rename_i k2 hk2
     injection h with h
     subst h
     have hx2:=fitsL_app hx
     have ex:=chunk_app xs.toList k1.length k2.length off
     have lx:=fitsL_len hx
     rw [List.length_append,ex] at hx2
     have hxl:((xs.toList.drop off).take k1.length).length=k1.length:=by rw [List.length_append] at lx;simp at lx ⊢;omega
     rw [List.take_left' hxl,List.drop_left' hxl] at hx2
     obtain ⟨a,p1,f1,c1⟩:=part_flat (w:=w) hk1 hx2.1
     have p3:=IH f.type k1 hk1 w a f1
     have rest:=checkFields_flat IH xs fs (off+k1.length) k2 hk2 hx2.2
     obtain ⟨n1,n2⟩:=hn
     subst n2
     simp only [List.forIn_cons,Sem.run_bind,n1,ne_eq,not_false_eq_true,if_true,p1,p3,Result.andThen_ok,Sem.run_pure]
     exact rest
    ·cases h
   ·cases h
  ·cases h
theorem checkItems_flat {m d:Nat} {em:Bool} {e:TypeId} {ks:List LK} (hk:flatKs P m e=some ks) (IH:∀ w x,FV P e ks x→(Instr.checkKey em d e x).run P w=.ok () w) {ie:TypeInfo} (hie:P.info? e=some ie) (hse:ie.size=ks.length) (xs:Array Value):∀ (len i:Nat),
  fitsL (List.replicate len ks).flatten ((xs.toList.drop (i*ks.length)).take (len*ks.length))=true →
  (forIn (List.range' i len) PUnit.unit (fun j (_:PUnit)=>(do
    Instr.checkKey em d e (← part e xs (j*(← sizeOf e)))
    Pure.pure (ForInStep.yield PUnit.unit):Sem (ForInStep PUnit)))).run P w=.ok PUnit.unit w
 | 0,i,hx=>by simp
 | len+1,i,hx=>by
  have e1:(List.replicate (len+1) ks).flatten=ks++(List.replicate len ks).flatten:=by simp [List.replicate_succ]
  have e2:(len+1)*ks.length=ks.length+len*ks.length:=by rw [Nat.add_mul];omega
  have e3:i*ks.length+ks.length=(i+1)*ks.length:=by rw [Nat.add_mul];omega
  have ex:=chunk_app xs.toList ks.length (len*ks.length) (i*ks.length)
  rw [e1,e2] at hx
  have lx:=fitsL_len hx
  have hlk:(List.replicate len ks).flatten.length=len*ks.length:=by simp
  have hxl:((xs.toList.drop (i*ks.length)).take ks.length).length=ks.length:=by rw [List.length_append,hlk] at lx;simp at lx ⊢;omega
  have hx2:=fitsL_app hx
  rw [ex,List.take_left' hxl,List.drop_left' hxl] at hx2
  rw [e3] at hx2
  obtain ⟨a,p1,f1,c1⟩:=part_flat (w:=w) hk hx2.1
  have p3:=IH w a f1
  have rest:=checkItems_flat hk IH hie hse xs len (i+1) hx2.2
  have hsz:(sizeOf e).run P w=.ok ks.length w:=by simp [sizeOf,typeInfo,hie,hse]
  simp only [List.range'_succ,List.forIn_cons,Sem.run_bind,hsz,p1,p3,Result.andThen_ok,Sem.run_pure]
  exact rest
theorem checkKey_flat (em:Bool):∀ (m:Nat) (t:TypeId) (ks:List LK),flatKs P m t=some ks→∀ d w x,FV P t ks x→(Instr.checkKey em (d+m) t x).run P w=.ok () w
 | 0,t,ks,h,d,w,x,hx=>by cases h
 | m+1,t,ks,h,d,w,x,hx=>by
  simp only [flatKs] at h
  rw [show d+(m+1)=d+m+1 from rfl]
  cases hu:P.underlying t with
  | none=>simp only [hu] at h;cases h
  | some td =>
   cases hi:P.info? t with
   | none=>simp only [hu,hi] at h;cases td<;>cases h
   | some i =>
    simp only [hu,hi] at h
    cases td<;>simp only at h<;>first|(cases h;done)|skip
    ·simp [Instr.checkKey,run_underlying hu]
    ·simp [Instr.checkKey,run_underlying hu]
    ·simp [Instr.checkKey,run_underlying hu]
    ·rename_i n e
     split at h
     ·rename_i ke hk
      split at h
      ·rename_i hs
       injection h with h
       subst h
       obtain ⟨xs,rfl⟩:=hx.2.1 (by simp [wideT,hu])
       obtain ⟨ie,de,hie,_,hse,_⟩:=flatKs_info hk
       have hxl:=fitsL_len hx.1
       have hlk:(List.replicate n ke).flatten.length=n*ke.length:=by simp
       rw [hlk] at hxl
       have ex:(xs.toList.drop (0*ke.length)).take (n*ke.length)=xs.toList:=by rw [Nat.zero_mul,List.drop_zero];exact List.take_of_length_le (by rw [←hxl];exact Nat.le_refl _)
       have:=checkItems_flat (w:=w) (em:=em) hk (fun w x=>checkKey_flat em m e ke hk d w x) hie hse xs n 0 (by rw [ex];exact hx.1)
       unfold Instr.checkKey
       simp only [Sem.run_bind,run_underlying hu,Result.andThen_ok]
       simp only [Std.Legacy.Range.forIn_eq_forIn_range',Std.Legacy.Range.size,Nat.sub_zero,Nat.add_one_sub_one,Nat.div_one]
       exact congrArg (fun r=>Result.andThen r _) this
      ·cases h
     ·cases h
    ·rename_i fs
     split at h
     ·rename_i hst
      split at h
      ·rename_i ks' hk
       split at h
       ·rename_i hs
        injection h with h
        subst h
        obtain ⟨xs,rfl⟩:=hx.2.1 (by simp [wideT,hu])
        have hxl:=fitsL_len hx.1
        have ex:(xs.toList.drop 0).take ks'.length=xs.toList:=by rw [List.drop_zero];exact List.take_of_length_le (by rw [←hxl];exact Nat.le_refl _)
        have:=checkFields_flat (w:=w) (m:=m) (d:=d+m) (em:=em) (fun t ks hk w x=>checkKey_flat em m t ks hk d w x) xs fs.toList 0 ks' hk (by rw [ex];exact hx.1)
        unfold Instr.checkKey
        simp only [Sem.run_bind,run_underlying hu,Result.andThen_ok]
        rw [←Array.forIn_toList]
        exact congrArg (fun r=>Result.andThen r _) this
       ·cases h
      ·cases h
     ·cases h
theorem find_gen {F:List MapEntry→Nat→Option (Nat×Value)→Prop} {agg:Bool} {t:TypeId} {ks:List LK} {cs:List AV} {key:Value} {a:AV} (ha:wideT P t=agg) (hc:cellsK agg ks a=some cs) (hkey:VR X E w a key)
  (h0:∀ i,F [] i none) (h1:∀ (e:MapEntry) (es:List MapEntry) (i:Nat),FV P t ks e.key→leavesB key.cells.toList e.key.cells.toList=true→F (e::es) i (some (i,e.val)))
  (h2:∀ (e:MapEntry) (es:List MapEntry) (i:Nat) q,FV P t ks e.key→leavesB key.cells.toList e.key.cells.toList=false→F es (i+1) q→F (e::es) i q) :
  ∀ (ents:List MapEntry) (es:List (AV×AV)) (i:Nat) (r:Option AV),ents.length=es.length→(∀ j (hj:j<es.length) (hj':j<ents.length),VR X E w es[j].1 ents[j].key∧VR X E w es[j].2 ents[j].val)→lookA agg ks cs es=some r →
  ∃ q,F ents i q∧match r with
   | none=>q=none∧∀ k v,updA agg ks cs k v es=some (es++[(k,v)])
   | some v=>∃ (j:Nat) (e:MapEntry),q=some (i+j,e.val)∧ents[j]?=some e∧e.key=key∧VR X E w v e.val∧∀ k v,updA agg ks cs k v es=some (es.set j (k,v))
 | [],[],i,r,_,_,h=>by
  simp [lookA] at h
  subst h
  exact ⟨none,h0 i,rfl,fun k v=>rfl⟩
 | e::ents,(k,v)::es,i,r,hl,hv,h=>by
  simp only [lookA] at h
  split at h
  ·rename_i ds hds
   have hv0:=hv 0 (by simp) (by simp)
   simp only [List.getElem_cons_zero] at hv0
   obtain ⟨f1,c1,g1,q1⟩:=cellsK_sound ha hds hv0.1
   obtain ⟨f2,c2,g2,q2⟩:=cellsK_sound ha hc hkey
   have hB:leavesB key.cells.toList e.key.cells.toList=leavesA cs ds:=by rw [c1,c2,leaves_toV g2 g1]
   by_cases hb:leavesA cs ds=true
   ·rw [if_pos hb] at h
    injection h with h
    subst h
    refine ⟨_,h1 e ents i f1 (by rw [hB];exact hb),0,e,rfl,rfl,?_,hv0.2,fun k v=>?_⟩
    ·have:=leavesA_eq g2 g1 hb
     subst this
     rw [q1,q2]
    ·simp [updA,hds,hb]
   ·rw [if_neg hb] at h
    have hb:leavesA cs ds=false:=by simpa using hb
    obtain ⟨q,hq,hr⟩:=find_gen ha hc hkey h0 h1 h2 ents es (i+1) r (by simpa using hl) (fun j hj hj'=>by have:=hv (j+1) (by simpa using hj) (by simpa using hj');simpa using this) h
    refine ⟨q,h2 e ents i q f1 (by rw [hB];exact hb) hq,?_⟩
    cases r with
    | none=>exact ⟨hr.1,fun k v=>by simp [updA,hds,hb,hr.2]⟩
    | some v =>
     obtain ⟨j,e',r1,r2,r3,r4,r5⟩:=hr
     exact ⟨j+1,e',by rw [r1];congr 2;omega,r2,r3,r4,fun k v=>by simp [updA,hds,hb,r5]⟩
  ·cases h
 | [],_::_,i,r,hl,_,_=>by simp at hl
 | _::_,[],i,r,hl,_,_=>by simp at hl
theorem sameNow_flat {td:TypeDesc} {m:Nat} {t:TypeId} {ks:List LK} (hk:flatKs P (m+1) t=some ks) (hu:P.underlying t=some td) (hn:wideT P t=false) {x y:Value} (hx:FV P t ks x) (hy:FV P t ks y) :
  Instr.sameNow td x y=some (leavesB x.cells.toList y.cells.toList):=by
 obtain ⟨i,d,hi,hu',hs,h1⟩:=flatKs_info hk
 have leaf:∀ {v},FV P t ks v→v.cells.toList=[v]:=by
  intro v hv
  refine cells_toList_one fun hh=>?_
  have:=hv.2.2 hh
  rw [hn] at this
  cases this
 have e1:=leaf hx
 have e2:=leaf hy
 have f1:=hx.1
 have f2:=hy.1
 rw [e1] at f1 ⊢
 rw [e2] at f2 ⊢
 simp only [flatKs,hu,hi] at hk
 simp only [wideT,hu] at hn
 cases td<;>simp only at hk hn<;>first|(cases hk;done)|(cases hn;done)|skip
 all_goals
  split at hk
  ·injection hk with hk
   subst hk
   cases x<;>simp [fitsL,LK.fits] at f1
   cases y<;>simp [fitsL,LK.fits] at f2
   first
    | (simp [Instr.sameNow,leavesB,leafB,beq_toListBytes];done)
    | (subst f1;subst f2;simp [Instr.sameNow,leavesB,leafB])
  ·cases hk
theorem findKey_flat {agg:Bool} {m:Nat} (hm:m<10000) {t:TypeId} {ks:List LK} {cs:List AV} {key:Value} {a:AV} (hk:flatKs P (m+1) t=some ks) (ha:wideT P t=agg) (hc:cellsK agg ks a=some cs) (hkey:VR X E w a key)
  (ents:List MapEntry) (es:List (AV×AV)) (r:Option AV) (hl:ents.length=es.length) (hv:∀ j (hj:j<es.length) (hj':j<ents.length),VR X E w es[j].1 ents[j].key∧VR X E w es[j].2 ents[j].val) (h:lookA agg ks cs es=some r) :
  ∃ q,(Instr.findKey t key ents).run P w=.ok q w∧match r with
   | none=>q=none∧∀ k v,updA agg ks cs k v es=some (es++[(k,v)])
   | some v=>∃ (j:Nat) (e:MapEntry),q=some (j,e.val)∧ents[j]?=some e∧e.key=key∧VR X E w v e.val∧∀ k v,updA agg ks cs k v es=some (es.set j (k,v)):=by
 have fk:=(cellsK_sound ha hc hkey).1
 obtain ⟨i,td,hi,hu,hs,h1⟩:=flatKs_info hk
 cases agg with
 | true =>
  have hw:(match P.underlying t with|some (.array _ _)|some (.struct _)=>true|_=>false)=true:=ha
  obtain ⟨q,hq,hr⟩:=find_gen (F:=fun es i q=>(Instr.findAsking t key es i).run P w=.ok q w) ha hc hkey (fun i=>by simp [Instr.findAsking]) (fun e es i hf hb=>by
    have:=equalIn_flat (m+1) t ks hk (10000 - (m+1)) w key e.key fk hf
    rw [show 10000 - (m+1)+(m+1)=10000 by omega,hb] at this
    have this:(Op.equal t key e.key).run P w=.ok true w:=this
    simp [Instr.findAsking,this]) (fun e es i q hf hb hq=>by
    have:=equalIn_flat (m+1) t ks hk (10000 - (m+1)) w key e.key fk hf
    rw [show 10000 - (m+1)+(m+1)=10000 by omega,hb] at this
    have this:(Op.equal t key e.key).run P w=.ok false w:=this
    simp [Instr.findAsking,this,hq]) ents es 0 r hl hv h
  refine ⟨q,by rw [run_findKey_eq w hw];exact hq,?_⟩
  cases r with
  | none=>exact hr
  | some v =>
   obtain ⟨j,e,r1,r2⟩:=hr
   exact ⟨j,e,by rw [r1,Nat.zero_add],r2⟩
 | false =>
  obtain ⟨q,hq,hr⟩:=find_gen (F:=fun es i q=>Instr.findNow td key es i=some q) ha hc hkey (fun i=>rfl) (fun e es i hf hb=>by
    simp [Instr.findNow,sameNow_flat hk hu ha fk hf,hb]) (fun e es i q hf hb hq=>by
    simp [Instr.findNow,sameNow_flat hk hu ha fk hf,hb,hq]) ents es 0 r hl hv h
  refine ⟨q,by simp [Instr.findKey,run_underlying hu,hq],?_⟩
  cases r with
  | none=>exact hr
  | some v =>
   obtain ⟨j,e,r1,r2⟩:=hr
   exact ⟨j,e,by rw [r1,Nat.zero_add],r2⟩
theorem leafSame {k:LK} {a:AV} (h:k.fitsA a=true) (n:Nat):Instr.sameBits n (toV a) (toV a)=true:=by
 cases k<;>cases a<;>simp [LK.fitsA] at h<;>simp [toV,Instr.sameBits]
 rename_i s
 obtain ⟨x⟩:=s
 show ((x==x)=true)
 simp
theorem fitsA_mem:∀ {ks:List LK} {cs:List AV},fitsA ks cs=true→∀ c∈cs,∃ k:LK,k.fitsA c=true
 | [],[],_,c,h=>by cases h
 | k::ks,c::cs,hf,d,h=>by
  simp [fitsA] at hf
  rcases List.mem_cons.1 h with rfl|h
  ·exact ⟨k,hf.1⟩
  ·exact fitsA_mem hf.2 d h
 | [],_::_,h,_,_=>by simp [fitsA] at h
 | _::_,[],h,_,_=>by simp [fitsA] at h
theorem keyStays_flat {agg:Bool} {t:TypeId} {ks:List LK} {cs:List AV} {key:Value} {a:AV} (ha:wideT P t=agg) (hc:cellsK agg ks a=some cs) (hkey:VR X E w a key):(Instr.keyThatStays key key).run P w=.ok key w:=by
 obtain ⟨f2,c2,g2,q2⟩:=cellsK_sound ha hc hkey
 have:Instr.sameBits 10000 key key=true:=by
  cases agg with
  | true =>
   rw [if_pos rfl] at q2
   subst q2
   show Instr.sameBits (9999+1) _ _=true
   simp only [Instr.sameBits,beq_self_eq_true,Bool.true_and,List.all_eq_true]
   intro p hp
   obtain ⟨i,hi,e⟩:=List.getElem_of_mem hp
   rw [List.getElem_zip] at e
   rw [←e]
   simp only [List.getElem_map]
   simp at hi
   obtain ⟨k,hk⟩:=fitsA_mem g2 cs[i] (List.getElem_mem _)
   exact leafSame hk _
  | false =>
   simp only [Bool.false_eq_true,if_false] at q2
   unfold cellsK at hc
   split at hc
   ·simp at hc
   ·split at hc
    ·rename_i hh
     simp at hh
     injection hc with hc
     subst hc
     obtain ⟨k,hk⟩:=fitsA_mem g2 _ (List.mem_singleton.2 rfl)
     simp at q2
     rw [q2]
     exact leafSame hk _
    ·cases hc
 simp [Instr.keyThatStays,this]
end Go.AM
namespace Go.AM
set_option linter.unusedVariables false
set_option linter.unusedSimpArgs false
inductive Opd where
 | tmp (n:Nat)
 | lit (v:AV)
 deriving Inhabited
def Opd.ev (T:Tm):Opd→AV
 | .tmp n=>T.get n
 | .lit v=>v
def c2cell:Value→Option AV
 | .bool b=>some (.bool b)
 | .int k n=>some (.int k n)
 | .string s=>if s.size≤9223372036854775807 then some (.str s) else none
 | .nilFunc=>some .nilFunc
 | .nilIface=>some .nilIface
 | .pointer none=>some .nilPtr
 | .map none=>some .nilMap
 | .slice none 0 0=>some .nilS
 | _=>none
def c2cells:List Value→Option (List AV)
 | []=>some []
 | v::vs=>match c2cell v,c2cells vs with
  | some a,some as=>some (a::as)
  | _,_=>none
def c2av:Value→Option AV
 | .agg cs=>(c2cells cs.toList).map .agg
 | .tuple cs=>(c2cells cs.toList).map .tuple
 | v=>c2cell v
inductive NK where
 | fn|ifc|ptr|map
 deriving Inhabited
inductive AOp where
 | mov (x:Opd)
 | pick (c a b:Opd)
 | alloc (cs:List AV)
 | box (x:Opd)
 | build (zero:List AV) (parts:List (Nat×Nat×Opd))
 | bslice (sz len:Nat) (zero:List AV) (parts:List (Nat×Opd))
 | bsloc (sz len:Nat) (zero:List AV) (parts:List (Nat×Opd))
 | load (n:Nat) (agg:Bool) (x:Opd)
 | store (n:Nat) (a v:Opd)
 | bin (op:BinOp) (x y:Opd)
 | eqa (neg agg:Bool) (ks:List LK) (x y:Opd)
 | isnil (neg:Bool) (k:NK) (x:Opd)
 | snil (neg:Bool) (x:Opd)
 | not (x:Opd)
 | neg (x:Opd)
 | cint (k:IntKind) (x:Opd)
 | cid (x:Opd)
 | b2s (x:Opd)
 | s2b (x:Opd)
 | mkif (t:TypeId) (x:Opd)
 | mkfn (f:Fn) (first captured:List Opd)
 | mkmap
 | mksl (sz bytes:Nat) (zero:List AV) (len cap:Opd)
 | slc (sz:Nat) (x:Opd) (lo hi mx:Option Opd)
 | slstr (x:Opd) (lo hi:Option Opd)
 | fa (off:Nat) (x:Opd)
 | fld (off n:Nat) (agg:Bool) (x:Opd)
 | ia (sz:Nat) (x i:Opd)
 | iarr (len sz:Nat) (x i:Opd)
 | idx (len sz:Nat) (agg:Bool) (x i:Opd)
 | idxs (x i:Opd)
 | lkp (agg:Bool) (ks:List LK) (dflt:AV) (x k:Opd) (ok:Bool)
 | upd (agg:Bool) (ks:List LK) (m k v:Opd)
 | ext (x:Opd) (i:Nat)
 | len (x:Opd)
 | lens (x:Opd)
 | app (sz bytes:Nat) (x y:Opd)
 | appc (sz bytes:Nat) (x y:Opd)
 | cpy (sz:Nat) (x y:Opd)
 | mx (x y:Opd)
 | mn (x y:Opd)
 | nilc (x:Opd)
 | call (f:Opd) (args:List Opd)
 | callh (f:Opd) (args:List Opd)
 | calla (k j:Nat) (f:Opd) (args:List Opd)
 deriving Inhabited
def AV.cells:AV→Option (List AV)
 | .agg cs=>some cs
 | .any|.tuple _=>none
 | v=>some [v]
def AV.one:AV→Bool
 | .agg _|.any|.tuple _=>false
 | _=>true
def putAt (l:List AV) (o:Nat):List AV→List AV
 | []=>l
 | c::cs=>putAt (l.set o c) (o+1) cs
def bldParts (ρ:Opd→AV):List AV→List (Nat×Nat×Opd)→Option (List AV)
 | cs,[]=>some cs
 | cs,(off,size,x)::ps=>match (ρ x).cells with
  | some vs=>if vs.length=size∧off+size≤cs.length then bldParts ρ (putAt cs off vs) ps else none
  | none=>none
def bslParts (ρ:Opd→AV) (sz:Nat):List (List AV)→List (Nat×Opd)→Option (List (List AV))
 | es,[]=>some es
 | es,(i,x)::ps=>match (ρ x).cells with
  | some vs=>if vs.length=sz∧i<es.length then bslParts ρ sz (es.set i vs) ps else none
  | none=>none
def loadCs (n:Nat) (agg:Bool) (cs:List AV):Option AV :=
 if n≤cs.length then (if agg then some (.agg (cs.take n)) else cs.head?) else none
def aload (n:Nat) (agg:Bool) (H:AHeap):AV→Option AV
 | .ptr i g off=>match H[i]? with
  | some (.cells g' cs)=>if g=g' then loadCs n agg (cs.drop off) else none
  | _=>none
 | .rptr cs=>loadCs n agg cs
 | _=>none
def astore (n:Nat) (H:AHeap):AV→AV→Option AHeap
 | .ptr i g off,v=>match H[i]?,v.cells with
  | some (.cells g' cs),some vs=>if g=g'∧vs.length=n∧off+n≤cs.length∧vs.all AV.one=true then some (H.set i (.cells g (putAt cs off vs))) else none
  | _,_=>none
 | _,_=>none
def abinInt (op:BinOp) (k:IntKind) (a b:Int):Option AV :=
 match op with
 | .add=>some (.int k (k.wrap (a+b)))
 | .sub=>some (.int k (k.wrap (a - b)))
 | .mul=>some (.int k (k.wrap (a*b)))
 | .quo=>if b=0 then none else some (.int k (k.wrap (a.tdiv b)))
 | .rem=>if b=0 then none else some (.int k (a.tmod b))
 | .and=>some (.int k (k.wrap (BitVec.ofInt k.bits a &&& BitVec.ofInt k.bits b).toNat))
 | .or=>some (.int k (k.wrap (BitVec.ofInt k.bits a ||| BitVec.ofInt k.bits b).toNat))
 | .xor=>some (.int k (k.wrap (BitVec.ofInt k.bits a ^^^ BitVec.ofInt k.bits b).toNat))
 | .eql=>some (.bool (decide (a=b)))
 | .neq=>some (.bool (!decide (a=b)))
 | .lss=>some (.bool (decide (a<b)))
 | .leq=>some (.bool (decide (a≤b)))
 | .gtr=>some (.bool (decide (b<a)))
 | .geq=>some (.bool (decide (b≤a)))
 | _=>none
def abin (op:BinOp):AV→AV→Option AV
 | .int k a,.int k' b =>
  match op with
  | .shl=>if b<0 then none else some (.int k (k.wrap (a*2^(min b.toNat k.bits))))
  | .shr=>if b<0 then none else some (.int k (a.fdiv (2^(min b.toNat k.bits))))
  | _=>if k=k' then abinInt op k a b else none
 | .str a,.str b =>
  match op with
  | .add=>if a.size+b.size≤9223372036854775807 then some (.str (a++b)) else none
  | .eql=>some (.bool (decide (a=b)))
  | .neq=>some (.bool (!decide (a=b)))
  | .lss=>some (.bool (Op.bytesLess a.toList b.toList))
  | _=>none
 | _,_=>none
def chunk (sz:Nat) (cs:List AV):Nat→List (List AV)
 | 0=>[]
 | n+1=>cs.take sz::chunk sz (cs.drop sz) n
def elems (H:AHeap):AV→Option (Nat×List (List AV))
 | .rows _ sz es=>some (sz,es)
 | .nilS=>some (0,[])
 | .loc i g off len sz _=>match H[i]? with
  | some (.cells g' cs)=>if g=g'∧off+len*sz≤cs.length then some (sz,chunk sz (cs.drop off) len) else none
  | _=>none
 | _=>none
def alive (H:AHeap) (i g:Nat):Bool :=
 match H[i]? with
 | some (.cells g' _)=>g==g'
 | _=>false
def alen (H:AHeap):AV→Option Int
 | .rows _ _ es=>some es.length
 | .loc i g _ len _ _=>if alive H i g then some len else none
 | .nilS=>some 0
 | _=>none
def alenOk:AV→Prop
 | .rows _ _ es=>es.length≤maxA
 | .loc _ _ _ len _ _=>len≤maxA
 | .str s=>s.size≤9223372036854775807
 | _=>True
def aint:AV→Option Int
 | .int _ n=>some n
 | _=>none
def abound (ρ:Opd→AV) (m:Nat) (dflt:Nat):Option Opd→Option Nat
 | none=>some dflt
 | some x=>match aint (ρ x) with
  | some n=>if 0≤n∧n≤m then some n.toNat else none
  | none=>none
def aslc (H:AHeap) (ρ:Opd→AV) (sz:Nat) (x:Opd) (lo hi mx:Option Opd):Option AV :=
 match ρ x with
 | .rows clip sz' es=>if sz'=sz then
   match abound ρ es.length es.length hi with
   | some h=>match abound ρ h 0 lo with
    | some l=>match mx with
     | none=>some (.rows (clip&&h==es.length) sz ((es.take h).drop l))
     | some m=>match abound ρ es.length 0 (some m) with
      | some m=>if m=h then some (.rows true sz ((es.take h).drop l)) else none
      | none=>none
    | none=>none
   | none=>none
  else none
 | .loc i g off len sz' clip=>if sz'=sz∧alive H i g=true then
   match abound ρ len len hi with
   | some h=>match abound ρ h 0 lo with
    | some l=>match mx with
     | none=>some (.loc i g (off+l*sz) (h - l) sz (clip&&h==len))
     | some m=>match abound ρ len 0 (some m) with
      | some m=>if m=h then some (.loc i g (off+l*sz) (h - l) sz true) else none
      | none=>none
    | none=>none
   | none=>none
  else none
 | .nilS=>match abound ρ 0 0 hi,abound ρ 0 0 lo with
  | some _,some _=>match mx with
   | none=>some .nilS
   | some m=>match abound ρ 0 0 (some m) with
    | some _=>some .nilS
    | none=>none
  | _,_=>none
 | _=>none
def limB:Nat:=140737488355328
def appNone (H:AHeap):AV→Option AV
 | .nilS=>some .nilS
 | .rows c s es=>some (.rows c s es)
 | .loc i g off len s c=>if alive H i g then some (.loc i g off len s c) else none
 | _=>none
def appMore (sz bytes:Nat) (H:AHeap) (ys:List (List AV)):AV→Option (AV×AHeap)
  | .nilS=>if bytes≤128∧ys.length≤maxA then some (.loc H.length 0 0 ys.length sz false,H++[.cells 0 ys.flatten]) else none
  | .rows true s es=>if s=sz∧bytes≤128∧es.length+ys.length≤maxA then some (.loc H.length 0 0 (es.length+ys.length) sz false,H++[.cells 0 (es.flatten++ys.flatten)]) else none
  | .loc i g off len s c=>match H[i]? with
    | some (.cells g' cs) =>
      if g=g'∧s=sz∧off+len*sz≤cs.length∧(bytes≤128∧len+ys.length≤maxA)∧ys.all (·.all AV.one)=true then
        (if c then some (.loc H.length 0 0 (len+ys.length) sz false,H++[.cells 0 ((cs.drop off).take (len*sz)++ys.flatten)])
         else some (.loc i (g+1) 0 (len+ys.length) sz false,H.set i (.cells (g+1) ((cs.drop off).take (len*sz)++ys.flatten))))
      else none
    | _=>none
  | _=>none
def aapp (sz bytes:Nat) (H:AHeap) (x y:AV):Option (AV×AHeap) :=
 match elems H y with
 | none=>none
 | some (sy,ys) =>
  if ys=[] then (appNone H x).map (fun v=>(v,H))
  else if sy=sz then appMore sz bytes H ys x else none
def aindex (n:Nat) (x:AV):Option Nat :=
 match x with
 | .int _ i=>if 0≤i∧i<n then some i.toNat else none
 | _=>none
def apart (n:Nat) (agg:Bool) (cs:List AV) (off:Nat):Option AV :=
 if off+n≤cs.length then (if agg then some (.agg ((cs.drop off).take n)) else cs[off]?) else none
def nilD:NK→AV→Option Bool
 | .fn,.nilFunc|.ifc,.nilIface|.ptr,.nilPtr|.map,.nilMap=>some true
 | .fn,.fn ..|.ifc,.iface ..|.ptr,.rptr _=>some false
 | _,_=>none
def snilP (H:AHeap):AV→Option (Bool→Prop)
 | .nilS=>some fun b=>b=true
 | .rows _ _ es=>some fun b=>b=true→es=[]
 | .loc i g _ len _ _=>if alive H i g then some fun b=>b=true→len=0 else none
 | _=>none
def bytesA:List (List AV)→Option (List UInt8)
 | []=>some []
 | [.int .u8 n]::es=>match bytesA es with
  | some bs=>some (UInt8.ofNat n.toNat::bs)
  | none=>none
 | _=>none
def amap (H:AHeap):AV→Option (List (AV×AV))
 | .nilMap=>some []
 | .mapr i g=>match H[i]? with
  | some (.map g' es)=>if g=g' then some es else none
  | _=>none
 | _=>none
def alkp (agg:Bool) (ks:List LK) (dflt:AV) (ok:Bool) (H:AHeap) (x k:AV):Option AV :=
 match amap H x,cellsK agg ks k with
 | some es,some cs=>match lookA agg ks cs es with
  | some r=>some (if ok then .tuple [r.getD dflt,.bool r.isSome] else r.getD dflt)
  | none=>none
 | _,_=>none
def aupd (agg:Bool) (ks:List LK) (H:AHeap) (x k v:AV):Option AHeap :=
 match x with
 | .mapr i g=>match H[i]? with
  | some (.map g' es)=>if g=g' then match cellsK agg ks k with
    | some cs=>match updA agg ks cs k v es with
     | some es'=>some (H.set i (.map g es'))
     | none=>none
    | none=>none
   else none
  | _=>none
 | _=>none
def preLen (H:AHeap):AV→Prop
 | .rows _ _ es=>es.length≤maxA
 | .loc i g _ len _ _=>alive H i g=true→len≤maxA
 | _=>True
def apre (o:AOp) (ρ:Opd→AV) (H:AHeap):Prop :=
 match o with
 | .app _ _ x y=>preLen H (ρ x)∧preLen H (ρ y)
 | _=>True
theorem room_le {n bytes:Nat} (h:bytes≤128∧n≤maxA):n*bytes≤limB:=by
 have:n*bytes≤maxA*128:=Nat.mul_le_mul h.2 h.1
 exact this
def aappc (sz bytes:Nat) (H:AHeap) (x y:AV):Option (AV×AHeap) :=
 match x with
 | .nilS=>aapp sz bytes H .nilS y
 | .rows true s es=>aapp sz bytes H (.rows true s es) y
 | _=>none
theorem aappc_app {sz bytes:Nat} {H:AHeap} {x y:AV} {r:AV×AHeap} (h:aappc sz bytes H x y=some r):aapp sz bytes H x y=some r:=by
 unfold aappc at h
 split at h
 ·exact h
 ·exact h
 ·cases h
theorem aappc_new {sz bytes:Nat} {H:AHeap} {x y v:AV} {H':AHeap} (h:aappc sz bytes H x y=some (v,H')):H'=H∨∃ b,H'=H++[b]:=by
 have key:∀ x,(x=.nilS∨∃ s es,x=.rows true s es)→aapp sz bytes H x y=some (v,H')→H'=H∨∃ b,H'=H++[b]:=by
  intro x hx h
  unfold aapp at h
  split at h
  ·cases h
  ·rename_i sy ys hys
   split at h
   ·cases hn:appNone H x with
    | none=>rw [hn] at h;cases h
    | some a=>rw [hn] at h;simp at h;exact .inl h.2.symm
   ·split at h
    ·rcases hx with rfl|⟨s,es,rfl⟩
     ·simp only [appMore] at h
      by_cases hc:bytes≤128∧ys.length≤maxA
      ·rw [if_pos hc] at h
       simp at h
       exact .inr ⟨_,h.2.symm⟩
      ·rw [if_neg hc] at h
       cases h
     ·simp only [appMore] at h
      by_cases hc:s=sz∧bytes≤128∧es.length+ys.length≤maxA
      ·rw [if_pos hc] at h
       simp at h
       exact .inr ⟨_,h.2.symm⟩
      ·rw [if_neg hc] at h
       cases h
    ·cases h
 unfold aappc at h
 split at h
 ·exact key _ (.inl rfl) h
 ·exact key _ (.inr ⟨_,_,rfl⟩) h
 ·cases h
def aop (o:AOp) (ρ:Opd→AV) (H:AHeap):Option (AV×AHeap) :=
 match o with
 | .mov x=>some (ρ x,H)
 | .pick c a b=>match ρ c with
  | .bool t=>some (if t then ρ a else ρ b,H)
  | _=>none
 | .alloc cs=>some (.ptr H.length 0 0,H++[.cells 0 cs])
 | .box x=>match (ρ x).cells with
  | some cs=>some (.ptr H.length 0 0,H++[.cells 0 cs])
  | none=>none
 | .build zero parts=>match bldParts ρ zero parts with
  | some cs=>some (.agg cs,H)
  | none=>none
 | .bslice sz len zero parts=>match bslParts ρ sz (List.replicate len zero) parts with
  | some es=>some (.rows true sz es,H)
  | none=>none
 | .bsloc sz len zero parts=>match bslParts ρ sz (List.replicate len zero) parts with
  | some es=>some (.loc H.length 0 0 len sz false,H++[.cells 0 es.flatten])
  | none=>none
 | .load n agg x=>match aload n agg H (ρ x) with
  | some v=>some (v,H)
  | none=>none
 | .store n a v=>match astore n H (ρ a) (ρ v) with
  | some H'=>some (.any,H')
  | none=>none
 | .bin op x y=>match abin op (ρ x) (ρ y) with
  | some v=>some (v,H)
  | none=>none
 | .not x=>match ρ x with
  | .bool b=>some (.bool (!b),H)
  | _=>none
 | .neg x=>match ρ x with
  | .int k n=>some (.int k (k.wrap (0 - n)),H)
  | _=>none
 | .cint k x=>match ρ x with
  | .int _ n=>some (.int k (k.wrap n),H)
  | _=>none
 | .cid x=>match ρ x with
  | .str s=>some (.str s,H)
  | _=>none
 | .mkif t x=>some (.iface t (ρ x),H)
 | .mkfn f first captured=>some (.fn f (first.map ρ) (captured.map ρ),H)
 | .mksl sz bytes zero len cap=>match ρ len,ρ cap with
  | .int _ l,.int _ c=>if 0≤l∧l≤c∧c*bytes≤limB∧c≤maxA then
    some (.loc H.length 0 0 l.toNat sz false,H++[.cells 0 (List.replicate l.toNat zero).flatten]) else none
  | _,_=>none
 | .slc sz x lo hi mx=>match aslc H ρ sz x lo hi mx with
  | some v=>some (v,H)
  | none=>none
 | .slstr x lo hi=>match ρ x with
  | .str s=>match abound ρ s.size s.size hi with
   | some h=>match abound ρ h 0 lo with
    | some l=>some (.str (s.extract l h),H)
    | none=>none
   | none=>none
  | _=>none
 | .fa off x=>match ρ x with
  | .ptr i g o=>if alive H i g then some (.ptr i g (o+off),H) else none
  | .rptr cs=>some (.rptr (cs.drop off),H)
  | _=>none
 | .fld off n agg x=>match ρ x with
  | .agg cs=>match apart n agg cs off with
   | some v=>some (v,H)
   | none=>none
  | _=>none
 | .ia sz x i=>match ρ x with
  | .rows _ sz' es=>match aindex es.length (ρ i) with
   | some k=>if sz'=sz then (match es[k]? with|some e=>some (.rptr e,H)|none=>none) else none
   | none=>none
  | .loc j g off len sz' _=>match aindex len (ρ i) with
   | some k=>if sz'=sz∧alive H j g=true then some (.ptr j g (off+k*sz),H) else none
   | none=>none
  | _=>none
 | .iarr len sz x i=>match aindex len (ρ i) with
  | some k=>match ρ x with
   | .ptr j g o=>if alive H j g then some (.ptr j g (o+k*sz),H) else none
   | .rptr cs=>some (.rptr (cs.drop (k*sz)),H)
   | _=>none
  | none=>none
 | .idx len sz agg x i=>match aindex len (ρ i) with
  | some k=>match ρ x with
   | .agg cs=>match apart sz agg cs (k*sz) with
    | some v=>some (v,H)
    | none=>none
   | _=>none
  | none=>none
 | .idxs x i=>match ρ x with
  | .str s=>match aindex s.size (ρ i) with
   | some k=>some (.int .u8 (s.data.getD k 0).toNat,H)
   | none=>none
  | _=>none
 | .ext x i=>match ρ x with
  | .tuple vs=>match vs[i]? with
   | some v=>some (v,H)
   | none=>none
  | _=>none
 | .len x=>match alen H (ρ x) with
  | some n=>some (.int .i64 n,H)
  | none=>none
 | .lens x=>match ρ x with
  | .str s=>some (.int .i64 s.size,H)
  | _=>none
 | .appc sz bytes x y=>aappc sz bytes H (ρ x) (ρ y)
 | .app sz bytes x y=>aapp sz bytes H (ρ x) (ρ y)
 | .mx x y=>match ρ x,ρ y with
  | .int k a,.int k' b=>if k=k' then some (.int k (if b>a then b else a),H) else none
  | _,_=>none
 | .mn x y=>match ρ x,ρ y with
  | .int k a,.int k' b=>if k=k' then some (.int k (if b<a then b else a),H) else none
  | _,_=>none
 | .nilc x=>match ρ x with
  | .ptr i g o=>if alive H i g then some (.ptr i g o,H) else none
  | .rptr cs=>some (.rptr cs,H)
  | .fn (.func f) a b=>some (.fn (.func f) a b,H)
  | _=>none
 | .eqa neg agg ks x y=>match cellsK agg ks (ρ x),cellsK agg ks (ρ y) with
  | some cs,some ds=>some (.bool (leavesA cs ds != neg),H)
  | _,_=>none
 | .isnil neg k x=>match nilD k (ρ x) with
  | some b=>some (.bool (b != neg),H)
  | none=>none
 | .b2s x=>match elems H (ρ x) with
  | some (_,es)=>match bytesA es with
   | some bs=>some (.str ⟨bs.toArray⟩,H)
   | none=>none
  | none=>none
 | .s2b x=>match ρ x with
  | .str s=>if s.size≤maxA then some (.rows false 1 (s.data.toList.map fun b=>[.int .u8 b.toNat]),H) else none
  | _=>none
 | .mkmap=>some (.mapr H.length 0,H++[.map 0 []])
 | .lkp agg ks dflt x k ok=>match alkp agg ks dflt ok H (ρ x) (ρ k) with
  | some v=>some (v,H)
  | none=>none
 | .upd agg ks m k v=>match aupd agg ks H (ρ m) (ρ k) (ρ v) with
  | some H'=>some (.any,H')
  | none=>none
 | _=>none
end Go.AM
namespace Go.AM
set_option linter.unusedVariables false
set_option linter.unusedSimpArgs false
def cOpd:Operand→Option Opd
 | .tmp t=>some (.tmp t)
 | .const v=>(c2av v).map .lit
 | .func f=>some (.lit (.fn (.func f) [] []))
 | .global _=>none
theorem c2cell_sound {X:Nat→Prop} {E:Env} {w:World} {v:Value} {av:AV} (h:c2cell v=some av):VR X E w av v:=by
 unfold c2cell at h
 split at h<;>first
  | (injection h with h;subst h;constructor)
  | (split at h<;>first|(injection h with h;subst h;constructor;assumption)|cases h)
  | cases h
theorem c2cells_sound {X:Nat→Prop} {E:Env} {w:World}:∀ {vs:List Value} {as:List AV},c2cells vs=some as→as.length=vs.length∧∀ j (hj:j<as.length) (hj':j<vs.length),VR X E w as[j] vs[j]
 | [],as,h=>by simp [c2cells] at h;subst h;exact ⟨rfl,fun j hj=>by simp at hj⟩
 | v::vs,as,h=>by
  simp only [c2cells] at h
  split at h
  ·rename_i a as' h1 h2
   injection h with h
   subst h
   obtain ⟨k1,k2⟩:=c2cells_sound (X:=X) (E:=E) (w:=w) h2
   refine ⟨by simp [k1],fun j hj hj'=>?_⟩
   cases j with
   | zero=>exact c2cell_sound h1
   | succ j=>exact k2 j (by simpa using hj) (by simpa using hj')
  ·cases h
theorem c2av_sound {X:Nat→Prop} {E:Env} {w:World} {v:Value} {av:AV} (h:c2av v=some av):VR X E w av v:=by
 unfold c2av at h
 split at h
 ·rename_i cs
  cases h1:c2cells cs.toList with
  | none=>rw [h1] at h;cases h
  | some as =>
   rw [h1] at h
   injection h with h
   subst h
   obtain ⟨k1,k2⟩:=c2cells_sound (X:=X) (E:=E) (w:=w) h1
   exact .agg as cs (by simpa using k1.symm) (fun j hj hj'=>by have:=k2 j hj (by simpa using hj');rwa [Array.getElem_toList] at this)
 ·rename_i cs
  cases h1:c2cells cs.toList with
  | none=>rw [h1] at h;cases h
  | some as =>
   rw [h1] at h
   injection h with h
   subst h
   obtain ⟨k1,k2⟩:=c2cells_sound (X:=X) (E:=E) (w:=w) h1
   exact .tuple as cs (by simpa using k1.symm) (fun j hj hj'=>by have:=k2 j hj (by simpa using hj');rwa [Array.getElem_toList] at this)
 ·exact c2cell_sound h
structure OR (X:Nat→Prop) (E:Env) (w:World) (ρ:Opd→AV) (ρc:Operand→Value):Prop where
 rel:∀ x x',cOpd x=some x'→VR X E w (ρ x') (ρc x)
 cst:∀ v,ρc (.const v)=v
theorem OR.of {X:Nat→Prop} {E:Env} {w:World} {T:Tm} {a:Act} (h:TR X E w T a.tmps):OR X E w (Opd.ev T) a.eval:=by
 refine ⟨fun x x' hx=>?_,fun v=>rfl⟩
 cases x with
 | tmp t=>injection hx with hx;subst hx;exact h.rel t
 | const v =>
  simp only [cOpd] at hx
  cases hv:c2av v with
  | none=>rw [hv] at hx;cases hx
  | some av=>rw [hv] at hx;injection hx with hx;subst hx;exact c2av_sound hv
 | func f =>
  injection hx with hx
  subst hx
  exact .fn _ [] [] #[] #[] rfl rfl (fun j hj=>by simp at hj) (fun j hj=>by simp at hj)
 | global g=>cases hx
def Res (P:Program) (X:Nat→Prop) (E:Env) (w:World) (o:Oper) (ρc:Operand→Value) (av:AV) (H':AHeap):Prop :=
 ∃ E' w' n v,(execOp ρc o).run P w=.ok n w'∧(n=.value v∨(n=.skip∧v=undef))∧VR X E' w' av v∧HR X E' w' H'∧Ev E w E' w'
theorem Res.pure {P:Program} {X:Nat→Prop} {E:Env} {w:World} {o:Oper} {ρc:Operand→Value} {av:AV} {H:AHeap} (hr:HR X E w H) {v:Value}
  (h:(execOp ρc o).run P w=.ok (.value v) w) (hv:VR X E w av v):Res P X E w o ρc av H :=
 ⟨E,w,_,v,h,.inl rfl,hv,hr,Ev.refl E w⟩
variable {P:Program} {X:Nat→Prop} {E:Env} {w:World} {H:AHeap} {ρ:Opd→AV} {ρc:Operand→Value} {o:Oper}
theorem S_mov {x:Operand} {x':Opd} (ho:o.op=.move x∨o.op=.assign x) (hx:cOpd x=some x') (hρ:OR X E w ρ ρc) (hr:HR X E w H):Res P X E w o ρc (ρ x') H:=by
 refine .pure hr ?_ (hρ.rel x x' hx)
 rcases ho with ho|ho<;>simp [execOp,ho]
theorem VR.inv_bool {b:Bool} {v:Value} (h:VR X E w (.bool b) v):v=.bool b:=by cases h;rfl
theorem VR.inv_int {k:IntKind} {n:Int} {v:Value} (h:VR X E w (.int k n) v):v=.int k n:=by cases h;rfl
theorem VR.inv_str {s:ByteArray} {v:Value} (h:VR X E w (.str s) v):v=.string s∧s.size≤9223372036854775807:=by cases h;exact ⟨rfl,by assumption⟩
theorem S_pick {c a b:Operand} {c' a' b':Opd} {t:Bool} (ho:o.op=.pick c a b) (hc:cOpd c=some c') (ha:cOpd a=some a') (hb:cOpd b=some b') (ht:ρ c'=.bool t)
  (hρ:OR X E w ρ ρc) (hr:HR X E w H):Res P X E w o ρc (if t then ρ a' else ρ b') H:=by
 have h1:=(hρ.rel c c' hc)
 rw [ht] at h1
 have h1:=h1.inv_bool
 refine .pure hr (v:=if t then ρc a else ρc b) ?_ ?_
 ·simp [execOp,ho,h1,asBool]
 ·cases t
  ·exact hρ.rel b b' hb
  ·exact hρ.rel a a' ha
theorem cells_one {v:Value} (h:v.oneCell'=true):v.cells=#[v]:=by cases v<;>first|rfl|cases h
theorem VR.one {av:AV} {v:Value} (h:VR X E w av v) (h1:av.one=true):v.oneCell'=true:=by
 cases h<;>first|rfl|assumption|cases h1
theorem cells_of_one {av:AV} (h:av.one=true):av.cells=some [av]:=by cases av<;>first|rfl|cases h
theorem cells_sound {av:AV} {v:Value} {cs:List AV} (h:VR X E w av v) (hc:av.cells=some cs) :
  v.cells.size=cs.length∧∀ j (hj:j<cs.length) (hj':j<v.cells.size),VR X E w cs[j] v.cells[j]:=by
 by_cases h1:av.one=true
 ·have e:=cells_one (h.one h1)
  rw [cells_of_one h1] at hc
  injection hc with hc
  subst hc
  refine ⟨by rw [e];rfl,fun j hj hj'=>?_⟩
  simp at hj
  subst hj
  simp only [e]
  exact h
 ·cases h with
  | agg cs' vs h2 h=>simp [AV.cells] at hc;subst hc;exact ⟨h2,h⟩
  | any=>cases hc
  | tuple=>cases hc
  | _=>exact absurd rfl h1
theorem S_alloc {t:TypeId} {i:TypeInfo} {z:Value} {cs:List AV} (ho:o.op=.alloc t) (hi:P.info? t=some i) (hz:i.zero=some z) (hc:c2cells z.cells.toList=some cs)
  (hr:HR X E w H):Res P X E w o ρc (.ptr H.length 0 0) (H++[.cells 0 cs]):=by
 obtain ⟨k1,k2⟩:=c2cells_sound (X:=X) (E:=E) (w:=w) hc
 obtain ⟨hev,hr'⟩:=hr.newCells cs z.cells t (by simp [k1]) (fun j hj hj'=>by have:=k2 j hj (by simpa using hj');rwa [Array.getElem_toList] at this)
 refine ⟨_,_,_,.pointer (some ⟨w.heap.size,0,none⟩),?_,.inl rfl,?_,hr',hev⟩
 ·simp [execOp,ho,Instr.alloc,zeroValue,typeInfo,hi,hz,newVar,newRow]
 ·exact .ptr _ _ _ ⟨0,some w.heap.size,0,z.cells.size,true⟩ _ (by rw [←hr.len];simp) rfl (Nat.le_refl _) (fun _=>⟨_,rfl,rfl⟩)
theorem S_box {t:TypeId} {x:Operand} {x':Opd} {cs:List AV} (ho:o.op=.box t x) (hx:cOpd x=some x') (hc:(ρ x').cells=some cs)
  (hρ:OR X E w ρ ρc) (hr:HR X E w H):Res P X E w o ρc (.ptr H.length 0 0) (H++[.cells 0 cs]):=by
 obtain ⟨k1,k2⟩:=cells_sound (hρ.rel x x' hx) hc
 obtain ⟨hev,hr'⟩:=hr.newCells cs (ρc x).cells t (by simp [k1]) k2
 refine ⟨_,_,_,.pointer (some ⟨w.heap.size,0,none⟩),?_,.inl rfl,?_,hr',hev⟩
 ·simp [execOp,ho,Instr.box,newVar,newRow]
 ·exact .ptr _ _ _ ⟨0,some w.heap.size,0,(ρc x).cells.size,true⟩ _ (by rw [←hr.len];simp) rfl (Nat.le_refl _) (fun _=>⟨_,rfl,rfl⟩)
theorem VR.inv_rptr {cs:List AV} {v:Value} (h:VR X E w (.rptr cs) v):∃ (B o:Nat) (f:Nat→Value),v=.pointer (some ⟨B,o,none⟩)∧(0<cs.length→Lone X E B) ∧
  (∀ j,j<cs.length→w.cell? ⟨B,o+j,none⟩=some (f j))∧∀ j (hj:j<cs.length),VR X E w cs[j] (f j):=by
 cases h with
 | rptr _ ad f hL hcell hv=>exact ⟨ad.block,ad.off,f,rfl,hL,hcell,hv⟩
theorem HR.row (hr:HR X E w H) {i g:Nat} {cs:List AV} (h:H[i]?=some (.cells g cs)) {e:Ent} (he:E[i]?=some e) {B:Nat} (hB:e.blk=some B) :
  ∃ f:Nat→Value,∀ j (hj:j<cs.length),w.cell? ⟨B,e.base+j,none⟩=some (f j)∧VR X E w cs[j] (f j)∧w.frozen? ⟨B,e.base+j,none⟩=false:=by
 refine ⟨fun j=>(w.cell? ⟨B,e.base+j,none⟩).getD undef,fun j hj=>?_⟩
 obtain ⟨u,u1,u2,u3⟩:=hr.cell h he hB j hj
 simp only [u1,Option.getD_some]
 exact ⟨trivial,u2,u3⟩
theorem ptr_own {i g off:Nat} {v:Value} {cs:List AV} (h:VR X E w (.ptr i g off) v) (hr:HR X E w H) (hH:H[i]?=some (.cells g cs)) :
  ∃ e B,E[i]?=some e∧e.blk=some B∧v=.pointer (some ⟨B,e.base+off,none⟩):=by
 cases h with
 | ptr _ _ _ e _ he _ hg hl =>
  have hb:=hr.br i e _ he hH
  obtain ⟨B,h1,h2⟩:=hl hb.1.symm
  exact ⟨e,B,he,h1,h2⟩
theorem isAgg_run {t:TypeId} {d:TypeDesc} {i:TypeInfo} (hd:P.underlying t=some d) (hi:P.info? t=some i) (a:Addr) (n:Nat) (hn:i.size=n)
  (agg:Bool) (hagg:agg=true↔((∃ fs,d=.struct fs)∨∃ k e,d=.array k e)) (h1:agg=false→n=1) (f:Nat→Value) (hf:∀ j,j<n→w.cell? (a.add j)=some (f j)) :
  (loadVar t a).run P w=.ok (if agg then .agg ((List.range n).map f).toArray else f 0) w:=by
 have hag:(isAgg t).run P w=.ok agg w:=by
  unfold isAgg
  simp only [Sem.run_bind,run_underlying hd,Result.andThen_ok]
  cases d<;>cases agg<;>simp at hagg ⊢
 have hsz:(sizeOf t).run P w=.ok n w:=by simp [sizeOf,typeInfo,hi,hn]
 unfold loadVar
 simp only [Sem.run_bind,hag,Result.andThen_ok]
 cases agg with
 | true=>simp [hsz,run_loadCells w a n f hf]
 | false =>
  have:=hf 0 (by rw [h1 rfl];omega)
  have ha:a.add 0=a:=by simp [Addr.add]
  rw [ha] at this
  simp [this]
theorem loadCs_sound {n:Nat} {agg:Bool} {cs:List AV} {av:AV} (h:loadCs n agg cs=some av) (h1:agg=false→n=1) (f:Nat→Value) (hf:∀ j (hj:j<cs.length),VR X E w cs[j] (f j)) :
  n≤cs.length∧VR X E w av (if agg then .agg ((List.range n).map f).toArray else f 0):=by
 unfold loadCs at h
 split at h
 ·rename_i hn
  refine ⟨hn,?_⟩
  cases agg with
  | true =>
   simp at h
   subst h
   refine .agg _ _ (by simp;omega) (fun j hj hj'=>?_)
   simp at hj hj'
   simpa using hf j (by omega)
  | false =>
   simp at h
   cases cs with
   | nil=>cases h
   | cons c cs =>
    simp at h
    subst h
    exact hf 0 (by simp)
 ·cases h
theorem add_none (B o n:Nat):(⟨B,o,none⟩:Addr).add n=⟨B,o+n,none⟩:=by
 unfold Addr.add
 split
 ·subst_vars;rfl
 ·rfl
theorem S_load {t:TypeId} {x:Operand} {x':Opd} {d:TypeDesc} {i:TypeInfo} {n:Nat} {agg:Bool} {av:AV} (ho:o.op=.load t x) (hx:cOpd x=some x') (hd:P.underlying t=some d) (hi:P.info? t=some i)
  (hn:i.size=n) (hagg:agg=true↔((∃ fs,d=.struct fs)∨∃ k e,d=.array k e)) (h1:agg=false→n=1) (h0:0<n) (h:aload n agg H (ρ x')=some av)
  (hρ:OR X E w ρ ρc) (hr:HR X E w H):Res P X E w o ρc av H:=by
 have hv:=hρ.rel x x' hx
 have key:∃ (ad:Addr) (cs:List AV) (f:Nat→Value),ρc x=.pointer (some ad)∧loadCs n agg cs=some av∧(∀ j,j<cs.length→w.cell? (ad.add j)=some (f j))∧∀ j (hj:j<cs.length),VR X E w cs[j] (f j):=by
  unfold aload at h
  split at h
  ·rename_i j g off hj
   split at h
   ·rename_i g' cs hH
    split at h
    ·rename_i hg
     subst hg
     rw [hj] at hv
     obtain ⟨e,B,he,hB,hp⟩:=ptr_own hv hr hH
     obtain ⟨f,hf⟩:=hr.row hH he hB
     refine ⟨⟨B,e.base+off,none⟩,cs.drop off,fun k=>f (off+k),hp,h,fun k hk=>?_,fun k hk=>?_⟩
     ·simp at hk
      rw [add_none,Nat.add_assoc]
      exact (hf (off+k) (by omega)).1
     ·simp at hk
      simpa using (hf (off+k) (by omega)).2.1
    ·cases h
   ·cases h
  ·rename_i cs hj
   rw [hj] at hv
   obtain ⟨B,o',f,hp,_,hc,hv⟩:=hv.inv_rptr
   exact ⟨⟨B,o',none⟩,cs,f,hp,h,fun k hk=>by rw [add_none];exact hc k hk,hv⟩
  ·cases h
 obtain ⟨ad,cs,f,e1,e2,e3,e4⟩:=key
 obtain ⟨k1,k2⟩:=loadCs_sound e2 h1 f e4
 refine .pure hr ?_ k2
 simp [execOp,ho,Instr.loadAt,e1,Instr.sureAddr,isAgg_run hd hi ad n hn agg hagg h1 f (fun j hj=>e3 j (by omega))]
end Go.AM
namespace Go.AM
set_option linter.unusedVariables false
set_option linter.unusedSimpArgs false
variable {P:Program} {X:Nat→Prop} {E:Env} {w:World} {H:AHeap} {ρ:Opd→AV} {ρc:Operand→Value} {o:Oper}
theorem set_set_get {H:AHeap} {i:Nat} {b:ABlk} (h:i<H.length):(H.set i b)[i]?=some b:=List.getElem?_set_self h
theorem store_cells {e:Ent} {B i g:Nat}:∀ (vs:List AV) (us:List Value) (k:Nat) (w:World) (H:AHeap) (cs:List AV) (off:Nat),HR X E w H→H[i]?=some (.cells g cs)→E[i]?=some e→e.blk=some B →
  us.length=vs.length→off+k+vs.length≤cs.length→vs.all AV.one=true→(∀ j (hj:j<vs.length) (hj':j<us.length),VR X E w vs[j] us[j]) →
  ∃ w',(storeCells ⟨B,e.base+off,none⟩ us k).run P w=.ok () w'∧HR X E w' (H.set i (.cells g (putAt cs (off+k) vs)))∧Ev E w E w'
 | [],us,k,w,H,cs,off,hr,hH,he,hB,hl,hb,h1,hv=>by
  have:us=[]:=List.eq_nil_of_length_eq_zero (by simpa using hl)
  subst this
  refine ⟨w,rfl,?_,Ev.refl E w⟩
  have:H.set i (.cells g (putAt cs (off+k) []))=H:=by
   simp only [putAt]
   apply List.ext_getElem?
   intro j
   by_cases hj:j=i
   ·subst hj;rw [List.getElem?_set_self (lt_of_get hH),hH]
   ·rw [List.getElem?_set_ne (by omega)]
  rw [this]
  exact hr
 | v::vs,[],k,w,H,cs,off,hr,hH,he,hB,hl,hb,h1,hv=>by simp at hl
 | v::vs,u::us,k,w,H,cs,off,hr,hH,he,hB,hl,hb,h1,hv=>by
  simp at hl hb h1
  have hv0:VR X E w v u:=hv 0 (by simp) (by simp)
  obtain ⟨hev,hr'⟩:=hr.store hH he hB (off+k) (by omega) hv0
  obtain ⟨x,x1,_,x3⟩:=hr.cell hH he hB (off+k) (by omega)
  have ha:(⟨B,e.base+off,none⟩:Addr).add k=⟨B,e.base+(off+k),none⟩:=by rw [add_none,Nat.add_assoc]
  have hst:(store ((⟨B,e.base+off,none⟩:Addr).add k) u).run P w=.ok () (w.setCell ⟨B,e.base+(off+k),none⟩ u):=by
   rw [ha,run_store P w _ u _ (hv0.one h1.1),x1]
   simp [x3]
  obtain ⟨w',r1,r2,r3⟩:=store_cells vs us (k+1) _ _ (cs.set (off+k) v) off hr' (set_set_get (lt_of_get hH)) he hB hl (by simp;omega) (by simpa using h1.2)
   (fun j hj hj'=>(hv (j+1) (by simpa using hj) (by simpa using hj')).mono hev)
  refine ⟨w',?_,?_,hev.trans r3⟩
  ·simp only [storeCells,Sem.run_bind,hst,Result.andThen_ok]
   exact r1
  ·rw [List.set_set] at r2
   simpa [putAt,Nat.add_assoc] using r2
theorem S_store {t:TypeId} {a x:Operand} {a' x':Opd} {i:TypeInfo} {n:Nat} {H':AHeap} (ho:o.op=.store t a x) (ha:cOpd a=some a') (hx:cOpd x=some x') (hi:P.info? t=some i)
  (hn:i.size=n) (h:astore n H (ρ a') (ρ x')=some H') (hρ:OR X E w ρ ρc) (hr:HR X E w H):Res P X E w o ρc .any H':=by
 have hva:=hρ.rel a a' ha
 have hvx:=hρ.rel x x' hx
 unfold astore at h
 split at h
 ·rename_i j g off hj
  split at h
  ·rename_i g' cs vs hH hc
   split at h
   ·rename_i hcond
    obtain ⟨rfl,hl,hb,h1⟩:=hcond
    injection h with h
    subst h
    rw [hj] at hva
    obtain ⟨e,B,he,hB,hp⟩:=ptr_own hva hr hH
    obtain ⟨k1,k2⟩:=cells_sound hvx hc
    obtain ⟨w',r1,r2,r3⟩:=store_cells (P:=P) vs (ρc x).cells.toList 0 w H cs off hr hH he hB (by simpa using k1) (by omega) h1
     (fun m hm hm'=>by have:=k2 m hm (by simpa using hm');rwa [Array.getElem_toList])
    refine ⟨E,w',_,undef,?_,.inr ⟨rfl,rfl⟩,.any _,by simpa using r2,r3⟩
    simp [execOp,ho,Instr.storeAt,hp,Instr.sureAddr,storeVar,sizeOf,typeInfo,hi,hn,k1,hl,r1]
   ·cases h
  ·cases h
 ·cases h
theorem alive_spec {i g:Nat} (h:alive H i g=true):∃ cs,H[i]?=some (.cells g cs):=by
 unfold alive at h
 split at h
 ·rename_i g' cs hH
  simp at h
  subst h
  exact ⟨cs,hH⟩
 ·cases h
theorem ptr_mk (hr:HR X E w H) {i g:Nat} {cs:List AV} (hH:H[i]?=some (.cells g cs)) {e:Ent} (he:E[i]?=some e) {B:Nat} (hB:e.blk=some B) {off k:Nat} (hk:k=e.base+off) :
  VR X E w (.ptr i g off) (.pointer (some ⟨B,k,none⟩)):=by
 subst hk
 have hb:=hr.br i e _ he hH
 exact .ptr i g off e _ he rfl (Nat.le_of_eq hb.1.symm) (fun _=>⟨B,hB,rfl⟩)
theorem S_fa {s:TypeId} {x:Operand} {x':Opd} {f:Nat} {fs:Array Field} {fd:Field} {i:TypeInfo} {av:AV} (ho:o.op=.fieldAddr s x f) (hx:cOpd x=some x') (hd:P.underlying s=some (.struct fs))
  (hf:fs[f]?=some fd) (hi:P.info? fd.type=some i) (h0:i.size≠0) (hav:aop (.fa fd.offset x') ρ H=some (av,H)) (hρ:OR X E w ρ ρc) (hr:HR X E w H):Res P X E w o ρc av H:=by
 have hv:=hρ.rel x x' hx
 have key:∀ (B o':Nat),ρc x=.pointer (some ⟨B,o',none⟩)→(execOp ρc o).run P w=.ok (.value (.pointer (some ⟨B,o'+fd.offset,none⟩))) w:=by
  intro B o' hp
  simp [execOp,ho,Instr.fieldAt,run_underlying hd,hf,hp,Instr.sureAddr,fieldPlace,sizeOf,typeInfo,hi,h0,add_none]
 unfold aop at hav
 simp only at hav
 split at hav
 ·rename_i j g off hj
  split at hav
  ·rename_i hal
   simp at hav
   subst hav
   obtain ⟨cs,hH⟩:=alive_spec hal
   rw [hj] at hv
   obtain ⟨e,B,he,hB,hp⟩:=ptr_own hv hr hH
   exact .pure hr (key B _ hp) (ptr_mk hr hH he hB (by omega))
  ·cases hav
 ·rename_i cs hj
  simp at hav
  subst hav
  rw [hj] at hv
  obtain ⟨B,o',f',hp,hL,hc,hv⟩:=hv.inv_rptr
  refine .pure hr (key B o' hp) ?_
  refine .rptr _ ⟨B,o'+fd.offset,none⟩ (fun k=>f' (fd.offset+k)) (fun h=>hL (by simp at h;omega)) (fun k hk=>?_) (fun k hk=>?_)
  ·simp at hk
   show w.cell? ⟨B,o'+fd.offset+k,none⟩=_
   rw [Nat.add_assoc]
   exact hc _ (by omega)
  ·simp at hk
   simpa using hv (fd.offset+k) (by omega)
 ·cases hav
end Go.AM
namespace Go.AM
set_option linter.unusedVariables false
set_option linter.unusedSimpArgs false
variable {P:Program} {X:Nat→Prop} {E:Env} {w:World} {H:AHeap} {ρ:Opd→AV} {ρc:Operand→Value} {o:Oper}
theorem VR.inv_agg {cs:List AV} {v:Value} (h:VR X E w (.agg cs) v):∃ vs,v=.agg vs∧vs.size=cs.length∧∀ j (hj:j<cs.length) (hj':j<vs.size),VR X E w cs[j] vs[j]:=by
 cases h with
 | agg _ vs h1 h=>exact ⟨vs,rfl,h1,h⟩
theorem VR.inv_tuple {cs:List AV} {v:Value} (h:VR X E w (.tuple cs) v):∃ vs,v=.tuple vs∧vs.size=cs.length∧∀ j (hj:j<cs.length) (hj':j<vs.size),VR X E w cs[j] vs[j]:=by
 cases h with
 | tuple _ vs h1 h=>exact ⟨vs,rfl,h1,h⟩
theorem part_run {t:TypeId} {d:TypeDesc} {i:TypeInfo} {n:Nat} {agg:Bool} {cs:List AV} {vs:Array Value} {off:Nat} {av:AV} (hd:P.underlying t=some d) (hi:P.info? t=some i) (hn:i.size=n)
  (hagg:agg=true↔((∃ fs,d=.struct fs)∨∃ k e,d=.array k e)) (h1:agg=false→n=1) (hs:vs.size=cs.length) (hv:∀ j (hj:j<cs.length) (hj':j<vs.size),VR X E w cs[j] vs[j])
  (h:apart n agg cs off=some av):∃ v,(part t vs off).run P w=.ok v w∧VR X E w av v:=by
 have hag:(isAgg t).run P w=.ok agg w:=by
  unfold isAgg
  simp only [Sem.run_bind,run_underlying hd,Result.andThen_ok]
  cases d<;>cases agg<;>simp at hagg ⊢
 have hsz:(sizeOf t).run P w=.ok n w:=by simp [sizeOf,typeInfo,hi,hn]
 unfold apart at h
 split at h
 ·rename_i hb
  cases agg with
  | true =>
   simp at h
   subst h
   refine ⟨.agg (vs.extract off (off+n)),by simp [part,hag,hsz],.agg _ _ (by simp;omega) (fun j hj hj'=>?_)⟩
   simp at hj hj'
   simpa using hv (off+j) (by omega) (by omega)
  | false =>
   have:=h1 rfl
   subst this
   simp at h
   have ho:off<cs.length:=by omega
   rw [List.getElem?_eq_getElem ho] at h
   injection h with h
   subst h
   have ho':off<vs.size:=by omega
   exact ⟨vs[off],by simp [part,hag,Array.getElem?_eq_getElem ho'],hv off ho ho'⟩
 ·cases h
theorem S_fld {s:TypeId} {x:Operand} {x':Opd} {f:Nat} {fs:Array Field} {fd:Field} {d:TypeDesc} {i:TypeInfo} {n:Nat} {agg:Bool} {av:AV} (ho:o.op=.field s x f) (hx:cOpd x=some x')
  (hs:P.underlying s=some (.struct fs)) (hf:fs[f]?=some fd) (hd:P.underlying fd.type=some d) (hi:P.info? fd.type=some i) (hn:i.size=n)
  (hagg:agg=true↔((∃ fs,d=.struct fs)∨∃ k e,d=.array k e)) (h1:agg=false→n=1) (hav:aop (.fld fd.offset n agg x') ρ H=some (av,H)) (hρ:OR X E w ρ ρc) (hr:HR X E w H):Res P X E w o ρc av H:=by
 have hv:=hρ.rel x x' hx
 unfold aop at hav
 simp only at hav
 split at hav
 ·rename_i cs hj
  split at hav
  ·rename_i v hp
   simp at hav
   subst hav
   rw [hj] at hv
   obtain ⟨vs,e1,e2,e3⟩:=hv.inv_agg
   obtain ⟨u,u1,u2⟩:=part_run hd hi hn hagg h1 e2 e3 hp
   refine .pure hr (v:=u) ?_ u2
   simp [execOp,ho,Instr.field,run_underlying hs,hf,e1,asAgg,u1]
  ·cases hav
 ·cases hav
theorem aindex_spec {n:Nat} {x:AV} {k:Nat} (h:aindex n x=some k):∃ q i,x=.int q i∧0≤i∧i<n∧k=i.toNat∧k<n:=by
 unfold aindex at h
 split at h
 ·rename_i q i
  split at h
  ·rename_i hi
   injection h with h
   exact ⟨q,i,rfl,hi.1,hi.2,h.symm,by omega⟩
  ·cases h
 ·cases h
theorem VR.inv_rows {clip:Bool} {sz:Nat} {es:List (List AV)} {v:Value} (h:VR X E w (.rows clip sz es) v):∃ (a:Option Addr) (c B o:Nat) (f:Nat→Nat→Value),v=.slice a es.length c∧es.length≤maxA∧es.length≤c∧(clip=true→c=es.length) ∧
  (∀ i (hi:i<es.length),es[i].length=sz)∧(0<es.length→a=some ⟨B,o,none⟩)∧(0<es.length→0<sz→Lone X E B) ∧
  (∀ i j,i<es.length→j<sz→w.cell? ⟨B,o+(i*sz+j),none⟩=some (f i j))∧∀ i (hi:i<es.length) j (hj:j<es[i].length),VR X E w es[i][j] (f i j):=by
 cases h with
 | rows _ _ _ a c ad f hn hc hclip hsz ha hL hcell hv=>exact ⟨a,c,ad.block,ad.off,f,rfl,hn,hc,hclip,hsz,ha,hL,hcell,hv⟩
theorem VR.inv_loc {i g off len sz:Nat} {clip:Bool} {v:Value} (h:VR X E w (.loc i g off len sz clip) v) (hr:HR X E w H) {cs:List AV} (hH:H[i]?=some (.cells g cs)) :
  ∃ e,E[i]?=some e∧LocR e off len sz clip v:=by
 cases h with
 | loc _ _ _ _ _ _ e _ he _ hg hl=>exact ⟨e,he,hl (hr.br i e _ he hH).1.symm⟩
theorem S_ia {t el:TypeId} {x y:Operand} {x' y':Opd} {i:TypeInfo} {av:AV} (ho:o.op=.indexAddr t x y) (hx:cOpd x=some x') (hy:cOpd y=some y') (hd:P.underlying t=some (.slice el)) (hi:P.info? el=some i) (h0:0<i.size)
  (hav:aop (.ia i.size x' y') ρ H=some (av,H)) (hρ:OR X E w ρ ρc) (hr:HR X E w H):Res P X E w o ρc av H:=by
 have hv:=hρ.rel x x' hx
 have hvy:=hρ.rel y y' hy
 have hsz:(sizeOf el).run P w=.ok i.size w:=by simp [sizeOf,typeInfo,hi]
 unfold aop at hav
 simp only at hav
 split at hav
 ·rename_i clip sz' es hj
  split at hav
  ·rename_i k hk
   split at hav
   ·rename_i hs
    subst hs
    obtain ⟨q,n,e1,e2,e3,e4,e5⟩:=aindex_spec hk
    rw [List.getElem?_eq_getElem e5] at hav
    simp at hav
    subst hav
    rw [hj] at hv
    rw [e1] at hvy
    have hvy:=hvy.inv_int
    obtain ⟨a,c,B,o',f,p1,p2,p3,p4,p5,p6,p7,p8,p9⟩:=hv.inv_rows
    have ha:=p6 (by omega)
    subst ha
    refine .pure hr (v:=.pointer (some ⟨B,o'+k*i.size,none⟩)) ?_ ?_
    ·simp [execOp,ho,Instr.indexAt,hvy,asIntOf,run_underlying hd,p1,e2,e3,hsz,add_none,e4]
    ·have hl:=p5 k e5
     refine .rptr _ ⟨B,o'+k*i.size,none⟩ (f k) (fun _=>p7 (by omega) h0) (fun j hj=>?_) (fun j hj=>p9 k e5 j hj)
     show w.cell? ⟨B,o'+k*i.size+j,none⟩=_
     rw [Nat.add_assoc]
     exact p8 k j e5 (by omega)
   ·cases hav
  ·cases hav
 ·rename_i j g off len sz' clip hj
  split at hav
  ·rename_i k hk
   split at hav
   ·rename_i hs
    obtain ⟨hs,hal⟩:=hs
    subst hs
    obtain ⟨q,n,e1,e2,e3,e4,e5⟩:=aindex_spec hk
    simp at hav
    subst hav
    rw [hj] at hv
    rw [e1] at hvy
    have hvy:=hvy.inv_int
    obtain ⟨cs,hH⟩:=alive_spec hal
    obtain ⟨e,he,a,c,q1,q0,q2,q3,q4⟩:=hv.inv_loc hr hH
    obtain ⟨B,hB,ha,hroom⟩:=q4 (by omega)
    subst ha
    refine .pure hr (v:=.pointer (some ⟨B,e.base+off+k*i.size,none⟩)) ?_ (ptr_mk hr hH he hB (by omega))
    simp [execOp,ho,Instr.indexAt,hvy,asIntOf,run_underlying hd,q1,e2,e3,hsz,add_none,e4]
   ·cases hav
  ·cases hav
 ·cases hav
theorem S_iarr {t el:TypeId} {x y:Operand} {x' y':Opd} {i:TypeInfo} {len:Nat} {av:AV} (ho:o.op=.indexAddr t x y) (hx:cOpd x=some x') (hy:cOpd y=some y') (hd:P.underlying t=some (.array len el)) (hi:P.info? el=some i)
  (hav:aop (.iarr len i.size x' y') ρ H=some (av,H)) (hρ:OR X E w ρ ρc) (hr:HR X E w H):Res P X E w o ρc av H:=by
 have hv:=hρ.rel x x' hx
 have hvy:=hρ.rel y y' hy
 have hsz:(sizeOf el).run P w=.ok i.size w:=by simp [sizeOf,typeInfo,hi]
 unfold aop at hav
 simp only at hav
 split at hav
 ·rename_i k hk
  obtain ⟨q,n,e1,e2,e3,e4,e5⟩:=aindex_spec hk
  rw [e1] at hvy
  have hvy:=hvy.inv_int
  have key:∀ (B o':Nat),ρc x=.pointer (some ⟨B,o',none⟩)→(execOp ρc o).run P w=.ok (.value (.pointer (some ⟨B,o'+k*i.size,none⟩))) w:=by
   intro B o' hp
   simp [execOp,ho,Instr.indexAt,hvy,asIntOf,run_underlying hd,hp,Instr.sureAddr,e2,e3,hsz,add_none,e4]
  split at hav
  ·rename_i j g off hj
   split at hav
   ·rename_i hal
    simp at hav
    subst hav
    obtain ⟨cs,hH⟩:=alive_spec hal
    rw [hj] at hv
    obtain ⟨e,B,he,hB,hp⟩:=ptr_own hv hr hH
    exact .pure hr (key B _ hp) (ptr_mk hr hH he hB (by omega))
   ·cases hav
  ·rename_i cs hj
   simp at hav
   subst hav
   rw [hj] at hv
   obtain ⟨B,o',f',hp,hL,hc,hv⟩:=hv.inv_rptr
   refine .pure hr (key B o' hp) ?_
   refine .rptr _ ⟨B,o'+k*i.size,none⟩ (fun m=>f' (k*i.size+m)) (fun h=>hL (by simp at h;omega)) (fun m hm=>?_) (fun m hm=>?_)
   ·simp at hm
    show w.cell? ⟨B,o'+k*i.size+m,none⟩=_
    rw [Nat.add_assoc]
    exact hc _ (by omega)
   ·simp at hm
    simpa using hv (k*i.size+m) (by omega)
  ·cases hav
 ·cases hav
theorem S_idx {t el:TypeId} {x y:Operand} {x' y':Opd} {i:TypeInfo} {d:TypeDesc} {len n:Nat} {agg:Bool} {av:AV} (ho:o.op=.index t x y) (hx:cOpd x=some x') (hy:cOpd y=some y') (ht:P.underlying t=some (.array len el))
  (hd:P.underlying el=some d) (hi:P.info? el=some i) (hn:i.size=n) (hagg:agg=true↔((∃ fs,d=.struct fs)∨∃ k e,d=.array k e)) (h1:agg=false→n=1)
  (hav:aop (.idx len n agg x' y') ρ H=some (av,H)) (hρ:OR X E w ρ ρc) (hr:HR X E w H):Res P X E w o ρc av H:=by
 have hv:=hρ.rel x x' hx
 have hvy:=hρ.rel y y' hy
 have hsz:(sizeOf el).run P w=.ok n w:=by simp [sizeOf,typeInfo,hi,hn]
 unfold aop at hav
 simp only at hav
 split at hav
 ·rename_i k hk
  obtain ⟨q,m,e1,e2,e3,e4,e5⟩:=aindex_spec hk
  rw [e1] at hvy
  have hvy:=hvy.inv_int
  split at hav
  ·rename_i cs hj
   split at hav
   ·rename_i v hp
    simp at hav
    subst hav
    rw [hj] at hv
    obtain ⟨vs,p1,p2,p3⟩:=hv.inv_agg
    obtain ⟨u,u1,u2⟩:=part_run hd hi hn hagg h1 p2 p3 hp
    refine .pure hr (v:=u) ?_ u2
    simp [execOp,ho,Instr.index,hvy,asIntOf,run_underlying ht,p1,e2,e3,hsz]
    rw [←e4,u1]
    rfl
   ·cases hav
  ·cases hav
 ·cases hav
theorem S_idxs {t:TypeId} {x y:Operand} {x' y':Opd} {av:AV} (ho:o.op=.index t x y) (hx:cOpd x=some x') (hy:cOpd y=some y') (ht:P.underlying t=some .string)
  (hav:aop (.idxs x' y') ρ H=some (av,H)) (hρ:OR X E w ρ ρc) (hr:HR X E w H):Res P X E w o ρc av H:=by
 have hv:=hρ.rel x x' hx
 have hvy:=hρ.rel y y' hy
 unfold aop at hav
 simp only at hav
 split at hav
 ·rename_i s hj
  split at hav
  ·rename_i k hk
   simp at hav
   subst hav
   obtain ⟨q,n,e1,e2,e3,e4,e5⟩:=aindex_spec hk
   rw [e1] at hvy
   have hvy:=hvy.inv_int
   rw [hj] at hv
   obtain ⟨hv,hs⟩:=hv.inv_str
   refine .pure hr (v:=.int .u8 ((s.data.getD k 0).toNat:Int)) ?_ (by simpa using VR.int .u8 ((s.data.getD k 0).toNat:Int))
   have hlt:n.toNat<s.size:=by omega
   have hg:s[n.toNat]?=some (s.data.getD k 0):=by
    rw [getElem?_pos s n.toNat hlt]
    subst e4
    have:n.toNat<s.data.size:=hlt
    simp only [Array.getD,dif_pos this]
    rfl
   simp [execOp,ho,Instr.index,hvy,asIntOf,run_underlying ht,hv,e2,hg]
  ·cases hav
 ·cases hav
theorem S_ext {x:Operand} {x':Opd} {k:Nat} {av:AV} (ho:o.op=.extract x k) (hx:cOpd x=some x') (hav:aop (.ext x' k) ρ H=some (av,H)) (hρ:OR X E w ρ ρc) (hr:HR X E w H):Res P X E w o ρc av H:=by
 have hv:=hρ.rel x x' hx
 unfold aop at hav
 simp only at hav
 split at hav
 ·rename_i vs hj
  split at hav
  ·rename_i v hk
   simp at hav
   subst hav
   rw [hj] at hv
   obtain ⟨us,p1,p2,p3⟩:=hv.inv_tuple
   have hlt:=lt_of_get hk
   rw [List.getElem?_eq_getElem hlt] at hk
   injection hk with hk
   subst hk
   have hlt':k<us.size:=by omega
   exact .pure hr (v:=us[k]) (by simp [execOp,ho,Instr.extract,p1,Array.getElem?_eq_getElem hlt']) (p3 k hlt hlt')
  ·cases hav
 ·cases hav
theorem S_not {ty:TypeId} {x:Operand} {x':Opd} {av:AV} (ho:o.op=.unOp .not ty x) (hx:cOpd x=some x') (hav:aop (.not x') ρ H=some (av,H)) (hρ:OR X E w ρ ρc) (hr:HR X E w H):Res P X E w o ρc av H:=by
 have hv:=hρ.rel x x' hx
 unfold aop at hav
 simp only at hav
 split at hav
 ·rename_i b hj
  simp at hav
  subst hav
  rw [hj] at hv
  have hv:=hv.inv_bool
  exact .pure hr (v:=.bool (!b)) (by simp [execOp,ho,Op.unary,hv]) (.bool _)
 ·cases hav
theorem S_neg {ty:TypeId} {x:Operand} {x':Opd} {av:AV} (ho:o.op=.unOp .neg ty x) (hx:cOpd x=some x') (hav:aop (.neg x') ρ H=some (av,H)) (hρ:OR X E w ρ ρc) (hr:HR X E w H):Res P X E w o ρc av H:=by
 have hv:=hρ.rel x x' hx
 unfold aop at hav
 simp only at hav
 split at hav
 ·rename_i k n hj
  simp at hav
  subst hav
  rw [hj] at hv
  have hv:=hv.inv_int
  exact .pure hr (v:=.int k (k.wrap (0 - n))) (by simp [execOp,ho,Op.unary,hv,Op.intArith]) (by simpa using VR.int k (k.wrap (0 - n)))
 ·cases hav
theorem S_cint {src dst:TypeId} {x:Operand} {x':Opd} {k:IntKind} {d:TypeDesc} {av:AV} (ho:o.op=.convert src dst x) (hx:cOpd x=some x') (hs:P.underlying src=some d) (hd:P.underlying dst=some (.int k))
  (hav:aop (.cint k x') ρ H=some (av,H)) (hρ:OR X E w ρ ρc) (hr:HR X E w H):Res P X E w o ρc av H:=by
 have hv:=hρ.rel x x' hx
 unfold aop at hav
 simp only at hav
 split at hav
 ·rename_i k' n hj
  simp at hav
  subst hav
  rw [hj] at hv
  have hv:=hv.inv_int
  exact .pure hr (v:=.int k (k.wrap n)) (by simp [execOp,ho,convert,run_underlying hs,run_underlying hd,hv,Conv.intToInt]) (.int _ _)
 ·cases hav
theorem S_cid {src dst:TypeId} {x:Operand} {x':Opd} {av:AV} (ho:o.op=.convert src dst x) (hx:cOpd x=some x') (hs:P.underlying src=some .string) (hd:P.underlying dst=some .string)
  (hav:aop (.cid x') ρ H=some (av,H)) (hρ:OR X E w ρ ρc) (hr:HR X E w H):Res P X E w o ρc av H:=by
 have hv:=hρ.rel x x' hx
 unfold aop at hav
 simp only at hav
 split at hav
 ·rename_i s hj
  simp at hav
  subst hav
  rw [hj] at hv
  obtain ⟨hv',hs'⟩:=hv.inv_str
  exact .pure hr (v:=.string s) (by simp [execOp,ho,convert,run_underlying hs,run_underlying hd,hv']) (.str _ hs')
 ·cases hav
theorem S_mkif {t:TypeId} {x:Operand} {x':Opd} {d:TypeDesc} (ho:o.op=.makeInterface t x) (hx:cOpd x=some x') (hd:P.underlying t=some d) (hni:∀ ms,d≠.interface ms)
  (hρ:OR X E w ρ ρc) (hr:HR X E w H):Res P X E w o ρc (.iface t (ρ x')) H:=by
 refine .pure hr (v:=.iface t (ρc x)) ?_ (.iface t _ _ (hρ.rel x x' hx))
 cases d<;>first|exact absurd rfl (hni _)|simp [execOp,ho,Instr.makeInterface,run_underlying hd]
def cOpds:List Operand→Option (List Opd)
 | []=>some []
 | x::xs=>match cOpd x,cOpds xs with
  | some a,some as=>some (a::as)
  | _,_=>none
theorem cOpds_sound (hρ:OR X E w ρ ρc):∀ {xs:List Operand} {as:List Opd},cOpds xs=some as→as.length=xs.length∧∀ j (hj:j<(as.map ρ).length) (hj':j<(xs.map ρc).length),VR X E w (as.map ρ)[j] (xs.map ρc)[j]
 | [],as,h=>by simp [cOpds] at h;subst h;exact ⟨rfl,fun j hj=>by simp at hj⟩
 | x::xs,as,h=>by
  simp only [cOpds] at h
  split at h
  ·rename_i a as' h1 h2
   injection h with h
   subst h
   obtain ⟨k1,k2⟩:=cOpds_sound hρ h2
   refine ⟨by simp [k1],fun j hj hj'=>?_⟩
   cases j with
   | zero=>exact hρ.rel x a h1
   | succ j=>exact k2 j (by simpa using hj) (by simpa using hj')
  ·cases h
theorem S_mkfn {f:Fn} {xs ys:Array Operand} {xs' ys':List Opd} (ho:o.op=.makeFunc f xs ys) (hx:cOpds xs.toList=some xs') (hy:cOpds ys.toList=some ys')
  (hρ:OR X E w ρ ρc) (hr:HR X E w H):Res P X E w o ρc (.fn f (xs'.map ρ) (ys'.map ρ)) H:=by
 obtain ⟨a1,a2⟩:=cOpds_sound hρ hx
 obtain ⟨b1,b2⟩:=cOpds_sound hρ hy
 refine .pure hr (v:=.func f (xs.map ρc) (ys.map ρc)) (by simp [execOp,ho,Instr.makeFunc]) (.fn f _ _ _ _ (by simp [a1]) (by simp [b1]) (fun j hj hj'=>?_) (fun j hj hj'=>?_))
 ·have:=a2 j hj (by simpa using hj')
  simpa using this
 ·have:=b2 j hj (by simpa using hj')
  simpa using this
theorem S_nilc {x:Operand} {x':Opd} {av:AV} (ho:o.op=.nilCheck x) (hx:cOpd x=some x') (hav:aop (.nilc x') ρ H=some (av,H)) (hρ:OR X E w ρ ρc) (hr:HR X E w H):Res P X E w o ρc av H:=by
 have hv:=hρ.rel x x' hx
 unfold aop at hav
 simp only at hav
 split at hav
 ·rename_i j g off hj
  split at hav
  ·rename_i hal
   simp at hav
   subst hav
   obtain ⟨cs,hH⟩:=alive_spec hal
   rw [hj] at hv
   obtain ⟨e,B,he,hB,hp⟩:=ptr_own hv hr hH
   exact .pure hr (v:=ρc x) (by simp [execOp,ho,hp]) hv
  ·cases hav
 ·rename_i cs hj
  simp at hav
  subst hav
  rw [hj] at hv
  obtain ⟨B,o',f',hp,_⟩:=hv.inv_rptr
  exact .pure hr (v:=ρc x) (by simp [execOp,ho,hp]) hv
 ·rename_i f a b hj
  simp at hav
  subst hav
  rw [hj] at hv
  have:∃ a' b',ρc x=.func (.func f) a' b':=by
   generalize ρc x=v at hv
   cases hv with
   | fn _ _ _ a' b'=>exact ⟨a',b',rfl⟩
  obtain ⟨a',b',hp⟩:=this
  exact .pure hr (v:=ρc x) (by simp [execOp,ho,hp]) hv
 ·cases hav
theorem S_len {t e:TypeId} {x:Operand} {x':Opd} {av:AV} (ho:o.op=.call { callee:=.builtin .len,args:=#[x],argTypes:=#[t] }) (hx:cOpd x=some x') (hd:P.underlying t=some (.slice e))
  (hav:aop (.len x') ρ H=some (av,H)) (hρ:OR X E w ρ ρc) (hr:HR X E w H):Res P X E w o ρc av H∧alenOk (ρ x'):=by
 have hv:=hρ.rel x x' hx
 unfold aop at hav
 simp only at hav
 split at hav
 ·rename_i n hn
  simp at hav
  subst hav
  have key:∀ a c (m:Nat),ρc x=.slice a m c→(execOp ρc o).run P w=.ok (.value (goInt m)) w:=by
   intro a c m hp
   simp [execOp,ho,resolve,invoke,builtin,Builtin.len_,run_underlying hd,hp]
  unfold alen at hn
  split at hn
  ·rename_i hj
   injection hn with hn
   subst hn
   rw [hj] at hv ⊢
   obtain ⟨a,c,B,o',f,p1,p2,_⟩:=hv.inv_rows
   exact ⟨.pure hr (key _ _ _ p1) (.int _ _),p2⟩
  ·rename_i hj
   split at hn
   ·rename_i hal
    injection hn with hn
    subst hn
    obtain ⟨cs,hH⟩:=alive_spec hal
    rw [hj] at hv ⊢
    obtain ⟨e,he,a,c,q1,q0,q2,q3,q4⟩:=hv.inv_loc hr hH
    exact ⟨.pure hr (key _ _ _ q1) (.int _ _),q0⟩
   ·cases hn
  ·rename_i hj
   injection hn with hn
   subst hn
   rw [hj] at hv ⊢
   have:ρc x=.slice none 0 0:=by
    generalize ρc x=v at hv
    cases hv
    rfl
   exact ⟨.pure hr (key _ _ _ this) (.int _ _),trivial⟩
  ·cases hn
 ·cases hav
theorem S_lens {t:TypeId} {x:Operand} {x':Opd} {av:AV} (ho:o.op=.call { callee:=.builtin .len,args:=#[x],argTypes:=#[t] }) (hx:cOpd x=some x') (hd:P.underlying t=some .string)
  (hav:aop (.lens x') ρ H=some (av,H)) (hρ:OR X E w ρ ρc) (hr:HR X E w H):Res P X E w o ρc av H∧alenOk (ρ x'):=by
 have hv:=hρ.rel x x' hx
 unfold aop at hav
 simp only at hav
 split at hav
 ·rename_i s hj
  simp at hav
  subst hav
  rw [hj] at hv ⊢
  obtain ⟨h1,h2⟩:=hv.inv_str
  exact ⟨.pure hr (v:=goInt s.size) (by simp [execOp,ho,resolve,invoke,builtin,Builtin.len_,run_underlying hd,h1]) (.int _ _),h2⟩
 ·cases hav
theorem S_bin {op:BinOp} {tx ty:TypeId} {x y:Operand} {x' y':Opd} {av:AV} (ho:o.op=.binOp op tx x y ty) (hx:cOpd x=some x') (hy:cOpd y=some y')
  (hav:aop (.bin op x' y') ρ H=some (av,H)) (hρ:OR X E w ρ ρc) (hr:HR X E w H):Res P X E w o ρc av H:=by
 have hvx:=hρ.rel x x' hx
 have hvy:=hρ.rel y y' hy
 unfold aop at hav
 simp only at hav
 split at hav
 ·rename_i v hb
  simp at hav
  subst hav
  unfold abin at hb
  split at hb
  ·rename_i k a k' b hjx hjy
   rw [hjx] at hvx
   rw [hjy] at hvy
   have hvx:=hvx.inv_int
   have hvy:=hvy.inv_int
   have hg:∀ (p q:Operand),(eqGuard op tx p q (.int k a) (.int k' b)).run P w=.ok () w:=by
    intro p q
    unfold eqGuard
    split<;>rfl
   split at hb
   ·split at hb
    ·cases hb
    ·rename_i h0
     injection hb with hb
     subst hb
     exact .pure hr (v:=.int k (k.wrap (a*2^(min b.toNat k.bits)))) (by simp [execOp,ho,hvx,hvy,hg,binOp,Op.shift,h0]) (.int _ _)
   ·split at hb
    ·cases hb
    ·rename_i h0
     injection hb with hb
     subst hb
     exact .pure hr (v:=.int k (a.fdiv (2^(min b.toNat k.bits)))) (by simp [execOp,ho,hvx,hvy,hg,binOp,Op.shift,h0]) (.int _ _)
   ·split at hb
    ·rename_i hs1 hs2 hkk
     subst hkk
     unfold abinInt at hb
     split at hb<;>first
      | (injection hb with hb;subst hb;refine .pure hr (v:=?_) ?_ ?_;rotate_left;(simp [execOp,ho,hvx,hvy,hg,binOp,Op.intArith,Op.intBits,Op.intCmp];rfl);(constructor))
      | (split at hb<;>first|(cases hb;done)|(rename_i h0;injection hb with hb;subst hb;refine .pure hr (v:=?_) ?_ ?_;rotate_left;(simp only [execOp,ho,hvx,hvy,binOp,Op.intDiv,Sem.run_bind,hg,Result.andThen_ok,ne_eq,not_true_eq_false,if_false,if_neg h0];rfl);(constructor)))
      | cases hb
    ·cases hb
  ·rename_i a b hjx hjy
   rw [hjx] at hvx
   rw [hjy] at hvy
   obtain ⟨hvx,hsx⟩:=hvx.inv_str
   obtain ⟨hvy,hsy⟩:=hvy.inv_str
   have hg:∀ (p q:Operand),(eqGuard op tx p q (.string a) (.string b)).run P w=.ok () w:=by
    intro p q
    unfold eqGuard
    split<;>rfl
   split at hb
   ·split at hb
    ·rename_i hsz
     injection hb with hb
     subst hb
     refine .pure hr (v:=.string (a++b)) ?_ (.str _ (by simpa using hsz))
     simp [execOp,ho,hvx,hvy,hg,binOp,run_string_add_sum w a b hsz]
    ·cases hb
   all_goals first
    | (injection hb with hb;subst hb;refine .pure hr (v:=?_) ?_ ?_;rotate_left;(simp only [execOp,ho,hvx,hvy,binOp,Op.stringOp,Sem.run_bind,hg,Result.andThen_ok,bytes_beq];rfl);(constructor))
    | cases hb
  ·cases hb
 ·cases hav
end Go.AM
namespace Go.AM
set_option linter.unusedVariables false
set_option linter.unusedSimpArgs false
variable {P:Program} {X:Nat→Prop} {E:Env} {w:World} {H:AHeap} {ρ:Opd→AV} {ρc:Operand→Value} {o:Oper}
def cOpt:Option Operand→Option (Option Opd)
 | none=>some none
 | some x=>(cOpd x).map some
theorem abound_spec {m d k:Nat} {x:Option Operand} {x':Option Opd} (hx:cOpt x=some x') (h:abound ρ m d x'=some k) (hρ:OR X E w ρ ρc) :
  (x=none∧x'=none∧k=d)∨∃ y q n,x=some y∧ρc y=.int q n∧0≤n∧n≤m∧k=n.toNat∧k≤m:=by
 cases x with
 | none =>
  simp [cOpt] at hx
  subst hx
  simp [abound] at h
  exact .inl ⟨rfl,rfl,h.symm⟩
 | some y =>
  simp only [cOpt] at hx
  cases hy:cOpd y with
  | none=>rw [hy] at hx;cases hx
  | some y' =>
   rw [hy] at hx
   injection hx with hx
   subst hx
   simp only [abound] at h
   split at h
   ·rename_i n hn
    split at h
    ·rename_i hb
     injection h with h
     unfold aint at hn
     split at hn
     ·rename_i q n' hj
      injection hn with hn
      subst hn
      have:=hρ.rel y y' hy
      rw [hj] at this
      exact .inr ⟨y,q,n',rfl,this.inv_int,hb.1,hb.2,h.symm,by omega⟩
     ·cases hn
    ·cases h
   ·cases h
theorem sliceBound_run {q:IntKind} {n:Int} {m k:Nat} {c:BoundsCode} (h0:0≤n) (h1:n≤m) (hk:k=n.toNat):(Instr.sliceBound (.int q n) m c).run P w=.ok k w:=by
 subst hk
 simp [Instr.sliceBound,asIntOf,h0,h1]
theorem sliceBounds_run {isSlice:Bool} {lo hi mx:Option Operand} {lo' hi' mx':Option Opd} {len cap:Nat} {l h:Nat} {mo:Option Nat}
  (hlo:cOpt lo=some lo') (hhi:cOpt hi=some hi') (hmx:cOpt mx=some mx') (hρ:OR X E w ρ ρc) (hc:len≤cap)
  (h1:abound ρ len len hi'=some h) (h2:abound ρ h 0 lo'=some l)
  (h3:(mx'=none∧mo=none)∨∃ m,mx'=some m∧abound ρ len 0 (some m)=some h∧mo=some h∧hi'.isSome=true) :
  (Instr.sliceBounds isSlice len cap (lo.map ρc) (hi.map ρc) (mx.map ρc)).run P w=.ok (l,h,mo.getD cap) w∧l≤h∧h≤len:=by
 have hl:h≤len:=by
  rcases abound_spec hhi h1 hρ with ⟨_,_,e⟩|⟨y,q,n,_,_,_,_,_,e⟩<;>omega
 have hll:l≤h:=by
  rcases abound_spec hlo h2 hρ with ⟨_,_,e⟩|⟨y,q,n,_,_,_,_,_,e⟩<;>omega
 refine ⟨?_,hll,hl⟩
 rcases h3 with ⟨e1,e2⟩|⟨m,e1,e2,e3,e4⟩
 ·subst e1 e2
  have:mx=none:=by
   cases mx with
   | none=>rfl
   | some y=>simp only [cOpt] at hmx;cases hy:cOpd y<;>rw [hy] at hmx<;>cases hmx
  subst this
  unfold Instr.sliceBounds
  rcases abound_spec hhi h1 hρ with ⟨a1,a2,a3⟩|⟨y,q,n,a1,a2,a3,a4,a5,a6⟩<;>rcases abound_spec hlo h2 hρ with ⟨b1,b2,b3⟩|⟨y',q',n',b1,b2,b3,b4,b5,b6⟩
  ·subst a1 b1 a3 b3
   simp
  ·subst a1 b1 a3
   simp [b2,sliceBound_run b3 b4 b5]
  ·subst a1 b1 b3
   have:n≤(cap:Int):=by omega
   simp [a2,sliceBound_run a3 this a5]
  ·subst a1 b1
   have:n≤(cap:Int):=by omega
   simp [a2,sliceBound_run a3 this a5,b2,sliceBound_run b3 b4 b5]
 ·subst e1 e3
  rcases abound_spec hmx e2 hρ with ⟨a1,a2,a3⟩|⟨z,qz,nz,z1,z2,z3,z4,z5,z6⟩
  ·cases a2
  ·subst z1
   have hz:nz≤(cap:Int):=by omega
   unfold Instr.sliceBounds
   rcases abound_spec hhi h1 hρ with ⟨a1,a2,a3⟩|⟨y,q,n,a1,a2,a3,a4,a5,a6⟩
   ·subst a2;cases e4
   ·subst a1
    have hn:n≤(h:Int):=by omega
    rcases abound_spec hlo h2 hρ with ⟨b1,b2,b3⟩|⟨y',q',n',b1,b2,b3,b4,b5,b6⟩
    ·subst b1 b3
     simp [z2,sliceBound_run z3 hz z5,a2,sliceBound_run a3 hn a5]
    ·subst b1
     simp [z2,sliceBound_run z3 hz z5,a2,sliceBound_run a3 hn a5,b2,sliceBound_run b3 b4 b5]
theorem getElem_drop_take {α:Type} {es:List α} {l h k:Nat} (hk:k<((es.take h).drop l).length) (hk':l+k<es.length):((es.take h).drop l)[k]=es[l+k]:=by
 simp
theorem opt_add {a:Option Addr} {B o k:Nat} (h:a=some ⟨B,o,none⟩):a.map (·.add k)=some ⟨B,o+k,none⟩:=by
 subst h
 simp [add_none]
theorem S_slc {t el:TypeId} {x:Operand} {lo hi mx:Option Operand} {x':Opd} {lo' hi' mx':Option Opd} {i:TypeInfo} {av:AV} (ho:o.op=.slice t x lo hi mx) (hx:cOpd x=some x')
  (hlo:cOpt lo=some lo') (hhi:cOpt hi=some hi') (hmx:cOpt mx=some mx') (hmh:mx'.isSome=true→hi'.isSome=true) (hd:P.underlying t=some (.slice el)) (hi0:P.info? el=some i)
  (hav:aop (.slc i.size x' lo' hi' mx') ρ H=some (av,H)) (hρ:OR X E w ρ ρc) (hr:HR X E w H):Res P X E w o ρc av H:=by
 have hv:=hρ.rel x x' hx
 have hsz:(sizeOf el).run P w=.ok i.size w:=by simp [sizeOf,typeInfo,hi0]
 have key:∀ (a:Option Addr) (len cap l h m:Nat),ρc x=.slice a len cap→(Instr.sliceBounds true len cap (lo.map ρc) (hi.map ρc) (mx.map ρc)).run P w=.ok (l,h,m) w →
   (execOp ρc o).run P w=.ok (.value (.slice (if m=l then a else a.map (·.add (l*i.size))) (h - l) (m - l))) w:=by
  intro a len cap l h m hp hb
  simp [execOp,ho,Instr.sliceAt,Instr.slice,run_underlying hd,hp,hb,hsz]
 unfold aop at hav
 simp only at hav
 split at hav
 ·rename_i v hs
  simp at hav
  subst hav
  unfold aslc at hs
  split at hs
  ·rename_i clip sz' es hj
   rw [hj] at hv
   obtain ⟨a,c,B,o',f,p1,p2,p3,p4,p5,p6,p7,p8,p9⟩:=hv.inv_rows
   have fin:∀ (l h m:Nat) (clip':Bool),l≤h→h≤es.length→h≤m→(clip'=true→m=h)→sz'=i.size →
     VR X E w (.rows clip' i.size ((es.take h).drop l)) (.slice (if m=l then a else a.map (·.add (l*i.size))) (h - l) (m - l)):=by
    intro l h m clip' h1 h2 h3 h4 h5
    subst h5
    have hlen:((es.take h).drop l).length=h - l:=by simp;omega
    rw [←hlen]
    refine .rows clip' i.size _ _ _ ⟨B,o'+l*i.size,none⟩ (fun k j=>f (l+k) j) (by omega) (by omega) (fun hc=>by have:=h4 hc;omega) (fun k hk=>?_) (fun h0=>?_) (fun h0 hz=>p7 (by omega) hz) (fun k j hk hj=>?_) (fun k hk j hj=>?_)
    ·rw [getElem_drop_take hk (by omega)]
     exact p5 _ _
    ·rw [if_neg (by omega)]
     exact opt_add (p6 (by omega))
    ·have:=p8 (l+k) j (by omega) hj
     rw [Nat.add_mul] at this
     show w.cell? ⟨B,o'+l*i.size+(k*i.size+j),none⟩=_
     rw [←this]
     congr 2
     omega
    ·have e:=getElem_drop_take hk (by omega)
     have:=p9 (l+k) (by omega) j (by rw [←e];exact hj)
     simp only [e]
     exact this
   split at hs
   ·rename_i hsz'
    split at hs
    ·rename_i h hh
     split at hs
     ·rename_i l hl
      split at hs
      ·injection hs with hs
       subst hs
       obtain ⟨r1,r2,r3⟩:=sliceBounds_run (P:=P) (isSlice:=true) (cap:=c) (mo:=none) hlo hhi hmx hρ p3 hh hl (.inl ⟨rfl,rfl⟩)
       exact .pure hr (key a _ c l h c p1 r1) (fin l h c _ r2 r3 (by omega) (fun hc=>by simp at hc;have:=p4 hc.1;omega) hsz')
      ·rename_i m
       split at hs
       ·rename_i mm hm
        split at hs
        ·rename_i hme
         subst hme
         injection hs with hs
         subst hs
         obtain ⟨r1,r2,r3⟩:=sliceBounds_run (P:=P) (isSlice:=true) (cap:=c) (mo:=some mm) hlo hhi hmx hρ p3 hh hl (.inr ⟨m,rfl,hm,rfl,hmh rfl⟩)
         exact .pure hr (key a _ c l mm mm p1 r1) (fin l mm mm _ r2 r3 (by omega) (fun _=>rfl) hsz')
        ·cases hs
       ·cases hs
     ·cases hs
    ·cases hs
   ·cases hs
  ·rename_i j g off len sz' clip hj
   rw [hj] at hv
   split at hs
   ·rename_i hsz'
    obtain ⟨hsz',hal⟩:=hsz'
    obtain ⟨cs,hH⟩:=alive_spec hal
    obtain ⟨e,he,a,c,p1,p2,p3,p4,p5⟩:=hv.inv_loc hr hH
    have fin:∀ (l h m:Nat) (clip':Bool),l≤h→h≤len→h≤m→m≤c→(clip'=true→m=h)→sz'=i.size →
      VR X E w (.loc j g (off+l*i.size) (h - l) i.size clip') (.slice (if m=l then a else a.map (·.add (l*i.size))) (h - l) (m - l)):=by
     intro l h m clip' h1 h2 h3 h3' h4 h5
     subst h5
     refine .loc _ _ _ _ _ _ e _ he rfl (Nat.le_of_eq (hr.br j e _ he hH).1.symm) (fun _=>⟨_,_,rfl,by omega,by omega,fun hc=>by have:=h4 hc;omega,fun h0=>?_⟩)
     obtain ⟨B,q1,q2,q3⟩:=p5 (by omega)
     refine ⟨B,q1,?_,?_⟩
     ·rw [if_neg (by omega),opt_add q2,Nat.add_assoc]
     ·have:(l+(m - l))*i.size≤c*i.size:=Nat.mul_le_mul_right _ (by omega)
      rw [Nat.add_mul] at this
      omega
    split at hs
    ·rename_i h hh
     split at hs
     ·rename_i l hl
      split at hs
      ·injection hs with hs
       subst hs
       obtain ⟨r1,r2,r3⟩:=sliceBounds_run (P:=P) (isSlice:=true) (cap:=c) (mo:=none) hlo hhi hmx hρ p3 hh hl (.inl ⟨rfl,rfl⟩)
       exact .pure hr (key a _ c l h c p1 r1) (fin l h c _ r2 r3 (by omega) (Nat.le_refl _) (fun hc=>by simp at hc;have:=p4 hc.1;omega) hsz')
      ·rename_i m
       split at hs
       ·rename_i mm hm
        split at hs
        ·rename_i hme
         subst hme
         injection hs with hs
         subst hs
         obtain ⟨r1,r2,r3⟩:=sliceBounds_run (P:=P) (isSlice:=true) (cap:=c) (mo:=some mm) hlo hhi hmx hρ p3 hh hl (.inr ⟨m,rfl,hm,rfl,hmh rfl⟩)
         exact .pure hr (key a _ c l mm mm p1 r1) (fin l mm mm _ r2 r3 (by omega) (by omega) (fun _=>rfl) hsz')
        ·cases hs
       ·cases hs
     ·cases hs
    ·cases hs
   ·cases hs
  ·rename_i hj
   rw [hj] at hv
   have hp:ρc x=.slice none 0 0:=by
    generalize ρc x=v at hv
    cases hv
    rfl
   split at hs
   ·rename_i hk lk hh hl
    have h0:hk=0:=by rcases abound_spec hhi hh hρ with ⟨_,_,e⟩|⟨y,q,n,_,_,_,_,_,e⟩<;>omega
    have l0:lk=0:=by rcases abound_spec hlo hl hρ with ⟨_,_,e⟩|⟨y,q,n,_,_,_,_,_,e⟩<;>omega
    subst h0 l0
    split at hs
    ·injection hs with hs
     subst hs
     obtain ⟨r1,r2,r3⟩:=sliceBounds_run (P:=P) (isSlice:=true) (cap:=0) (mo:=none) hlo hhi hmx hρ (Nat.le_refl _) hh hl (.inl ⟨rfl,rfl⟩)
     have:=key none 0 0 0 0 0 hp r1
     simp at this
     exact .pure hr this .nilS
    ·rename_i m
     split at hs
     ·rename_i mm hm
      injection hs with hs
      subst hs
      have m0:mm=0:=by rcases abound_spec hmx hm hρ with ⟨_,_,e⟩|⟨y,q,n,_,_,_,_,_,e⟩<;>omega
      subst m0
      obtain ⟨r1,r2,r3⟩:=sliceBounds_run (P:=P) (isSlice:=true) (cap:=0) (mo:=some 0) hlo hhi hmx hρ (Nat.le_refl _) hh hl (.inr ⟨m,rfl,hm,rfl,hmh rfl⟩)
      have:=key none 0 0 0 0 0 hp r1
      simp at this
      exact .pure hr this .nilS
     ·cases hs
   ·cases hs
  ·cases hs
 ·cases hav
theorem S_slstr {t:TypeId} {x:Operand} {lo hi:Option Operand} {x':Opd} {lo' hi':Option Opd} {av:AV} (ho:o.op=.slice t x lo hi none) (hx:cOpd x=some x')
  (hlo:cOpt lo=some lo') (hhi:cOpt hi=some hi') (hd:P.underlying t=some .string) (hav:aop (.slstr x' lo' hi') ρ H=some (av,H)) (hρ:OR X E w ρ ρc) (hr:HR X E w H):Res P X E w o ρc av H:=by
 have hv:=hρ.rel x x' hx
 unfold aop at hav
 simp only at hav
 split at hav
 ·rename_i s hj
  rw [hj] at hv
  obtain ⟨h1,h2⟩:=hv.inv_str
  split at hav
  ·rename_i h hh
   split at hav
   ·rename_i l hl
    simp at hav
    subst hav
    obtain ⟨r1,r2,r3⟩:=sliceBounds_run (P:=P) (isSlice:=false) (cap:=s.size) (mo:=none) (mx:=none) (mx':=none) hlo hhi rfl hρ (Nat.le_refl _) hh hl (.inl ⟨rfl,rfl⟩)
    have r1':(Instr.sliceBounds false s.size s.size (lo.map ρc) (hi.map ρc) none).run P w=.ok (l,h,s.size) w:=r1
    exact .pure hr (v:=.string (s.extract l h)) (by simp [execOp,ho,Instr.sliceAt,Instr.slice,run_underlying hd,h1,r1']) (.str _ (by simp;omega))
   ·cases hav
  ·cases hav
 ·cases hav
end Go.AM
namespace Go.AM
set_option linter.unusedVariables false
set_option linter.unusedSimpArgs false
variable {P:Program} {X:Nat→Prop} {E:Env} {w:World} {H:AHeap} {ρ:Opd→AV} {ρc:Operand→Value} {o:Oper}
def CsR (X:Nat→Prop) (E:Env) (w:World) (cs:List AV) (vs:Array Value):Prop:=vs.size=cs.length∧∀ j (hj:j<cs.length) (hj':j<vs.size),VR X E w cs[j] vs[j]
theorem CsR.set {cs:List AV} {vs:Array Value} (h:CsR X E w cs vs) (k:Nat) {c:AV} {v:Value} (hv:VR X E w c v):CsR X E w (cs.set k c) (vs.setIfInBounds k v):=by
 refine ⟨by simp [h.1],fun j hj hj'=>?_⟩
 simp at hj hj'
 by_cases hjk:k=j
 ·subst hjk;simpa using hv
 ·rw [List.getElem_set_ne hjk]
  rw [Array.getElem_setIfInBounds_ne (by omega) hjk]
  exact h.2 j hj hj'
theorem CsR.putAt:∀ (ds cs:List AV) (us:List Value) (vs:Array Value) (off k:Nat),CsR X E w cs vs→us.length=ds.length→(∀ j (hj:j<ds.length) (hj':j<us.length),VR X E w ds[j] us[j]) →
  CsR X E w (AM.putAt cs (off+k) ds) ((us.zipIdx k).foldl (fun a (p:Value×Nat)=>a.setIfInBounds (off+p.2) p.1) vs)
 | [],cs,us,vs,off,k,h,hl,hv=>by
  have:us=[]:=List.eq_nil_of_length_eq_zero (by simpa using hl)
  subst this
  exact h
 | d::ds,cs,[],vs,off,k,h,hl,hv=>by simp at hl
 | d::ds,cs,u::us,vs,off,k,h,hl,hv=>by
  simp at hl
  simp only [AM.putAt,List.zipIdx_cons,List.foldl_cons]
  exact CsR.putAt ds _ us _ off (k+1) (h.set (off+k) (hv 0 (by simp) (by simp))) hl (fun j hj hj'=>hv (j+1) (by simpa using hj) (by simpa using hj'))
def cParts (place:Nat→Option (Nat×Nat)):List (Nat×Operand)→Option (List (Nat×Nat×Opd))
 | []=>some []
 | (i,x)::ps=>match place i,cOpd x,cParts place ps with
  | some (off,size),some x',some ps'=>some ((off,size,x')::ps')
  | _,_,_=>none
theorem fill_sound {place:Nat→Option (Nat×Nat)} (hρ:OR X E w ρ ρc):∀ (ps:List (Nat×Operand)) (ps':List (Nat×Nat×Opd)) (cs:List AV) (vs:Array Value) (cs':List AV),cParts place ps=some ps'→CsR X E w cs vs →
  bldParts ρ cs ps'=some cs'→∃ vs',Instr.fill place vs (ps.map fun p=>(p.1,ρc p.2))=some vs'∧CsR X E w cs' vs'
 | [],ps',cs,vs,cs',hp,h,hb=>by
  simp [cParts] at hp
  subst hp
  simp [bldParts] at hb
  subst hb
  exact ⟨vs,rfl,h⟩
 | (i,x)::ps,ps',cs,vs,cs',hp,h,hb=>by
  simp only [cParts] at hp
  split at hp
  ·rename_i off size x' ps'' h1 h2 h3
   injection hp with hp
   subst hp
   simp only [bldParts] at hb
   split at hb
   ·rename_i ds hds
    split at hb
    ·rename_i hl
     obtain ⟨k1,k2⟩:=cells_sound (hρ.rel x x' h2) hds
     have hput:CsR X E w (AM.putAt cs off ds) ((ρc x).cells.zipIdx.foldl (fun a (p:Value×Nat)=>a.setIfInBounds (off+p.2) p.1) vs):=by
      have:=CsR.putAt ds cs (ρc x).cells.toList vs off 0 h (by simpa using k1) (fun j hj hj'=>by have:=k2 j hj (by simpa using hj');rwa [Array.getElem_toList])
      rw [←Array.foldl_toList]
      simpa using this
     obtain ⟨vs',r1,r2⟩:=fill_sound hρ ps ps'' _ _ cs' h3 hput hb
     refine ⟨vs',?_,r2⟩
     simp only [List.map_cons,Instr.fill,h1]
     rw [if_neg (by have:=h.1;simp;omega)]
     exact r1
    ·cases hb
   ·cases hb
  ·cases hp
theorem S_build {t:TypeId} {parts:Array (Nat×Operand)} {i:TypeInfo} {z:Value} {zero:List AV} {place:Nat→Option (Nat×Nat)} {ps':List (Nat×Nat×Opd)} {av:AV} (ho:o.op=.build t parts) (hi:P.info? t=some i) (hz:i.zero=some z) (hc:c2cells z.cells.toList=some zero)
  (hpl:(∃ fs pl,P.underlying t=some (.struct fs)∧fs.toList.mapM (fun f=>(P.info? f.type).map fun i=>(f.offset,i.size))=some pl∧place=(pl.toArray[·]?)) ∨
   ∃ n e ie,P.underlying t=some (.array n e)∧P.info? e=some ie∧place=fun k=>some (k*ie.size,ie.size))
  (hp:cParts place parts.toList=some ps') (hav:aop (.build zero ps') ρ H=some (av,H)) (hρ:OR X E w ρ ρc) (hr:HR X E w H):Res P X E w o ρc av H:=by
 unfold aop at hav
 simp only at hav
 split at hav
 ·rename_i cs hb
  simp at hav
  subst hav
  obtain ⟨k1,k2⟩:=c2cells_sound (X:=X) (E:=E) (w:=w) hc
  have h0:CsR X E w zero z.cells:=⟨by simpa using k1.symm,fun j hj hj'=>by have:=k2 j hj (by simpa using hj');rwa [Array.getElem_toList] at this⟩
  obtain ⟨vs,r1,r2⟩:=fill_sound hρ _ _ _ _ _ hp h0 hb
  refine .pure hr (v:=.agg vs) ?_ (.agg _ _ r2.1 r2.2)
  have hbt:P.built t (parts.map fun p=>(p.1,ρc p.2)).toList=some vs:=by
   unfold Program.built
   rcases hpl with ⟨fs,pl,h1,h2,rfl⟩|⟨n,e,ie,h1,h2,rfl⟩
   ·simp only [hi,h1,hz,h2]
    simpa using r1
   ·simp only [hi,h1,hz,h2]
    simpa using r1
  have hrun:=run_build w t _ _ hbt
  simp only [execOp,ho,Sem.run_bind,hrun,Result.andThen_ok,Sem.run_pure]
 ·cases hav
theorem flat_len {α:Type}:∀ {es:List (List α)} {sz:Nat},(∀ e∈es,e.length=sz)→es.flatten.length=es.length*sz
 | [],sz,h=>by simp
 | e::es,sz,h=>by
  have ih:=flat_len (es:=es) (sz:=sz) (fun x hx=>h x (by simp [hx]))
  simp only [List.flatten_cons,List.length_append,List.length_cons,h e (by simp),ih]
  rw [Nat.add_mul];omega
theorem flat_get {α:Type}:∀ {es:List (List α)} {sz:Nat},(∀ e∈es,e.length=sz)→∀ (i j:Nat) (hi:i<es.length),j<sz→es.flatten[i*sz+j]?=(es[i])[j]?
 | [],sz,h,i,j,hi,hj=>by simp at hi
 | e::es,sz,h,0,j,hi,hj=>by
  simp only [List.flatten_cons,Nat.zero_mul,Nat.zero_add,List.getElem_cons_zero]
  rw [List.getElem?_append_left (by rw [h e (by simp)];exact hj)]
 | e::es,sz,h,i+1,j,hi,hj=>by
  simp only [List.flatten_cons,List.getElem_cons_succ]
  have he:=h e (by simp)
  rw [List.getElem?_append_right (by rw [he,Nat.add_mul];omega),he]
  have:(i+1)*sz+j - sz=i*sz+j:=by rw [Nat.add_mul];omega
  rw [this]
  exact flat_get (fun x hx=>h x (by simp [hx])) i j (by simpa using hi) hj
theorem putAt_app:∀ (ds a b:List AV) (o:Nat),o+ds.length≤a.length→putAt (a++b) o ds=putAt a o ds++b
 | [],a,b,o,h=>rfl
 | d::ds,a,b,o,h=>by
  simp at h
  simp only [putAt]
  rw [List.set_append_left _ _ (by omega),putAt_app ds _ b (o+1) (by simp;omega)]
theorem putAt_app_right:∀ (ds a b:List AV) (o:Nat),a.length≤o→putAt (a++b) o ds=a++putAt b (o - a.length) ds
 | [],a,b,o,h=>rfl
 | d::ds,a,b,o,h=>by
  simp only [putAt]
  rw [List.set_append_right _ _ h,putAt_app_right ds a _ (o+1) (by omega)]
  congr 2
  omega
theorem putAt_all:∀ (ds a:List AV),ds.length=a.length→putAt a 0 ds=ds:=by
 have key:∀ (ds a p:List AV),ds.length=a.length→putAt (p++a) p.length ds=p++ds:=by
  intro ds
  induction ds with
  | nil=>intro a p h;have:a=[]:=List.eq_nil_of_length_eq_zero (by simpa using h.symm);subst this;rfl
  | cons d ds ih =>
   intro a p h
   cases a with
   | nil=>simp at h
   | cons x a =>
    simp only [putAt]
    rw [List.set_append_right _ _ (Nat.le_refl _)]
    simp only [Nat.sub_self,List.set_cons_zero]
    have:=ih a (p++[d]) (by simpa using h)
    simpa using this
 intro ds a h
 simpa using key ds a [] h
theorem flat_put:∀ {es:List (List AV)} {sz:Nat},(∀ e∈es,e.length=sz)→∀ (i:Nat) (vs:List AV),i<es.length→vs.length=sz→putAt es.flatten (i*sz) vs=(es.set i vs).flatten
 | [],sz,h,i,vs,hi,hv=>by simp at hi
 | e::es,sz,h,0,vs,hi,hv=>by
  have he:=h e (by simp)
  simp only [List.flatten_cons,Nat.zero_mul,List.set_cons_zero]
  rw [putAt_app _ _ _ _ (by omega),putAt_all _ _ (by omega)]
 | e::es,sz,h,i+1,vs,hi,hv=>by
  have he:=h e (by simp)
  simp only [List.flatten_cons,List.set_cons_succ]
  rw [putAt_app_right _ _ _ _ (by rw [he,Nat.add_mul];omega)]
  have:(i+1)*sz - e.length=i*sz:=by rw [he,Nat.add_mul];omega
  rw [this,flat_put (fun x hx=>h x (by simp [hx])) i vs (by simpa using hi) hv]
theorem rows_mk {clip:Bool} {sz:Nat} {es:List (List AV)} {a:Option Addr} {c B o':Nat} {f:Nat→Value} (hn:es.length≤maxA) (hc:es.length≤c) (hclip:clip=true→c=es.length)
  (hsz:∀ e∈es,e.length=sz) (ha:0<es.length→a=some ⟨B,o',none⟩) (hL:0<es.length→0<sz→Lone X E B)
  (hcell:∀ k,k<es.length*sz→w.cell? ⟨B,o'+k,none⟩=some (f k)) (hv:∀ k (hk:k<es.flatten.length),VR X E w es.flatten[k] (f k)) :
  VR X E w (.rows clip sz es) (.slice a es.length c):=by
 refine .rows clip sz es a c ⟨B,o',none⟩ (fun i j=>f (i*sz+j)) hn hc hclip (fun i hi=>hsz _ (List.getElem_mem _)) ha hL (fun i j hi hj=>?_) (fun i hi j hj=>?_)
 ·refine hcell _ ?_
  have:i*sz+sz≤es.length*sz:=by
   have:(i+1)*sz≤es.length*sz:=Nat.mul_le_mul_right _ (by omega)
   rw [Nat.add_mul] at this
   omega
  omega
 ·have hl:=hsz _ (List.getElem_mem hi)
  have hk:i*sz+j<es.flatten.length:=by
   rw [flat_len hsz]
   have:(i+1)*sz≤es.length*sz:=Nat.mul_le_mul_right _ (by omega)
   rw [Nat.add_mul] at this
   omega
  have e:=flat_get hsz i j hi (by omega)
  rw [List.getElem?_eq_getElem hk,List.getElem?_eq_getElem hj] at e
  injection e with e
  rw [←e]
  exact hv _ hk
def cPartsS:List (Nat×Operand)→Option (List (Nat×Opd))
 | []=>some []
 | (i,x)::ps=>match cOpd x,cPartsS ps with
  | some x',some ps'=>some ((i,x')::ps')
  | _,_=>none
theorem bsl_sound {sz:Nat} (hρ:OR X E w ρ ρc):∀ (ps:List (Nat×Operand)) (ps':List (Nat×Opd)) (es:List (List AV)) (vs:Array Value) (es':List (List AV)),cPartsS ps=some ps'→(∀ e∈es,e.length=sz)→CsR X E w es.flatten vs →
  bslParts ρ sz es ps'=some es'→∃ vs',Instr.fill (fun i=>some (i*sz,sz)) vs (ps.map fun p=>(p.1,ρc p.2))=some vs'∧CsR X E w es'.flatten vs'∧(∀ e∈es',e.length=sz)∧es'.length=es.length
 | [],ps',es,vs,es',hp,hs,h,hb=>by
  simp [cPartsS] at hp
  subst hp
  simp [bslParts] at hb
  subst hb
  exact ⟨vs,rfl,h,hs,rfl⟩
 | (i,x)::ps,ps',es,vs,es',hp,hs,h,hb=>by
  simp only [cPartsS] at hp
  split at hp
  ·rename_i x' ps'' h2 h3
   injection hp with hp
   subst hp
   simp only [bslParts] at hb
   split at hb
   ·rename_i ds hds
    split at hb
    ·rename_i hl
     obtain ⟨k1,k2⟩:=cells_sound (hρ.rel x x' h2) hds
     have hput:CsR X E w (es.set i ds).flatten ((ρc x).cells.zipIdx.foldl (fun a (p:Value×Nat)=>a.setIfInBounds (i*sz+p.2) p.1) vs):=by
      have:=CsR.putAt ds es.flatten (ρc x).cells.toList vs (i*sz) 0 h (by simpa using k1) (fun j hj hj'=>by have:=k2 j hj (by simpa using hj');rwa [Array.getElem_toList])
      rw [←Array.foldl_toList,←flat_put hs i ds hl.2 hl.1]
      simpa using this
     obtain ⟨vs',r1,r2,r3,r4⟩:=bsl_sound hρ ps ps'' _ _ es' h3 (fun e he=>by rcases List.mem_or_eq_of_mem_set he with he|rfl;exact hs e he;exact hl.1) hput hb
     refine ⟨vs',?_,r2,r3,by simpa using r4⟩
     simp only [List.map_cons,Instr.fill]
     rw [if_neg (by
      have e1:=h.1
      rw [flat_len hs] at e1
      have:(i+1)*sz≤es.length*sz:=Nat.mul_le_mul_right _ (by omega)
      rw [Nat.add_mul] at this
      simp;omega)]
     exact r1
    ·cases hb
   ·cases hb
  ·cases hp
theorem zeros_CsR {sz len:Nat} {zero:List AV} {z:Array Value} (h:CsR X E w zero z) (hs:zero.length=sz) (h0:0<sz) :
  CsR X E w (List.replicate len zero).flatten ((Array.range (len*sz)).map (z[·%z.size]!)):=by
 have hl:∀ e∈List.replicate len zero,e.length=sz:=fun e he=>by rw [(List.mem_replicate.1 he).2];exact hs
 refine ⟨by rw [flat_len hl];simp,fun k hk hk'=>?_⟩
 have hkl:k<len*sz:=by rw [flat_len hl] at hk;simpa using hk
 have hz:z.size=sz:=by rw [h.1,hs]
 have hd:k/sz<(List.replicate len zero).length:=by
  simp
  exact Nat.div_lt_of_lt_mul (by rw [Nat.mul_comm];exact hkl)
 have hm:k%sz<sz:=Nat.mod_lt _ h0
 have e:=flat_get hl (k/sz) (k%sz) hd hm
 have ek:k/sz*sz+k%sz=k:=Nat.div_add_mod' k sz
 rw [ek,List.getElem?_eq_getElem hk] at e
 simp only [List.getElem_replicate] at e
 rw [List.getElem?_eq_getElem (by omega)] at e
 injection e with e
 rw [e]
 have hmz:k%z.size<z.size:=by rw [hz];exact hm
 simp only [Array.getElem_map,Array.getElem_range]
 rw [getElem!_pos z _ hmz]
 have:=h.2 (k%sz) (by omega) (by omega)
 simp only [hz]
 exact this
theorem S_bslice {t el:TypeId} {parts:Array (Nat×Operand)} {len:Nat} {i:TypeInfo} {z:Value} {zero:List AV} {ps':List (Nat×Opd)} {av:AV} (ho:o.op=.buildSlice t len parts) (hd:P.underlying t=some (.slice el)) (hi:P.info? el=some i) (hz:i.zero=some z)
  (hc:c2cells z.cells.toList=some zero) (hzl:zero.length=i.size) (h0:0<i.size) (hs:len*i.size≤2^24) (hp:cPartsS parts.toList=some ps') (hpe:len=0→parts=#[])
  (hav:aop (.bslice i.size len zero ps') ρ H=some (av,H)) (hρ:OR X E w ρ ρc) (hr:HR X E w H):Res P X E w o ρc av H:=by
 unfold aop at hav
 simp only at hav
 split at hav
 ·rename_i es hb
  simp at hav
  subst hav
  obtain ⟨k1,k2⟩:=c2cells_sound (X:=X) (E:=E) (w:=w) hc
  have hz0:CsR X E w zero z.cells:=⟨by simpa using k1.symm,fun j hj hj'=>by have:=k2 j hj (by simpa using hj');rwa [Array.getElem_toList] at this⟩
  have hl0:∀ e∈List.replicate len zero,e.length=i.size:=fun e he=>by rw [(List.mem_replicate.1 he).2];exact hzl
  obtain ⟨vs,r1,r2,r3,r4⟩:=bsl_sound hρ _ _ _ _ _ hp hl0 (zeros_CsR hz0 hzl h0) hb
  simp at r4
  have hlen:len≤2^24:=Nat.le_trans (Nat.le_mul_of_pos_right _ h0) hs
  have hrun:(Instr.buildSlice t len (parts.map fun p=>(p.1,ρc p.2))).run P w=.ok (.slice (some ⟨w.heap.size,0,none⟩) len len) (w.alloc (.cells vs el)):=by
   by_cases hl:len*i.size=0
   ·have:len=0:=by rcases Nat.mul_eq_zero.1 hl with h|h<;>omega
    have hpe':=hpe this
    subst this
    subst hpe'
    simp [Instr.fill,Array.range_zero'] at r1
    subst r1
    simp [Instr.buildSlice,run_underlying hd,sizeOf,typeInfo,hi,newRow,Instr.fill,Array.range_zero']
   ·have hsmall:¬ len*i.size>2^24:=by omega
    have r1':Instr.fill (fun i_1=>some (i_1*i.size,i.size)) ((Array.range (len*i.size)).map (z.cells[·%z.cells.size]!)) (parts.map fun p=>(p.1,ρc p.2)).toList=some vs:=by simpa using r1
    simp only [Instr.buildSlice,Sem.run_bind,run_underlying hd,Result.andThen_ok,sizeOf,typeInfo,run_program,hi,Sem.run_pure,Sem.run_map,zeroValue,hz,newRow,run_newObj,hl,hsmall,if_false,r1',Sem.run_ite]
    rfl
  refine ⟨E,_,_,.slice (some ⟨w.heap.size,0,none⟩) len len,?_,.inl rfl,?_,hr.more (.cells vs el),Ev.more E w _⟩
  ·simp only [execOp,ho,Sem.run_bind,hrun,Result.andThen_ok,Sem.run_pure]
  ·have e:len=es.length:=r4.symm
   subst e
   refine rows_mk (B:=w.heap.size) (o':=0) (f:=fun k=>vs.getD k undef) (by unfold maxA;omega) (Nat.le_refl _) (fun _=>rfl) r3 (fun _=>rfl) (fun _ _=>⟨fun hX=>by have:=hr.bound _ hX;omega,fun hO=>by have:=hr.own_lt hO;omega⟩) (fun k hk=>?_) (fun k hk=>?_)
   ·have:k<vs.size:=by rw [r2.1,flat_len r3];exact hk
    simp [this]
   ·have:k<vs.size:=by rw [r2.1];exact hk
    simp only [Array.getD,this,dif_pos]
    exact (r2.2 k hk this).mono (Ev.more E w _)
 ·cases hav
theorem S_bsloc {t el:TypeId} {parts:Array (Nat×Operand)} {len:Nat} {i:TypeInfo} {z:Value} {zero:List AV} {ps':List (Nat×Opd)} {av:AV} {H':AHeap} (ho:o.op=.buildSlice t len parts) (hd:P.underlying t=some (.slice el)) (hi:P.info? el=some i) (hz:i.zero=some z)
  (hc:c2cells z.cells.toList=some zero) (hzl:zero.length=i.size) (h0:0<i.size) (hs:len*i.size≤2^24) (hp:cPartsS parts.toList=some ps') (hpe:len=0→parts=#[])
  (hav:aop (.bsloc i.size len zero ps') ρ H=some (av,H')) (hρ:OR X E w ρ ρc) (hr:HR X E w H):Res P X E w o ρc av H':=by
 unfold aop at hav
 simp only at hav
 split at hav
 ·rename_i es hb
  simp at hav
  obtain ⟨rfl,rfl⟩:=hav
  obtain ⟨k1,k2⟩:=c2cells_sound (X:=X) (E:=E) (w:=w) hc
  have hz0:CsR X E w zero z.cells:=⟨by simpa using k1.symm,fun j hj hj'=>by have:=k2 j hj (by simpa using hj');rwa [Array.getElem_toList] at this⟩
  have hl0:∀ e∈List.replicate len zero,e.length=i.size:=fun e he=>by rw [(List.mem_replicate.1 he).2];exact hzl
  obtain ⟨vs,r1,r2,r3,r4⟩:=bsl_sound hρ _ _ _ _ _ hp hl0 (zeros_CsR hz0 hzl h0) hb
  simp at r4
  have hlen:len≤2^24:=Nat.le_trans (Nat.le_mul_of_pos_right _ h0) hs
  have hrun:(Instr.buildSlice t len (parts.map fun p=>(p.1,ρc p.2))).run P w=.ok (.slice (some ⟨w.heap.size,0,none⟩) len len) (w.alloc (.cells vs el)):=by
   by_cases hl:len*i.size=0
   ·have:len=0:=by rcases Nat.mul_eq_zero.1 hl with h|h<;>omega
    have hpe':=hpe this
    subst this
    subst hpe'
    simp [Instr.fill,Array.range_zero'] at r1
    subst r1
    simp [Instr.buildSlice,run_underlying hd,sizeOf,typeInfo,hi,newRow,Instr.fill,Array.range_zero']
   ·have hsmall:¬ len*i.size>2^24:=by omega
    have r1':Instr.fill (fun i_1=>some (i_1*i.size,i.size)) ((Array.range (len*i.size)).map (z.cells[·%z.cells.size]!)) (parts.map fun p=>(p.1,ρc p.2)).toList=some vs:=by simpa using r1
    simp only [Instr.buildSlice,Sem.run_bind,run_underlying hd,Result.andThen_ok,sizeOf,typeInfo,run_program,hi,Sem.run_pure,Sem.run_map,zeroValue,hz,newRow,run_newObj,hl,hsmall,if_false,r1',Sem.run_ite]
    rfl
  have hfl:=flat_len r3
  obtain ⟨hev,hr'⟩:=hr.newCells es.flatten vs el (by rw [r2.1];exact Nat.le_refl _) r2.2
  refine ⟨_,_,_,.slice (some ⟨w.heap.size,0,none⟩) len len,?_,.inl rfl,?_,hr',hev⟩
  ·simp only [execOp,ho,Sem.run_bind,hrun,Result.andThen_ok,Sem.run_pure]
  ·refine .loc _ _ _ _ _ _ ⟨0,some w.heap.size,0,vs.size,true⟩ _ (by rw [←hr.len];simp) rfl (Nat.le_refl _) (fun _=>⟨_,_,rfl,by unfold maxA;omega,Nat.le_refl _,(fun h=>by cases h),fun _=>⟨_,rfl,rfl,?_⟩⟩)
   show 0+0+len*i.size≤vs.size
   rw [r2.1,hfl,r4]
   omega
 ·cases hav
end Go.AM
