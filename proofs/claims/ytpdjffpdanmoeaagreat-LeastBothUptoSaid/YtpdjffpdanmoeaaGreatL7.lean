/- The abstract machine, part 45: the library's sort by a function, and its filter, of ints, where the function reads what it captured. -/
import Derived.Test.YtpdjffpdanmoeaaGreatAm4
import Derived.Shelf.SlSortCmp.Whole1
import Derived.Shelf.SlicesE.DeleteFunc
import Derived.Shelf.Sort.Plain
import Derived.Ground.Names2Prog
import Derived.Shelf.Slices.CompactI
import Derived.Shelf.Slices.SearchI
import Derived.Shelf.Slices.Empties
import Derived.Ground.SlgfProg
import Derived.Ground.SlsfProg
import Derived.Test.YtpdjffpdanmoeaaGreatProg
import Derived.WalkKit
import Derived.Test.YtpdjffpdanmoeaaGreatL6
import Derived.KernelRfl
namespace Go.AM
open Go.Sort Go.Proofs
set_option linter.unusedVariables false
set_option linter.unusedSimpArgs false
variable {P:Program} {X:Nat→Prop} {E:Env} {w:World} {H:AHeap}
theorem VR.keep {X:Nat→Prop} {E:Env} {w w':World} (hc:∀ a v,w.cell? a=some v→w'.cell? a=some v) {av:AV} {v:Value} (hv:VR X E w av v):VR X E w' av v:=by
 induction hv with
 | any v=>exact .any v
 | bool b=>exact .bool b
 | int k n=>exact .int k n
 | str s hs=>exact .str s hs
 | nilFunc=>exact .nilFunc
 | nilIface=>exact .nilIface
 | nilPtr=>exact .nilPtr
 | nilMap=>exact .nilMap
 | nilS=>exact .nilS
 | rows clip sz es a c ad f hn hc' hclip hsz ha hL hcell _ ih=>exact .rows clip sz es a c ad f hn hc' hclip hsz ha hL (fun i j hi hj=>hc _ _ (hcell i j hi hj)) ih
 | loc i g off len sz clip e v he ho hg hl=>exact .loc i g off len sz clip e v he ho hg hl
 | ptr i g off e v he ho hg hl=>exact .ptr i g off e v he ho hg hl
 | rptr cs ad f hL hcell _ ih=>exact .rptr cs ad f hL (fun j hj=>hc _ _ (hcell j hj)) ih
 | mapr i g e v he ho hg hl=>exact .mapr i g e v he ho hg hl
 | fn f fs cs fs' cs' h1 h2 _ _ ih1 ih2=>exact .fn f fs cs fs' cs' h1 h2 ih1 ih2
 | iface t v u _ ih=>exact .iface t v u ih
 | agg cs vs h1 _ ih=>exact .agg cs vs h1 ih
 | tuple cs vs h1 _ ih=>exact .tuple cs vs h1 ih
theorem HR.nil (hr:HR X E w H):HR X [] w []:=⟨rfl,fun i j ei ej B h=>by simp at h,fun i e B h=>by simp at h,fun i e b h=>by simp at h,hr.bound⟩
theorem PF.growsX {f:FuncId} {bs:List AV} {n:Int} {vals:Array Value} (h:PF P f bs (.int .i64 n)) (hr:HR X [] w []) (ha:ArgsR X [] w bs vals) :
  Calls P f vals w fun e w'=>e=.returned (.int .i64 n)∧∃ q os',w'=grow (w.drewN q) os':=by
 refine (h.2.2.2 X [] w vals hr ha).mono ?_
 rintro e w' ⟨v,rv,E',H',rfl,rfl,k1,k2,k3⟩
 cases k1
 refine ⟨rfl,w'.drawn - w.drawn,w'.heap.extract w.heap.size w'.heap.size,?_⟩
 have hh:w'.heap=w.heap++w'.heap.extract w.heap.size w'.heap.size:=by
  apply Array.ext_getElem?
  intro i
  have hs:=k3.size
  rcases Nat.lt_or_ge i w.heap.size with hi|hi
  ·rw [Array.getElem?_append_left hi]
   exact k3.keep i hi (fun ⟨e,he,_⟩=>by cases he)
  ·rw [Array.getElem?_append_right hi,Array.getElem?_extract]
   have e1:w.heap.size+(i - w.heap.size)=i:=by omega
   rw [e1]
   by_cases hlt:i<w'.heap.size
   ·rw [if_pos (by omega)]
   ·rw [if_neg (by omega),Array.getElem?_eq_none (by omega)]
 have hd:w.drawn+(w'.drawn - w.drawn)=w'.drawn:=by have h1:w.drawn≤w'.drawn:=k3.draw;omega
 have a1:=k3.os
 have a2:=k3.tape
 have a3:=k3.output
 obtain ⟨hp,tp,dr,o,out⟩:=w'
 obtain ⟨hp0,tp0,dr0,o0,out0⟩:=w
 simp only at hh hd a1 a2 a3
 subst a1 a2 a3
 simp only [grow,World.drewN]
 rw [←hh,hd]
theorem fn_inv {gf:Fn} {c0:AV} {v:Value} (h:VR X E w (.fn gf [] [c0]) v):∃ u,v=.func gf #[] #[u]∧VR X E w c0 u:=by
 cases h with
 | fn _ _ _ fs' cs' q1 q2 q3 q4 =>
  have h1:fs'=#[]:=Array.size_eq_zero_iff.1 (by simpa using q1)
  subst fs'
  match cs',q2 with
  | ⟨[u]⟩,_=>exact ⟨u,rfl,q4 0 (by simp) (by simp)⟩
theorem two_vals {vals:Array Value} {a b:Value} (hs:vals.size=2) (h0:vals[0]=a) (h1:vals[1]=b):vals=#[a,b]:=by
 apply Array.ext
 ·simpa using hs
 ·intro i q1 q2
  have h3:i<2:=by simpa using q2
  match i,h3 with
  | 0,_=>simpa using h0
  | 1,_=>simpa using h1
theorem HR.capt (hr:HR X E w H) {k g:Nat} {l ys:List Int} (h:H[k]?=some (.cells g (i64s l))) {e:Ent} (he:E[k]?=some e) {B:Nat} (hB:e.blk=some B) (hl:ys.length=l.length) (n:Nat) (os:Array Obj) {c0 b0:AV} {u:Value} (hu:VR X E w c0 u) (m nn:Nat)
  (hfz:leP m (frz true (H.set k (.cells g (i64s ys))) nn c0) b0):HR X [] (rowW w B e.base ys n os) []∧VR X [] (rowW w B e.base ys n os) b0 u:=by
 obtain ⟨hev,hr'⟩:=hr.row' h he hB hl n os
 exact ⟨hr'.nil,((hu.mono hev).frz hr' true nn).le m hfz⟩
theorem sortI_FT {f gf:FuncId} {cf:Int→Int→Int} {b0 c0:AV} (hcl:Callable P f) (hcmp:∀ x y,PF P gf [.int .i64 x,.int .i64 y,b0] (.int .i64 (cf x y)))
  (hC:∀ (cb:Array Value) (blk off cap:Nat) (d:Array Int) (w:World),CmpLays1 P gf cb (Value.int .i64) cf blk off d.size w→Holds (Value.int .i64) w blk off d→blk<w.heap.size→d.size<4611686018427387904 →
   Calls P f #[.slice (some ⟨blk,off,none⟩) d.size cap,.func (.func gf) #[] cb] w fun e w'=>e=.returned (.tuple #[])∧∃ d' n os,PermIn 0 d.size d d'∧SortedIn (ltOf cf) 0 d.size d'∧w'=sortWorld (Value.int .i64) w blk off n d' os)
  {k g:Nat} {c:Bool} {l:List Int} (h0:0<l.length) (h:H[k]?=some (.cells g (i64s l))) (m nn:Nat) (hfz:∀ ys:List Int,ys.length=l.length→leP m (frz true (H.set k (.cells g (i64s ys))) nn c0) b0) :
  FT P f [.loc k g 0 l.length 1 c,.fn (.func gf) [] [c0]] H fun rv H'=>rv=.tuple []∧∃ l':List Int,l'.Perm l∧(∀ i j:Nat,i<j→j<l'.length→ltOf cf l'[j]! l'[i]! = false)∧H'=H.set k (.cells g (i64s l')):=by
 refine ⟨hcl,fun X E w vals hr ha=>?_⟩
 have hv:=ha.2 0 (by simp) (by rw [ha.1];simp)
 have hv1:=ha.2 1 (by simp) (by rw [ha.1];simp)
 simp only [List.getElem_cons_zero,List.getElem_cons_succ] at hv hv1
 obtain ⟨e,he,hloc⟩:=loc_inv hv
 have hb:=hr.br k e _ he h
 obtain ⟨a,cap,hve,m1,m2,m3,m4⟩:=hloc hb.1.symm
 obtain ⟨B,hB,rfl,hroom⟩:=m4 (by omega)
 obtain ⟨u,hvu,hu⟩:=fn_inv hv1
 have hvals:=two_vals (by rw [ha.1];simp) hve hvu
 rw [hvals]
 have hH:=hr.holds h he hB
 refine (hC #[u] B (e.base+0) cap l.toArray w ?_ (by simpa using hH) (hr.own k e B he hb.2.1 hB).2 (by unfold maxA at m1;simp;omega)).mono ?_
 ·intro q os dk hs x y
  obtain ⟨dl,rfl⟩:∃ dl:List Int,dk=dl.toArray:=⟨dk.toList,by simp⟩
  obtain ⟨r1,r2⟩:=hr.capt h he hB (ys:=dl) (by simpa using hs) q os hu m nn (hfz dl (by simpa using hs))
  refine PF.growsX (X:=X) (hcmp x y) r1 ⟨rfl,fun j hj hj'=>?_⟩
  match j,hj with
  | 0,_=>exact .int .i64 x
  | 1,_=>exact .int .i64 y
  | 2,_=>exact r2
 rintro e' w' ⟨rfl,d',n,os,⟨p1,p2,p3⟩,hsort,rfl⟩
 obtain ⟨l',rfl⟩:∃ l':List Int,d'=l'.toArray:=⟨d'.toList,by simp⟩
 have hlen:l'.length=l.length:=by simpa using p1
 obtain ⟨k1,k2⟩:=hr.row' h he hB (ys:=l') hlen n os
 refine ⟨_,.tuple [],E,_,rfl,⟨rfl,l',?_,fun i j hij hj=>?_,rfl⟩,undefR,k2,k1⟩
 ·have e1:∀ m:List Int,m.length=l.length→(m.toArray.extract 0 l.toArray.size).toList=m:=by
   intro m hm
   rw [show l.toArray.size=m.toArray.size from by simp [hm]]
   simp
  rw [e1 l' hlen,e1 l rfl] at p3
  exact p3
 ·have:=hsort i j (Nat.zero_le _) hij (by simpa [hlen] using hj)
  simpa using this
theorem delI_FT {f gf:FuncId} {p:Int→Bool} {b0 c0:AV} (hcl:Callable P f) (hp:∀ (X:Nat→Prop) (W:World) (u:Value),VR X [] W b0 u→∀ x,FnGives P gf #[u] #[.int .i64 x] (.bool (p x)) W)
  (hC:∀ (lb:Array Value) (blk off cap:Nat) (d:Array Int) (w:World),PredAt P gf lb (Value.int .i64) p w→PredOver P gf lb (Value.int .i64) p blk off d.size w→Holds (Value.int .i64) w blk off d→d.size≤9223372036854775807→d.size≤cap →
   Calls P f #[.slice (some ⟨blk,off,none⟩) d.size cap,.func (.func gf) #[] lb] w fun e w'=>e=.returned (.slice (some ⟨blk,off,none⟩) (d.toList.filter fun x=>!p x).length cap)∧∃ q,w'=putRow (Value.int .i64) (Sort.ahead w q) blk off ((d.toList.filter fun x=>!p x)++List.replicate (d.size - (d.toList.filter fun x=>!p x).length) 0).toArray)
  {k g:Nat} {c:Bool} {l:List Int} (h0:0<l.length) (h:H[k]?=some (.cells g (i64s l))) (m nn:Nat) (hfz:∀ ys:List Int,ys.length=l.length→leP m (frz true (H.set k (.cells g (i64s ys))) nn c0) b0) :
  FT P f [.loc k g 0 l.length 1 c,.fn (.func gf) [] [c0]] H fun rv H'=>rv=.loc k g 0 (l.filter fun x=>!p x).length 1 false∧∃ zs:List Int,zs.length=l.length - (l.filter fun x=>!p x).length∧H'=H.set k (.cells g (i64s ((l.filter fun x=>!p x)++zs))):=by
 refine ⟨hcl,fun X E w vals hr ha=>?_⟩
 have hv:=ha.2 0 (by simp) (by rw [ha.1];simp)
 have hv1:=ha.2 1 (by simp) (by rw [ha.1];simp)
 simp only [List.getElem_cons_zero,List.getElem_cons_succ] at hv hv1
 obtain ⟨e,he,hloc⟩:=loc_inv hv
 have hb:=hr.br k e _ he h
 obtain ⟨a,cap,hve,m1,m2,m3,m4⟩:=hloc hb.1.symm
 obtain ⟨B,hB,rfl,hroom⟩:=m4 (by omega)
 obtain ⟨u,hvu,hu⟩:=fn_inv hv1
 have hvals:=two_vals (by rw [ha.1];simp) hve hvu
 rw [hvals]
 have hH:=hr.holds h he hB
 have hset:H.set k (.cells g (i64s l))=H:=by
  have hk:=lt_of_get h
  rw [List.getElem?_eq_getElem hk] at h
  injection h with h
  rw [←h]
  exact List.set_getElem_self hk
 have hu0:VR X [] w b0 u:=by
  have:=hfz l rfl
  rw [hset] at this
  exact (hu.frz hr true nn).le m this
 have hfl:(l.filter fun x=>!p x).length≤l.length:=List.length_filter_le _ _
 refine (hC #[u] B (e.base+0) cap l.toArray w (fun W x hW=>?_) (fun q os dk x hs=>?_) (by simpa using hH) (by unfold maxA at m1;simp;omega) (by simpa using m2)).mono ?_
 ·refine hp X W u (hu0.keep fun a v hc=>?_) x
  rw [←hc]
  exact hW.cell (block_lt hc)
 ·obtain ⟨dl,rfl⟩:∃ dl:List Int,dk=dl.toArray:=⟨dk.toList,by simp⟩
  exact hp X _ u (hr.capt h he hB (ys:=dl) (by simpa using hs) q os hu m nn (hfz dl (by simpa using hs))).2 x
 rintro e' w' ⟨rfl,q,rfl⟩
 simp only [List.size_toArray]
 obtain ⟨k1,k2⟩:=hr.row' h he hB (ys:=(l.filter fun x=>!p x)++List.replicate (l.length - (l.filter fun x=>!p x).length) 0) (by rw [List.length_append,List.length_replicate];omega) q #[]
 have eW:rowW w B e.base ((l.filter fun x=>!p x)++List.replicate (l.length - (l.filter fun x=>!p x).length) 0) q #[]=putRow (Value.int .i64) (Sort.ahead w q) B e.base ((l.filter fun x=>!p x)++List.replicate (l.length - (l.filter fun x=>!p x).length) 0).toArray:=by
  unfold rowW
  exact grow_empty _
 rw [eW] at k1 k2
 exact ⟨_,.loc k g 0 (l.filter fun x=>!p x).length 1 false,E,_,rfl,⟨rfl,_,by simp,rfl⟩,.loc _ _ _ _ _ _ e _ he rfl (by have:=hb.1;omega) (fun _=>⟨_,cap,rfl,by omega,by omega,(fun h=>by cases h),fun _=>⟨B,hB,rfl,by omega⟩⟩),k2,k1⟩
end Go.AM
namespace Go.Proofs
open Go.Shelf
def Tryz.lays189_ren:Go.Shelf.Ren:=⟨fun|189=>57|125=>63|257=>91|128=>100|129=>101|294=>121|295=>122|296=>123|297=>124|298=>125|299=>126|216=>66|300=>127|301=>128|328=>143|329=>130|330=>131|331=>144|332=>145|215=>104|343=>150|n=>n,fun|28=>24|3=>3|46=>110|0=>0|51=>147|53=>149|4=>4|183=>141|182=>140|131=>84|5=>5|9=>9|218=>172|222=>176|228=>190|229=>191|n=>n,fun|n=>n⟩
theorem Tryz.lays189:Go.Proofs.Lays.n189 Tryz.prog Tryz.lays189_ren:={
 mixed:=by kernel_rfl
 f125:=Tryz.func63.trans (congrArg some (by kernel_rfl))
 f128:=Tryz.func100.trans (congrArg some (by kernel_rfl))
 f129:=Tryz.func101.trans (congrArg some (by kernel_rfl))
 f189:=Tryz.func57.trans (congrArg some (by kernel_rfl))
 f215:=Tryz.func104.trans (congrArg some (by kernel_rfl))
 f216:=Tryz.func66.trans (congrArg some (by kernel_rfl))
 f257:=Tryz.func91.trans (congrArg some (by kernel_rfl))
 f294:=Tryz.func121.trans (congrArg some (by kernel_rfl))
 f295:=Tryz.func122.trans (congrArg some (by kernel_rfl))
 f296:=Tryz.func123.trans (congrArg some (by kernel_rfl))
 f297:=Tryz.func124.trans (congrArg some (by kernel_rfl))
 f298:=Tryz.func125.trans (congrArg some (by kernel_rfl))
 f299:=Tryz.func126.trans (congrArg some (by kernel_rfl))
 f300:=Tryz.func127.trans (congrArg some (by kernel_rfl))
 f301:=Tryz.func128.trans (congrArg some (by kernel_rfl))
 f328:=Tryz.func143.trans (congrArg some (by kernel_rfl))
 f329:=Tryz.func130.trans (congrArg some (by kernel_rfl))
 f330:=Tryz.func131.trans (congrArg some (by kernel_rfl))
 f331:=Tryz.func144.trans (congrArg some (by kernel_rfl))
 f332:=Tryz.func145.trans (congrArg some (by kernel_rfl))
 f343:=Tryz.func150.trans (congrArg some (by kernel_rfl))
 t0:=Tryz.underlying0
 a0:=Tryz.isAgg0
 z0:=Tryz.sizeOf0
 v0:=Tryz.zeroValue0
 t3:=Tryz.underlying3
 a3:=Tryz.isAgg3
 z3:=Tryz.sizeOf3
 v3:=Tryz.zeroValue3
 t4:=Tryz.underlying4
 a4:=Tryz.isAgg4
 z4:=Tryz.sizeOf4
 v4:=Tryz.zeroValue4
 t5:=Tryz.underlying5
 a5:=Tryz.isAgg5
 z5:=Tryz.sizeOf5
 v5:=Tryz.zeroValue5
 t9:=Tryz.underlying9
 a9:=Tryz.isAgg9
 z9:=Tryz.sizeOf9
 v9:=Tryz.zeroValue9
 t28:=Tryz.underlying24
 a28:=Tryz.isAgg24
 z28:=Tryz.sizeOf24
 v28:=Tryz.zeroValue24
 t46:=Tryz.underlying110
 a46:=Tryz.isAgg110
 z46:=Tryz.sizeOf110
 v46:=Tryz.zeroValue110
 t51:=Tryz.underlying147
 a51:=Tryz.isAgg147
 z51:=Tryz.sizeOf147
 v51:=Tryz.zeroValue147
 t53:=Tryz.underlying149
 a53:=Tryz.isAgg149
 z53:=Tryz.sizeOf149
 v53:=Tryz.zeroValue149
 t131:=Tryz.underlying84
 a131:=Tryz.isAgg84
 z131:=Tryz.sizeOf84
 v131:=Tryz.zeroValue84
 t182:=Tryz.underlying140
 a182:=Tryz.isAgg140
 z182:=Tryz.sizeOf140
 v182:=Tryz.zeroValue140
 t183:=Tryz.underlying141
 a183:=Tryz.isAgg141
 z183:=Tryz.sizeOf141
 v183:=Tryz.zeroValue141
 t218:=Tryz.underlying172
 a218:=Tryz.isAgg172
 z218:=Tryz.sizeOf172
 v218:=Tryz.zeroValue172
 t222:=Tryz.underlying176
 a222:=Tryz.isAgg176
 z222:=Tryz.sizeOf176
 v222:=Tryz.zeroValue176
 t228:=Tryz.underlying190
 a228:=Tryz.isAgg190
 z228:=Tryz.sizeOf190
 v228:=Tryz.zeroValue190
 t229:=Tryz.underlying191
 a229:=Tryz.isAgg191
 z229:=Tryz.sizeOf191
 v229:=Tryz.zeroValue191 }
open Go.Sort Go.RowKit in
theorem Tryz.slices_Sort_int (blk off cap:Nat) (zs:List Int) (w:World) (hH:Holds (Value.int .i64) w blk off zs.toArray) (hblk:blk<w.heap.size) (hsz:zs.length<4611686018427387904) :
  Calls Tryz.prog 57 #[.slice (some ⟨blk,off,none⟩) zs.length cap] w fun e w' =>
   e=.returned (.tuple #[])∧∃ n os,w'=grow (putRow (Value.int .i64) (Sort.ahead w n) blk off (zs.mergeSort fun x y=>decide (x≤y)).toArray) os:=Any.slices_Sort_int Tryz.lays189 blk off cap zs w hH hblk hsz
def Tryz.laysNm220_ren:Go.Shelf.Ren:=⟨fun|20=>58|n=>n,fun|22=>24|3=>3|4=>4|0=>0|n=>n,fun|n=>n⟩
theorem Tryz.laysNm220:Go.Proofs.Lays2.n20 Tryz.prog Tryz.laysNm220_ren:={
 mixed:=by kernel_rfl
 f20:=Tryz.func58.trans (congrArg some (by kernel_rfl))
 t0:=Tryz.underlying0
 a0:=Tryz.isAgg0
 z0:=Tryz.sizeOf0
 v0:=Tryz.zeroValue0
 t3:=Tryz.underlying3
 a3:=Tryz.isAgg3
 z3:=Tryz.sizeOf3
 v3:=Tryz.zeroValue3
 t4:=Tryz.underlying4
 a4:=Tryz.isAgg4
 z4:=Tryz.sizeOf4
 v4:=Tryz.zeroValue4
 t22:=Tryz.underlying24
 a22:=Tryz.isAgg24
 z22:=Tryz.sizeOf24
 v22:=Tryz.zeroValue24
 i3:=by kernel_rfl }
open Go.RowKit Go.Lib Go.Sort in
theorem Tryz.slices_Compact_int (blk off cap:Nat) (zs:List Int) (w:World) (hH:Holds (Value.int .i64) w blk off zs.toArray) (hsz:zs.length≤9223372036854775807) (hcap:zs.length≤cap) :
  Calls Tryz.prog 58 #[.slice (some ⟨blk,off,none⟩) zs.length cap] w fun e w'=>e=.returned (.slice (some ⟨blk,off,none⟩) (Lib.compact zs).length cap)∧∃ q,w'=putRow (Value.int .i64) (Sort.ahead w q) blk off (Lib.compact zs++List.replicate (zs.length - (Lib.compact zs).length) 0).toArray:=Any.slices_Compact_int Tryz.laysNm220 blk off cap zs w hH hsz hcap
def Tryz.laysNm225_ren:Go.Shelf.Ren:=⟨fun|25=>43|31=>66|32=>67|37=>104|n=>n,fun|22=>24|3=>3|4=>4|40=>110|0=>0|n=>n,fun|n=>n⟩
theorem Tryz.laysNm225:Go.Proofs.Lays2.n25 Tryz.prog Tryz.laysNm225_ren:={
 mixed:=by kernel_rfl
 f25:=Tryz.func43.trans (congrArg some (by kernel_rfl))
 f31:=Tryz.func66.trans (congrArg some (by kernel_rfl))
 f32:=Tryz.func67.trans (congrArg some (by kernel_rfl))
 f37:=Tryz.func104.trans (congrArg some (by kernel_rfl))
 t0:=Tryz.underlying0
 a0:=Tryz.isAgg0
 z0:=Tryz.sizeOf0
 v0:=Tryz.zeroValue0
 t3:=Tryz.underlying3
 a3:=Tryz.isAgg3
 z3:=Tryz.sizeOf3
 v3:=Tryz.zeroValue3
 t4:=Tryz.underlying4
 a4:=Tryz.isAgg4
 z4:=Tryz.sizeOf4
 v4:=Tryz.zeroValue4
 t22:=Tryz.underlying24
 a22:=Tryz.isAgg24
 z22:=Tryz.sizeOf24
 v22:=Tryz.zeroValue24
 t40:=Tryz.underlying110
 a40:=Tryz.isAgg110
 z40:=Tryz.sizeOf110
 v40:=Tryz.zeroValue110 }
open Go.RowKit Go.Lib in
theorem Tryz.slices_BinarySearch_int (b off n c:Nat) (zs:List Int) (x:Int) (w:World) (hz:n≤zs.length) (hbig:n<4611686018427387904) (hc:∀ j,j<zs.length→w.cell? ⟨b,off+j,none⟩=some (.int .i64 (zs.getD j 0))) (hs:(zs.take n).Pairwise (·≤·)) :
  Calls Tryz.prog 43 #[.slice (some ⟨b,off,none⟩) n c,.int .i64 x] w fun e w'=>e=.returned (.tuple #[.int .i64 ((zs.take n).countP (·<x):Nat),.bool ((zs.take n).contains x)])∧∃ q,w'=w.drewN q:=Any.slices_BinarySearch_int Tryz.laysNm225 b off n c zs x w hz hbig hc hs
open Go.RowKit Go.Lib in
theorem Tryz.slices_BinarySearch_int_empty (a:Option Addr) (c:Nat) (x:Int) (w:World) :
  Calls Tryz.prog 43 #[.slice a 0 c,.int .i64 x] w fun e w'=>e=.returned (.tuple #[.int .i64 0,.bool false])∧w'=w:=Any.slices_BinarySearch_int_empty Tryz.laysNm225 a c x w
def Tryz.laysSlH10_f41_ren:Go.Shelf.Ren:=⟨fun|10=>41|6=>65|n=>n,fun|22=>24|23=>3|25=>86|3=>3|4=>4|0=>0|n=>n,fun|n=>n⟩
theorem Tryz.laysSlH10_f41:Go.Proofs.SlLaysH.n10 Tryz.prog Tryz.laysSlH10_f41_ren:={
 mixed:=by kernel_rfl
 f6:=⟨Tryz.f65.name,by decide,Tryz.func65.trans (congrArg some (by kernel_rfl))⟩
 f10:=⟨Tryz.f41.name,by decide,Tryz.func41.trans (congrArg some (by kernel_rfl))⟩
 t0:=Tryz.underlying0
 a0:=Tryz.isAgg0
 z0:=Tryz.sizeOf0
 v0:=Tryz.zeroValue0
 t3:=Tryz.underlying3
 a3:=Tryz.isAgg3
 z3:=Tryz.sizeOf3
 v3:=Tryz.zeroValue3
 t4:=Tryz.underlying4
 a4:=Tryz.isAgg4
 z4:=Tryz.sizeOf4
 v4:=Tryz.zeroValue4
 t22:=Tryz.underlying24
 a22:=Tryz.isAgg24
 z22:=Tryz.sizeOf24
 v22:=Tryz.zeroValue24
 a23:=Tryz.isAgg3
 z23:=Tryz.sizeOf3
 t25:=Tryz.underlying86
 a25:=Tryz.isAgg86
 z25:=Tryz.sizeOf86
 v25:=Tryz.zeroValue86 }
open Go.RowKit Go.Lib Go.Sort in
theorem Tryz.slices_DeleteFunc {α:Type} [Inhabited α] (enc:α→Value) (hO:OneCell enc) (p:α→Bool) (g:Nat) (lb:Array Value) (eg:∀ args w,(callFunc g args).run Tryz.prog w=.ok (.enter g args) w) (zr:α) (v23:∀ w,(zeroValue 3).run Tryz.prog w=.ok (enc zr) w) (blk off cap:Nat) (d:Array α) (w:World) (hp:PredAt Tryz.prog g lb enc p w) (hpo:PredOver Tryz.prog g lb enc p blk off d.size w) (hH:Holds enc w blk off d) (hsz:d.size≤9223372036854775807) (hcap:d.size≤cap) :
  Calls Tryz.prog 41 #[.slice (some ⟨blk,off,none⟩) d.size cap,.func (.func g) #[] lb] w fun e w'=>e=.returned (.slice (some ⟨blk,off,none⟩) (d.toList.filter fun x=>!p x).length cap)∧∃ q,w'=putRow enc (Sort.ahead w q) blk off ((d.toList.filter fun x=>!p x)++List.replicate (d.size - (d.toList.filter fun x=>!p x).length) zr).toArray:=AnyE.slices_DeleteFunc Tryz.laysSlH10_f41 enc hO p g lb eg zr v23 blk off cap d w hp hpo hH hsz hcap
def Tryz.laysSlF6_f37_ren:Go.Shelf.Ren:=⟨fun|6=>37|15=>63|14=>62|28=>100|29=>101|20=>92|21=>93|22=>94|23=>95|24=>96|25=>97|26=>98|27=>99|46=>129|47=>130|48=>131|49=>132|50=>133|57=>146|n=>n,fun|22=>24|24=>3|25=>81|3=>3|39=>110|0=>0|53=>147|55=>149|4=>4|46=>141|45=>140|50=>84|5=>5|9=>9|66=>172|70=>176|76=>190|77=>191|n=>n,fun|n=>n⟩
theorem Tryz.laysSlF6_f37:Go.Proofs.SlLaysF.n6 Tryz.prog Tryz.laysSlF6_f37_ren:={
 mixed:=by kernel_rfl
 f6:=⟨Tryz.f37.name,by decide,Tryz.func37.trans (congrArg some (by kernel_rfl))⟩
 f14:=⟨Tryz.f62.name,by decide,Tryz.func62.trans (congrArg some (by kernel_rfl))⟩
 f15:=Tryz.func63.trans (congrArg some (by kernel_rfl))
 f20:=⟨Tryz.f92.name,by decide,Tryz.func92.trans (congrArg some (by kernel_rfl))⟩
 f21:=⟨Tryz.f93.name,by decide,Tryz.func93.trans (congrArg some (by kernel_rfl))⟩
 f22:=⟨Tryz.f94.name,by decide,Tryz.func94.trans (congrArg some (by kernel_rfl))⟩
 f23:=⟨Tryz.f95.name,by decide,Tryz.func95.trans (congrArg some (by kernel_rfl))⟩
 f24:=⟨Tryz.f96.name,by decide,Tryz.func96.trans (congrArg some (by kernel_rfl))⟩
 f25:=⟨Tryz.f97.name,by decide,Tryz.func97.trans (congrArg some (by kernel_rfl))⟩
 f26:=⟨Tryz.f98.name,by decide,Tryz.func98.trans (congrArg some (by kernel_rfl))⟩
 f27:=⟨Tryz.f99.name,by decide,Tryz.func99.trans (congrArg some (by kernel_rfl))⟩
 f28:=Tryz.func100.trans (congrArg some (by kernel_rfl))
 f29:=Tryz.func101.trans (congrArg some (by kernel_rfl))
 f46:=⟨Tryz.f129.name,by decide,Tryz.func129.trans (congrArg some (by kernel_rfl))⟩
 f47:=Tryz.func130.trans (congrArg some (by kernel_rfl))
 f48:=Tryz.func131.trans (congrArg some (by kernel_rfl))
 f49:=⟨Tryz.f132.name,by decide,Tryz.func132.trans (congrArg some (by kernel_rfl))⟩
 f50:=⟨Tryz.f133.name,by decide,Tryz.func133.trans (congrArg some (by kernel_rfl))⟩
 f57:=⟨Tryz.f146.name,by decide,Tryz.func146.trans (congrArg some (by kernel_rfl))⟩
 t0:=Tryz.underlying0
 a0:=Tryz.isAgg0
 z0:=Tryz.sizeOf0
 v0:=Tryz.zeroValue0
 t3:=Tryz.underlying3
 a3:=Tryz.isAgg3
 z3:=Tryz.sizeOf3
 v3:=Tryz.zeroValue3
 t4:=Tryz.underlying4
 a4:=Tryz.isAgg4
 z4:=Tryz.sizeOf4
 v4:=Tryz.zeroValue4
 t5:=Tryz.underlying5
 a5:=Tryz.isAgg5
 z5:=Tryz.sizeOf5
 v5:=Tryz.zeroValue5
 t9:=Tryz.underlying9
 a9:=Tryz.isAgg9
 z9:=Tryz.sizeOf9
 v9:=Tryz.zeroValue9
 t22:=Tryz.underlying24
 a22:=Tryz.isAgg24
 z22:=Tryz.sizeOf24
 v22:=Tryz.zeroValue24
 a24:=Tryz.isAgg3
 z24:=Tryz.sizeOf3
 t25:=Tryz.underlying81
 a25:=Tryz.isAgg81
 z25:=Tryz.sizeOf81
 v25:=Tryz.zeroValue81
 t39:=Tryz.underlying110
 a39:=Tryz.isAgg110
 z39:=Tryz.sizeOf110
 v39:=Tryz.zeroValue110
 t45:=Tryz.underlying140
 a45:=Tryz.isAgg140
 z45:=Tryz.sizeOf140
 v45:=Tryz.zeroValue140
 t46:=Tryz.underlying141
 a46:=Tryz.isAgg141
 z46:=Tryz.sizeOf141
 v46:=Tryz.zeroValue141
 t50:=Tryz.underlying84
 a50:=Tryz.isAgg84
 z50:=Tryz.sizeOf84
 v50:=Tryz.zeroValue84
 t53:=Tryz.underlying147
 a53:=Tryz.isAgg147
 z53:=Tryz.sizeOf147
 v53:=Tryz.zeroValue147
 t55:=Tryz.underlying149
 a55:=Tryz.isAgg149
 z55:=Tryz.sizeOf149
 v55:=Tryz.zeroValue149
 t66:=Tryz.underlying172
 a66:=Tryz.isAgg172
 z66:=Tryz.sizeOf172
 v66:=Tryz.zeroValue172
 t70:=Tryz.underlying176
 a70:=Tryz.isAgg176
 z70:=Tryz.sizeOf176
 v70:=Tryz.zeroValue176
 t76:=Tryz.underlying190
 a76:=Tryz.isAgg190
 z76:=Tryz.sizeOf190
 v76:=Tryz.zeroValue190
 t77:=Tryz.underlying191
 a77:=Tryz.isAgg191
 z77:=Tryz.sizeOf191
 v77:=Tryz.zeroValue191 }
open Go.RowKit Go.Lib Go.Sort in
theorem Tryz.slices_SortFunc {α:Type} [Inhabited α] (enc:α→Value) (h1:OneCell enc) (cf:α→α→Int) (hO:SWO (ltOf cf)) (g:Nat) (cb:Array Value) (blk off cap:Nat) (d:Array α) (w:World) (eg:∀ args w,(callFunc g args).run Tryz.prog w=.ok (.enter g args) w) (hcmp:CmpLays1 Tryz.prog g cb enc cf blk off d.size w) (hH:Holds enc w blk off d) (hblk:blk<w.heap.size) (hsz:d.size<4611686018427387904) :
  Calls Tryz.prog 37 #[.slice (some ⟨blk,off,none⟩) d.size cap,.func (.func g) #[] cb] w fun e w' =>
   e=.returned (.tuple #[])∧∃ d' n os,PermIn 0 d.size d d'∧SortedIn (ltOf cf) 0 d.size d'∧w'=sortWorld enc w blk off n d' os:=Any.slices_SortFunc Tryz.laysSlF6_f37 enc h1 cf hO g cb blk off cap d w eg hcmp hH hblk hsz
open Go.Shelf Go.RowKit Go.Lib
set_option linter.unusedVariables false
set_option linter.unusedSimpArgs false
set_option maxHeartbeats 2000000 in
theorem Tryz.not_in (W:World) (B o:Nat) (a:Option Addr) (cap:Nat) (zs:List Int) (x:Int) (h1:W.cell? ⟨B,o,none⟩=some (.slice a zs.length cap))
  (ha:0<zs.length→∃ B' o',a=some ⟨B',o',none⟩∧∀ j,j<zs.length→W.cell? ⟨B',o'+j,none⟩=some (.int .i64 (zs.getD j 0)))
  (hl:zs.length<4611686018427387904) (hs:zs.Pairwise (·≤·)) :
  Calls Tryz.prog 42 #[.int .i64 x,.pointer (some ⟨B,o,none⟩)] W fun e w'=>e=.returned (.bool (!zs.contains x))∧∃ q,w'=W.drewN q:=by
 have mixed:Tryz.prog.follows .mixedOrders=true:=by kernel_rfl
 have hb:∀ w':World,(∃ q,w'=W.drewN q)→Calls Tryz.prog 43 #[.slice a zs.length cap,.int .i64 x] w' fun e w''=>(∃ k:Nat,e=.returned (.tuple #[.int .i64 k,.bool (zs.contains x)]))∧∃ q,w''=W.drewN q:=by
  rintro w' ⟨q,rfl⟩
  by_cases h0:0<zs.length
  ·obtain ⟨B',o',rfl,hc⟩:=ha h0
   refine (Tryz.slices_BinarySearch_int B' o' zs.length cap zs x (W.drewN q) (Nat.le_refl _) hl hc (by rw [List.take_length];exact hs)).mono ?_
   rintro e w'' ⟨rfl,q2,rfl⟩
   rw [List.take_length]
   exact ⟨⟨_,rfl⟩,q+q2,by simp [World.drewN,Nat.add_assoc]⟩
  ·have hz:zs=[]:=List.eq_nil_of_length_eq_zero (by omega)
   subst hz
   refine (Tryz.slices_BinarySearch_int_empty a cap x (W.drewN q)).mono ?_
   rintro e w'' ⟨rfl,rfl⟩
   exact ⟨⟨0,rfl⟩,q,rfl⟩
 go_enter Tryz.func42,Tryz.ntmps42
 go_wp2_with (go_at_call 43;refine (hb _ ⟨0,rfl⟩).mono ?_;rintro e w0 ⟨⟨k,rfl⟩,q,rfl⟩)
 go_ret
 exact ⟨by simp,q,rfl⟩
end Go.Proofs
namespace Go.AM
open Go.Proofs
set_option maxRecDepth 100000
set_option linter.unusedVariables false
set_option linter.unusedSimpArgs false
attribute [local go_sem] Function.comp_def argsT Opd.ev Tm.get put ares mapMo ares1 snilP bldParts bslParts putAt AV.cells AV.one astore aload loadCs callArgs abin abinInt aapp elems appMore appNone preLen aFa aFld apart aExt aPick aNot aLens aEqa cellsK fitsA LK.fitsA leavesA leafA nilD aNilc aCint aCid alive alen alenOk Rle lePs len_flat lit
theorem c33_ok:cFn Tryz.prog an0 Tryz.f33=some c33:=by kernel_rfl
theorem c61_ok:cFn Tryz.prog an0 Tryz.f61=some c61:=by kernel_rfl
theorem c60_ok:cFn Tryz.prog an0 Tryz.f60=some c60:=by kernel_rfl
theorem c36_ok:cFn Tryz.prog an0 Tryz.f36=some c36:=by kernel_rfl
theorem c102_ok:cFn Tryz.prog an0 Tryz.f102=some c102:=by kernel_rfl
theorem c103_ok:cFn Tryz.prog an0 Tryz.f103=some c103:=by kernel_rfl
theorem c64_ok:cFn Tryz.prog an0 Tryz.f64=some c64:=by kernel_rfl
theorem c39_ok:cFn Tryz.prog an0 Tryz.f39=some c39:=by kernel_rfl
theorem c38_ok:cFn Tryz.prog an0 Tryz.f38=some c38:=by kernel_rfl
theorem find33_PF {rk:List Int} (u:Ce) (h:Pv rk u.v) {n:Int} (hn:0≤n∧n<u.v.length):PF Tryz.prog 33 [.agg u.cs,i64 n] (i64 (fnd u.v n)):=by
 refine PFk 9 hm Tryz.func33 c33_ok (Nat.le_of_ble_eq_true rfl) (by simp) (by simp) ?_
 generalize hQ:Rle 9 (i64 (fnd u.v n))=Q
 simp (maxSteps:=3000000) [go_sem,-List.length_flatten,-List.map_drop,-List.map_take,c33]
 refine run_loopK (fun r T H=>∃ m:Int,r=posR rk u.v.length m∧(0≤m∧m<u.v.length)∧fnd u.v m=fnd u.v n∧T=[(1,i64 m),(2,.ptr 0 0 0)]∧H=[.cells 0 u.cs])
  (posR rk u.v.length n) [(1,i64 n),(2,.ptr 0 0 0)] [.cells 0 u.cs] (Wk.sub (by simp [Tm.get])) ⟨n,rfl,hn,rfl,rfl,rfl⟩ ?_
 rintro r T H ⟨m,rfl,hm,hf,rfl,rfl⟩ KK kx kr kn
 by_cases e:gi u.v m=m
 ·have e':=eq_true e
  simp (maxSteps:=3000000) [go_sem,-List.length_flatten,-List.map_drop,-List.map_take,hm,e',kx]
  intros
  rw [←hQ,←hf,fnd_of e]
  simp (maxSteps:=3000000) [go_sem,-List.length_flatten,-List.map_drop,-List.map_take,Rle,frz,leP]
 ·have hat:=h.at hm
  have hlt:lessR rk (gi u.v m) m=true:=hat.2.resolve_left e
  simp (maxSteps:=3000000) [go_sem,-List.length_flatten,-List.map_drop,-List.map_take,hm,e,hat.1]
  intros
  refine kn _ _ (Kl_next (posR rk u.v.length (gi u.v m)) 1 (by omega) ⟨gi u.v m,rfl,hat.1,by rw [h.step hm,hf],rfl,rfl⟩ (by simp [Tm.get]) (by simp) rfl (by simp [RLB]) (posR_lt hat.1 hlt))
theorem is61_PF (u:Ce) {k:Int} (hk:0≤k∧k<u.v.length):PF Tryz.prog 61 [i64 k,.rptr u.cs] (.bool (decide (gi u.v k=k))):=by
 refine PFk 9 hm Tryz.func61 c61_ok (Nat.le_of_ble_eq_true rfl) (by simp) (by simp) ?_
 simp (maxSteps:=3000000) [go_sem,-List.length_flatten,-List.map_drop,-List.map_take,c61,hk]
theorem rank102_PF (rk:List Int) (n:Int):PF Tryz.prog 102 [i64 n,.rptr [ints rk]] (i64 (rankR rk n)):=by
 refine PFk 9 hm Tryz.func102 c102_ok (Nat.le_of_ble_eq_true rfl) (by simp) (by simp) ?_
 generalize hQ:Rle 9 (i64 (rankR rk n))=Q
 have fin:∀ t,t=rankR rk n→Q (i64 t) []:=by
  rintro _ rfl
  rw [←hQ]
  simp [Rle,frz,leP]
 simp (maxSteps:=3000000) [go_sem,-List.length_flatten,-List.map_drop,-List.map_take,c102]
 refine ⟨fun h=>fin _ ?_,fun h _=>⟨fun h2=>fin _ ?_,fun h2=>⟨⟨h,h2⟩,fin _ ?_⟩⟩⟩
 ·unfold rankR;rw [if_neg (by omega)]
 ·unfold rankR;rw [if_neg (by omega)]
 ·unfold rankR;rw [if_pos ⟨h,h2⟩]
abbrev rankV (rk:List Int):AV:=.fn (.func 102) [] [.rptr [ints rk]]
theorem less103_PF (rk:List Int) (a b:Int):PF Tryz.prog 103 [i64 a,i64 b,.rptr [rankV rk]] (.bool (lessR rk a b)):=by
 refine PFk 9 hm Tryz.func103 c103_ok (Nat.le_of_ble_eq_true rfl) (by simp) (by simp) ?_
 generalize hQ:Rle 9 (.bool (lessR rk a b))=Q
 have fin:∀ t H,t=lessR rk a b→Q (.bool t) H:=by
  rintro _ H rfl
  rw [←hQ]
  simp [Rle,frz,leP]
 have ha:=rank102_PF rk a
 have hb:=rank102_PF rk b
 obtain ⟨A,hA⟩:∃ A,rankR rk a=A:=⟨_,rfl⟩
 obtain ⟨B,hB⟩:∃ B,rankR rk b=B:=⟨_,rfl⟩
 have hl:lessR rk a b=decide (A<B∨(A=B∧a<b)):=by unfold lessR;rw [hA,hB]
 rw [hl] at fin
 rw [hA] at ha
 rw [hB] at hb
 clear hl hA hB
 simp (maxSteps:=3000000) [go_sem,-List.length_flatten,-List.map_drop,-List.map_take,c103]
 refine ⟨_,ha,?_⟩
 simp (maxSteps:=3000000) [go_sem,-List.length_flatten,-List.map_drop,-List.map_take,Kc]
 refine ⟨_,hb,?_⟩
 by_cases h1:A<B
 ·simp (maxSteps:=3000000) [go_sem,-List.length_flatten,-List.map_drop,-List.map_take,Kc,h1]
  exact fin _ _ (by simp [h1])
 ·simp (maxSteps:=3000000) [go_sem,-List.length_flatten,-List.map_drop,-List.map_take,Kc,h1]
  refine ⟨_,ha,_,hb,?_⟩
  by_cases h2:A=B
  ·subst h2
   simp (maxSteps:=3000000) [go_sem,-List.length_flatten,-List.map_drop,-List.map_take,Kc,h1]
   exact fin _ _ (by simp)
  ·simp (maxSteps:=3000000) [go_sem,-List.length_flatten,-List.map_drop,-List.map_take,Kc,h1,h2]
   exact fin _ _ (by simp [h1,h2])
theorem ordered64_FT {H:AHeap} (rk:List Int):FT Tryz.prog 64 [ints rk] H fun rv H'=>rv=.fn (.func 103) [] [.ptr (H.length+1) 0 0]∧H'=H++[.cells 0 [ints rk],.cells 0 [.fn (.func 102) [] [.ptr H.length 0 0]]]:=by
 refine FTk hm Tryz.func64 c64_ok (Nat.le_of_ble_eq_true rfl) ?_
 simp (maxSteps:=3000000) [go_sem,-List.length_flatten,-List.map_drop,-List.map_take,c64]
theorem less39_PF (rk:List Int) (a b:Int):PF Tryz.prog 39 [ints rk,i64 a,i64 b] (.bool (lessR rk a b)):=by
 refine PFk 9 hm Tryz.func39 c39_ok (Nat.le_of_ble_eq_true rfl) (by simp) (by simp) ?_
 generalize hQ:Rle 9 (.bool (lessR rk a b))=Q
 simp (maxSteps:=3000000) [go_sem,-List.length_flatten,-List.map_drop,-List.map_take,c39]
 refine (ordered64_FT rk).mono ?_
 rintro rv H' ⟨rfl,rfl⟩
 simp (maxSteps:=3000000) [go_sem,-List.length_flatten,-List.map_drop,-List.map_take,Kc]
 refine PF.borrow (less103_PF rk a b) 9 9 rfl ?_ ?_
 ·simp [lePs,frz,leP]
 ·simp (maxSteps:=3000000) [go_sem,-List.length_flatten,-List.map_drop,-List.map_take,Kc]
  rw [←hQ]
  simp (maxSteps:=3000000) [go_sem,-List.length_flatten,-List.map_drop,-List.map_take,Rle,frz,leP]
theorem cmp38_PF (g:Gr) (a b:Int):PF Tryz.prog 38 [i64 a,i64 b,.rptr g.cs] (i64 (if lessR g.ranks a b then -1 else 1)):=by
 refine PFk 9 hm Tryz.func38 c38_ok (Nat.le_of_ble_eq_true rfl) (by simp) (by simp) ?_
 generalize hQ:Rle 9 (i64 (if lessR g.ranks a b then -1 else 1))=Q
 have hl:=less39_PF g.ranks a b
 simp (maxSteps:=3000000) [go_sem,-List.length_flatten,-List.map_drop,-List.map_take,c38]
 refine PF.call hl 9 (by simp [lePs,-List.length_flatten,-List.map_drop,-List.map_take,Function.comp_def,len_flat]) ?_
 cases h:lessR g.ranks a b with
 | true =>
  rw [h] at hQ
  simp (maxSteps:=3000000) [go_sem,-List.length_flatten,-List.map_drop,-List.map_take,Kc]
  rw [←hQ]
  simp (maxSteps:=3000000) [go_sem,-List.length_flatten,-List.map_drop,-List.map_take,Rle,frz,leP]
 | false =>
  rw [h] at hQ
  simp (maxSteps:=3000000) [go_sem,-List.length_flatten,-List.map_drop,-List.map_take,Kc]
  rw [←hQ]
  simp (maxSteps:=3000000) [go_sem,-List.length_flatten,-List.map_drop,-List.map_take,Rle,frz,leP]
set_option maxHeartbeats 1000000 in
theorem those60_FT {H:AHeap} {i g:Nat} (u:Ce) (hi:H[i]?=some (.cells g u.cs)) (hn:u.v.length≤1000000) :
  FT Tryz.prog 60 [.agg u.cs,.fn (.func 61) [] [.ptr i g 0]] H fun rv H'=>∃ g',rv=.loc (H.length+1) g' 0 (firstsU u.v).length 1 false∧H'=H++[.cells 0 u.cs,.cells g' (i64s (firstsU u.v))]:=by
 refine FTk hm Tryz.func60 c60_ok (Nat.le_of_ble_eq_true rfl) ?_
 have hlt:=lt_of_get hi
 have hgi:∀ X,(H++X)[i]?=some (.cells g u.cs):=fun X=>by rw [List.getElem?_append_left hlt,hi]
 have hg0:∀ b X,(H++b::X)[H.length]?=some b:=fun b X=>by simp
 have hg1:∀ b c,(H++[b,c])[H.length+1]?=some c:=fun b c=>by simp
 have hs1:∀ b c c',(H++[b,c]).set (H.length+1) c'=H++[b,c']:=fun b c c'=>by
  rw [List.set_append_right _ _ (by omega),show H.length+1 - H.length=1 by omega];rfl
 have hnA:u.v.length≤maxA:=by unfold maxA;omega
 simp (maxSteps:=3000000) [go_sem,-List.length_flatten,-List.map_drop,-List.map_take,c60,↓hg0,hnA]
 refine run_loopK (fun m T H'=>∃ k q:Nat,m=u.v.length - k∧k≤u.v.length∧T=[(10,i64 k),(9,i64 u.v.length),(5,.loc (H.length+1) q 0 (firstsK u.v k).length 1 false),(1,.fn (.func 61) [] [.ptr i g 0])]∧H'=H++[.cells 0 u.cs,.cells q (i64s (firstsK u.v k))])
  u.v.length [(10,i64 (0:Nat)),(9,i64 u.v.length),(5,.loc (H.length+1) 0 0 0 1 false),(1,.fn (.func 61) [] [.ptr i g 0])] (H++[.cells 0 u.cs]++[.cells 0 []])
  ((Wk.nil 5 1 (by simp [Tm.get])).trans (Wk.sub (by simp [Tm.get]))) ⟨0,0,rfl,Nat.zero_le _,rfl,by simp [firstsK]⟩ ?_
 rintro m T H' ⟨k,q,rfl,hk,rfl,rfl⟩ KK kx kr kn
 by_cases hl:k<u.v.length
 ·have hsucc:=firstsK_succ u.v k
  have hlen:=firstsK_len u.v k
  have hA:(firstsK u.v k).length+1≤maxA:=by unfold maxA;omega
  have hap:=i64s_app (firstsK u.v k) (k:Int)
  have hknx:=nxt hl hnA
  have his:=is61_PF u (k:=k) ⟨by omega,by omega⟩
  simp (maxSteps:=3000000) [go_sem,-List.length_flatten,-List.map_drop,-List.map_take,hl,hnA]
  refine PF.borrow his 9 9 rfl ?_ ?_
  ·simp [lePs,frz,hgi,leP]
  ·by_cases e1:gi u.v k=k
   ·rw [if_pos e1] at hsucc
    have e1':=eq_true e1
    simp (maxSteps:=3000000) [go_sem,-List.length_flatten,-List.map_drop,-List.map_take,Kc,e1',↓hg1,↓hs1,hA,↓hap]
    intros
    refine kn _ _ (Kl_sub (u.v.length - (k+1)) ⟨k+1,q+1,rfl,by omega,rfl,by rw [hsucc];simp⟩ (by simp [Tm.get,hsucc,hknx]) (by omega))
   ·rw [if_neg e1,List.append_nil] at hsucc
    simp (maxSteps:=3000000) [go_sem,-List.length_flatten,-List.map_drop,-List.map_take,Kc,e1]
    intros
    refine kn _ _ (Kl_sub (u.v.length - (k+1)) ⟨k+1,q,rfl,by omega,rfl,by rw [hsucc]⟩ (by simp [Tm.get,hsucc,hknx]) (by omega))
 ·have ek:u.v.length=k:=by omega
  have efu:firstsU u.v=firstsK u.v k:=by rw [←ek];rfl
  simp (maxSteps:=3000000) [go_sem,-List.length_flatten,-List.map_drop,-List.map_take,hl,kx,ek]
  rw [efu]
  exact ⟨q,⟨rfl,rfl⟩,rfl,rfl⟩
theorem firsts36_FT {H:AHeap} (u:Ce) (hn:u.v.length≤1000000) :
  FT Tryz.prog 36 [.agg u.cs] H fun rv H'=>∃ g',rv=.loc (H.length+2) g' 0 (firstsU u.v).length 1 false∧H'=H++[.cells 0 u.cs,.cells 0 u.cs,.cells g' (i64s (firstsU u.v))]:=by
 refine FTk hm Tryz.func36 c36_ok (Nat.le_of_ble_eq_true rfl) ?_
 have hg0:∀ b X,(H++b::X)[H.length]?=some b:=fun b X=>by simp
 have ht:=those60_FT (H:=H++[.cells 0 u.cs]) (i:=H.length) (g:=0) u (by simp) hn
 simp (maxSteps:=3000000) [go_sem,-List.length_flatten,-List.map_drop,-List.map_take,c36,↓hg0]
 refine ht.mono ?_
 rintro rv H' ⟨g',rfl,rfl⟩
 simp (maxSteps:=3000000) [go_sem,-List.length_flatten,-List.map_drop,-List.map_take,Kc]
theorem c17_ok:cFn Tryz.prog an0 Tryz.f17=some c17:=by kernel_rfl
theorem pw_eq {R:Int→Int→Prop} (asym:∀ a b,R a b→R b a→False):∀ {l m:List Int},l.Pairwise R→m.Pairwise R→(∀ x,x∈l↔x∈m)→l=m
 | [],[],_,_,_=>rfl
 | [],b::m,_,_,h=>by have:=(h b).2 (by simp);simp at this
 | a::l,[],_,_,h=>by have:=(h a).1 (by simp);simp at this
 | a::l,b::m,hl,hm,h=>by
  rw [List.pairwise_cons] at hl hm
  have e:a=b:=by
   have h1:=(h a).1 (by simp)
   have h2:=(h b).2 (by simp)
   rw [List.mem_cons] at h1 h2
   rcases h1 with h1|h1
   ·exact h1
   ·rcases h2 with h2|h2
    ·exact h2.symm
    ·exact (asym _ _ (hm.1 _ h1) (hl.1 _ h2)).elim
  subst e
  rw [pw_eq asym hl.2 hm.2 fun x=>?_]
  constructor
  ·intro hx
   have h1:=(h x).1 (by simp [hx])
   rw [List.mem_cons] at h1
   rcases h1 with rfl|h1
   ·exact (asym _ _ (hl.1 _ hx) (hl.1 _ hx)).elim
   ·exact h1
  ·intro hx
   have h1:=(h x).2 (by simp [hx])
   rw [List.mem_cons] at h1
   rcases h1 with rfl|h1
   ·exact (asym _ _ (hm.1 _ hx) (hm.1 _ hx)).elim
   ·exact h1
theorem lessR_no {rk:List Int} (a b:Int) (h:lessR rk a b=true) (k:lessR rk b a=true):False:=by
 rw [lessR_asym h] at k
 cases k
theorem minJ_min (rk l:List Int):∀ (i:Nat) (j:Nat),j<i→lessR rk (gi l j) (gi l (minJ rk l i))=false
 | 0,j,h=>by omega
 | i+1,j,h=>by
  have ih:=minJ_min rk l i
  unfold minJ
  split
  ·rename_i c
   by_cases e:j=i
   ·subst e;exact lessR_irr _
   ·cases hb:lessR rk (gi l j) (gi l i) with
    | false=>rfl
    | true =>
     have:=lessR_tr hb c
     rw [ih j (by omega)] at this
     cases this
  ·rename_i c
   by_cases e:j=i
   ·subst e;simpa using c
   ·exact ih j (by omega)
theorem erase_at {l:List Int} {m:Nat} (hm:m<l.length):(gi l m::l.eraseIdx m).Perm l:=by
 have e:gi l m=l[m]:=by simp [gi,List.getD,hm]
 have e2:l=l.take m++l[m]::l.drop (m+1):=by rw [←List.drop_eq_getElem_cons hm,List.take_append_drop]
 rw [e,List.eraseIdx_eq_take_drop_succ]
 exact (List.perm_middle.symm).trans (.of_eq e2.symm)
theorem orderN_spec (rk:List Int):∀ (n:Nat) (l:List Int),l.length=n→l.Nodup→(orderN rk n l).Perm l∧(orderN rk n l).Pairwise fun a b=>lessR rk a b=true
 | 0,l,hl,_=>by
  have:l=[]:=List.eq_nil_of_length_eq_zero hl
  subst this
  exact ⟨.refl _,.nil⟩
 | n+1,l,hl,hd=>by
  have hm:minJ rk l (n+1)<l.length:=by have:=minJ_le rk l (n+1);omega
  have hmin:=minJ_min rk l (n+1)
  have hp:=erase_at hm
  unfold orderN
  generalize minJ rk l (n+1)=m at *
  have hd2:=hp.nodup_iff.2 hd
  rw [List.nodup_cons] at hd2
  obtain ⟨h1,h2⟩:=orderN_spec rk n (l.eraseIdx m) (by rw [List.length_eraseIdx,if_pos hm];omega) hd2.2
  refine ⟨(h1.cons _).trans hp,List.pairwise_cons.2 ⟨fun x hx=>?_,h2⟩⟩
  have hx1:=h1.mem_iff.1 hx
  have hx2:x∈l:=hp.mem_iff.1 (List.mem_cons_of_mem _ hx1)
  obtain ⟨j,j1,rfl⟩:=at_mem hx2
  refine lessR_tot (hmin j (by omega)) fun e=>?_
  rw [e] at hx1
  exact hd2.1 hx1
theorem firsts_nodup (v:List Int):(firstsU v).Nodup:=by
 unfold firstsU
 exact ((rng_rise v.length).imp fun {a b} h=>by omega).filter _
theorem mem_firsts {v:List Int} {x:Int}:x∈firstsU v↔(0≤x∧x<v.length)∧gi v x=x:=by
 unfold firstsU
 rw [List.mem_filter,mem_rng]
 simp
theorem orderR_spec (rk:List Int) {l:List Int} (h:l.Nodup):(orderR rk l).Perm l∧(orderR rk l).Pairwise fun a b=>lessR rk a b=true:=orderN_spec rk l.length l rfl h
theorem order_is {rk l l':List Int} (hd:l.Nodup) (hp:l'.Perm l) (hs:l'.Pairwise fun a b=>lessR rk b a=false):l'=orderR rk l:=by
 obtain ⟨h1,h2⟩:=orderR_spec rk hd
 refine pw_eq (R:=fun a b=>lessR rk a b=true) (fun a b=>lessR_no a b) ?_ h2 fun x=>by rw [hp.mem_iff,h1.mem_iff]
 have hd':=hp.nodup_iff.2 hd
 exact (hs.and hd').imp fun {a b} h=>lessR_tot h.1 h.2.symm
def cfO (rk:List Int) (a b:Int):Int:=if lessR rk a b then -1 else 1
theorem ltO (rk:List Int) (a b:Int):Go.Proofs.ltOf (cfO rk) a b=lessR rk a b:=by
 unfold Go.Proofs.ltOf cfO
 cases lessR rk a b<;>rfl
theorem swoO (rk:List Int):Go.Sort.SWO (Go.Proofs.ltOf (cfO rk)):=by
 refine ⟨fun x=>?_,fun x y z h k=>?_,fun x y z h k=>?_⟩
 ·rw [ltO];exact lessR_irr x
 ·rw [ltO] at *;exact lessR_tr h k
 ·rw [ltO] at *
  have h':¬ lessR rk x y=true:=by rw [h];simp
  have k':¬ lessR rk y z=true:=by rw [k];simp
  cases e:lessR rk x z with
  | false=>rfl
  | true=>rw [lessR_iff] at *;omega
theorem callFunc_run {P:Program} {g:FuncId} (hc:Callable P g) (args:Array Value) (w:World):(callFunc g args).run P w=.ok (.enter g args) w:=by
 obtain ⟨fn,h1,h2,h3⟩:=hc
 have h4:¬ fn.body=none:=by cases hb:fn.body<;>simp_all
 have h5:¬ fn.name="runtime.NumGoroutine":=by simpa using h3
 simp [callFunc,h1]
 rw [if_neg h5,if_neg h4]
theorem call37:Callable Tryz.prog 37:=⟨Tryz.f37,rfl,rfl,by kernel_rfl⟩
theorem call38:Callable Tryz.prog 38:=⟨Tryz.f38,rfl,rfl,by kernel_rfl⟩
theorem call41:Callable Tryz.prog 41:=⟨Tryz.f41,rfl,rfl,by kernel_rfl⟩
theorem call42:Callable Tryz.prog 42:=⟨Tryz.f42,rfl,rfl,by kernel_rfl⟩
theorem call57:Callable Tryz.prog 57:=⟨Tryz.f57,rfl,rfl,by kernel_rfl⟩
theorem call58:Callable Tryz.prog 58:=⟨Tryz.f58,rfl,rfl,by kernel_rfl⟩
theorem oneI:OneCell (Value.int .i64):=fun x=>rfl
theorem sort37_FT {H:AHeap} {k g j gj:Nat} {l:List Int} (G:Gr) (h0:0<l.length) (h:H[k]?=some (.cells g (i64s l))) (hj:H[j]?=some (.cells gj G.cs)) (hne:k≠j) :
  FT Tryz.prog 37 [.loc k g 0 l.length 1 false,.fn (.func 38) [] [.ptr j gj 0]] H fun rv H'=>rv=.tuple []∧∃ l':List Int,l'.Perm l∧(∀ i j:Nat,i<j→j<l'.length→Go.Proofs.ltOf (cfO G.ranks) l'[j]! l'[i]! = false)∧H'=H.set k (.cells g (i64s l')):=by
 refine sortI_FT (b0:=.rptr G.cs) call37 (cmp38_PF G) (fun cb blk off cap d w hc hH hb hs=>Tryz.slices_SortFunc (Value.int .i64) oneI (cfO G.ranks) (swoO G.ranks) 38 cb blk off cap d w (callFunc_run call38) hc hH hb hs) h0 h 9 9 fun ys _=>?_
 have e:(H.set k (.cells g (i64s ys)))[j]?=some (.cells gj G.cs):=by rw [List.getElem?_set_ne hne,hj]
 simp [frz,e,leP,lePs]
def c41b:AFn:=lit fun m o w i y z p n s t k q r d c f b e a=>⟨42,q (r [i 4 (.mov (.lit .nilS))]) (q (r [m 8 0,m 9 1,i 10 (f 65 [t 8,t 9]),m 5 10]) (q (q (r [m 11 5,i 12 (.bin .eql (t 11) (k (-1)))]) (c 12 (q (r [m 13 0,m 4 13]) .ret) .skip)) (q (q (r [m 14 5,i 15 (.bin .add (t 14) (k 1)),m 6 15]) (b 0 ((q (q (r [m 16 6,m 17 0,i 18 (.len (t 17)),i 19 (e .lss 16 18)]) (c 19 .skip (.exit 0))) (q (.block 1 (q (r [m 22 0,m 23 6,i 24 (.ia 1 (t 22) (t 23)),o 25 24,m 7 25]) (q (r [m 26 1,m 27 7,i 28 (.call (t 26) [t 27]),i 29 (.not (t 28))]) (c 29 (q (r [m 30 0,m 31 5,m 32 7,i 33 (.ia 1 (t 30) (t 31)),s (.store 1 (t 33) (t 32))]) (r [m 34 5,i 35 (.bin .add (t 34) (k 1)),m 5 35])) .skip)))) (r [m 20 6,i 21 (.bin .add (t 20) (k 1)),m 6 21])))))) (q .stuck (q (r [m 39 0,m 40 5,i 41 (.slc 1 (t 39) none (some (t 40)) none),m 4 41]) .ret))))),[.tmp 4]⟩
def c58b:AFn:=lit fun m o w i y z p n s t k q r d c f b e a=>⟨61,q (r [i 2 (.mov (.lit .nilS))]) (q (q (r [m 6 0,i 7 (.len (t 6)),i 8 (.bin .lss (t 7) (k 2))]) (c 8 (q (r [m 9 0,m 2 9]) .ret) .skip)) (q (q (r [i 3 (.mov (k 1))]) (b 0 ((q (q (r [m 10 3,m 11 0,i 12 (.len (t 11)),i 13 (e .lss 10 12)]) (c 13 .skip (.exit 0))) (q (.block 1 (q (d [m 16 0,m 17 3,i 18 (.ia 1 (t 16) (t 17)),o 19 18,m 20 0,m 21 3,i 22 (.bin .sub (t 21) (k 1)),i 23 (.ia 1 (t 20) (t 22)),o 24 23,i 25 (e .eql 19 24)]) (c 25 (q (r [m 26 0,m 27 3,i 28 (.slc 1 (t 26) (some (t 27)) none none),m 4 28]) (q (q (r [i 5 (.mov (k 1))]) (b 2 ((q (q (r [m 29 5,m 30 4,i 31 (.len (t 30)),i 32 (e .lss 29 31)]) (c 32 .skip (.exit 2))) (q (.block 3 (q (d [m 35 4,m 36 5,i 37 (.ia 1 (t 35) (t 36)),o 38 37,m 39 4,m 40 5,i 41 (.bin .sub (t 40) (k 1)),i 42 (.ia 1 (t 39) (t 41)),o 43 42,i 44 (e .neq 38 43)]) (c 44 (q (r [m 45 0,m 46 3,m 47 4,m 48 5,i 49 (.ia 1 (t 47) (t 48)),o 50 49,i 51 (.ia 1 (t 45) (t 46)),s (.store 1 (t 51) (t 50))]) (r [m 52 3,i 53 (.bin .add (t 52) (k 1)),m 3 53])) .skip))) (r [m 33 5,i 34 (.bin .add (t 33) (k 1)),m 5 34])))))) (q .stuck (q (r [m 57 0,m 58 3,i 59 (.slc 1 (t 57) none (some (t 58)) none),m 2 59]) .ret)))) .skip))) (r [m 14 3,i 15 (.bin .add (t 14) (k 1)),m 3 15])))))) (q (r [m 60 0,m 2 60]) .ret))),[.tmp 2]⟩
def an41:An:=⟨[],[2000011]⟩
def an58:An:=⟨[],[2000014]⟩
theorem c41_ok:cFn Tryz.prog an41 Tryz.f41=some c41b:=by kernel_rfl
theorem c58_ok:cFn Tryz.prog an58 Tryz.f58=some c58b:=by kernel_rfl
theorem c37_ok:cFn Tryz.prog an0 Tryz.f37=some c37:=by kernel_rfl
theorem c62_ok:cFn Tryz.prog an0 Tryz.f62=some c62:=by kernel_rfl
theorem c92_ok:cFn Tryz.prog an0 Tryz.f92=some c92:=by kernel_rfl
theorem c63_ok:cFn Tryz.prog an0 Tryz.f63=some c63:=by kernel_rfl
theorem c101_ok:cFn Tryz.prog an0 Tryz.f101=some c101:=by kernel_rfl
theorem c57_ok:cFn Tryz.prog an0 Tryz.f57=some c57:=by kernel_rfl
theorem c91_ok:cFn Tryz.prog an0 Tryz.f91=some c91:=by kernel_rfl
theorem c121_ok:cFn Tryz.prog an0 Tryz.f121=some c121:=by kernel_rfl
theorem c65_ok:cFn Tryz.prog an0 Tryz.f65=some c65:=by kernel_rfl
def env:FuncId→Option AFn:=fun f=>match f with
 | 37=>some c37
 | 62=>some c62
 | 92=>some c92
 | 63=>some c63
 | 101=>some c101
 | 57=>some c57
 | 91=>some c91
 | 121=>some c121
 | _=>none
theorem envOk:EnvOk Tryz.prog env:=by
 intro f af h
 unfold env at h
 split at h
 ·injection h with h;subst h;exact ⟨_,_,(show Tryz.prog.funcs[37]?=some Tryz.f37 from rfl),c37_ok⟩
 ·injection h with h;subst h;exact ⟨_,_,(show Tryz.prog.funcs[62]?=some Tryz.f62 from rfl),c62_ok⟩
 ·injection h with h;subst h;exact ⟨_,_,(show Tryz.prog.funcs[92]?=some Tryz.f92 from rfl),c92_ok⟩
 ·injection h with h;subst h;exact ⟨_,_,(show Tryz.prog.funcs[63]?=some Tryz.f63 from rfl),c63_ok⟩
 ·injection h with h;subst h;exact ⟨_,_,(show Tryz.prog.funcs[101]?=some Tryz.f101 from rfl),c101_ok⟩
 ·injection h with h;subst h;exact ⟨_,_,(show Tryz.prog.funcs[57]?=some Tryz.f57 from rfl),c57_ok⟩
 ·injection h with h;subst h;exact ⟨_,_,(show Tryz.prog.funcs[91]?=some Tryz.f91 from rfl),c91_ok⟩
 ·injection h with h;subst h;exact ⟨_,_,(show Tryz.prog.funcs[121]?=some Tryz.f121 from rfl),c121_ok⟩
 ·cases h
theorem sortE37 (c:Bool):PF Tryz.prog 37 [.rows c 1 [],.any] (.tuple []):=by
 cases c
 ·exact PF_eval hm envOk (fun _=>false) 60 30 rfl (by kernel_rfl)
 ·exact PF_eval hm envOk (fun _=>false) 60 30 rfl (by kernel_rfl)
theorem sortE57 (c:Bool):PF Tryz.prog 57 [.rows c 1 []] (.tuple []):=by
 cases c
 ·exact PF_eval hm envOk (fun _=>false) 60 30 rfl (by kernel_rfl)
 ·exact PF_eval hm envOk (fun _=>false) 60 30 rfl (by kernel_rfl)
theorem c32_ok:cFn Tryz.prog an0 Tryz.f32=some c32:=by kernel_rfl
theorem c14_ok:cFn Tryz.prog an0 Tryz.f14=some c14:=by kernel_rfl
theorem c22_ok:cFn Tryz.prog an0 Tryz.f22=some c22:=by kernel_rfl
theorem order17_PF (g:Gr) (hn:g.u.v.length≤1000000):PF Tryz.prog 17 [.agg g.cs] (ints (orderR g.ranks (firstsU g.u.v))):=by
 refine PFk 9 hm Tryz.func17 c17_ok (Nat.le_of_ble_eq_true rfl) (by simp) (by simp) ?_
 generalize hQ:Rle 9 (ints (orderR g.ranks (firstsU g.u.v)))=Q
 have hfl:(firstsU g.u.v).length≤g.u.v.length:=firstsK_len g.u.v g.u.v.length
 have hnd:=firsts_nodup g.u.v
 have hft:=firsts36_FT (H:=[.cells 0 g.cs]) g.u hn
 generalize firstsU g.u.v=fs at *
 simp (maxSteps:=3000000) [go_sem,-List.length_flatten,-List.map_drop,-List.map_take,c17]
 refine hft.mono ?_
 rintro rv H' ⟨g',rfl,rfl⟩
 simp (maxSteps:=3000000) [go_sem,-List.length_flatten,-List.map_drop,-List.map_take,Kc]
 by_cases h0:fs=[]
 ·subst h0
  refine PF.borrow (sortE37 false) 9 9 rfl ?_ ?_
  ·simp [lePs,frz,leP,chunk]
  ·simp (maxSteps:=3000000) [go_sem,-List.length_flatten,-List.map_drop,-List.map_take,Kc]
   rw [←hQ]
   simp [Rle,frz,chunk,leP,lePs,orderR,orderN]
 ·refine (sort37_FT (k:=3) (j:=0) g (List.length_pos_iff.2 h0) rfl rfl (by decide)).mono ?_
  rintro rv H' ⟨rfl,l',hp,hs,rfl⟩
  simp (maxSteps:=3000000) [go_sem,-List.length_flatten,-List.map_drop,-List.map_take,Kc]
  have hl:l'=orderR g.ranks fs:=by
   refine order_is hnd hp (List.pairwise_iff_getElem.2 fun i j hi hj hij=>?_)
   have:=hs i j hij hj
   rw [ltO] at this
   simpa [hi,hj] using this
  have hlen:=hp.length_eq
  rw [←hQ,←hl]
  unfold Rle
  rw [frzI (k:=7) l' rfl hlen.symm]
  exact leP_refl _ _
abbrev sortI (l:List Int):List Int:=l.mergeSort fun x y=>decide (x≤y)
abbrev compI (l:List Int):List Int:=Go.Lib.compact l
theorem set_same {H:AHeap} {k:Nat} {b:ABlk} (h:H[k]?=some b):H.set k b=H:=by
 have hk:=lt_of_get h
 rw [List.getElem?_eq_getElem hk] at h
 injection h with h
 rw [←h]
 exact List.set_getElem_self hk
theorem sort57_FT {H:AHeap} {k g:Nat} {l:List Int} (h:H[k]?=some (.cells g (i64s l))) :
  FT Tryz.prog 57 [.loc k g 0 l.length 1 false] H fun rv H'=>rv=.tuple []∧H'=H.set k (.cells g (i64s (sortI l))):=by
 by_cases h0:l=[]
 ·subst h0
  refine PF.borrow (sortE57 false) 9 9 rfl ?_ ⟨rfl,?_⟩
  ·simp [lePs,frz,h,chunk,leP]
  ·rw [show sortI []=[] from by simp [sortI],set_same h]
 ·exact sort_FT (fun l=>by simp [sortI]) call57 (fun blk off cap zs w a b d=>Tryz.slices_Sort_int blk off cap zs w a b d) (List.length_pos_iff.2 h0) h
theorem hcl (l:List Int):(compI l).length≤l.length:=by
 unfold compI Go.Lib.compact Go.Lib.compactUpTo
 rw [List.length_map]
 exact Nat.le_trans (List.length_filter_le _ _) (by simp)
theorem comp58_FT {H:AHeap} {k g:Nat} {l:List Int} (h:H[k]?=some (.cells g (i64s l))) :
  FT Tryz.prog 58 [.loc k g 0 l.length 1 false] H fun rv H'=>rv=.loc k g 0 (compI l).length 1 false∧∃ zs:List Int,zs.length=l.length - (compI l).length∧H'=H.set k (.cells g (i64s (compI l++zs))):=by
 by_cases h0:l=[]
 ·subst h0
  refine FTk hm Tryz.func58 c58_ok (Nat.le_of_ble_eq_true rfl) ?_
  simp (maxSteps:=3000000) [go_sem,-List.length_flatten,-List.map_drop,-List.map_take,c58b,h]
  have e:compI []=[]:=rfl
  exact ⟨by rw [e];rfl,by rw [e];exact (set_same h).symm⟩
 ·refine (cut_FT (S:=fun l=>compI l++List.replicate (l.length - (compI l).length) 0) (C:=compI) (fun l=>by have:=hcl l;simp;omega) hcl call58 (fun blk off cap zs w a b d=>?_) (List.length_pos_iff.2 h0) h).mono ?_
  ·refine (Tryz.slices_Compact_int blk off cap zs w a b d).mono ?_
   rintro e w' ⟨rfl,q,rfl⟩
   exact ⟨rfl,q,#[],by simp [rowW]⟩
  ·rintro rv H' ⟨rfl,rfl⟩
   exact ⟨rfl,_,by simp,rfl⟩
theorem comp_mem' {l:List Int} {x:Int}:x∈compI l↔x∈l:=by
 unfold compI Go.Lib.compact Go.Lib.compactUpTo
 constructor
 ·intro h
  obtain ⟨j,hj,rfl⟩:=List.mem_map.1 h
  have hj2:=(List.mem_filter.1 hj).1
  have hj3:j<l.length:=by simpa using hj2
  simp [hj3]
 ·intro h
  obtain ⟨j,hj,rfl⟩:=List.getElem_of_mem h
  have key:∀ j:Nat,(hj:j<l.length)→l[j]∈((List.range l.length).filter (Go.Lib.keeps l.toArray)).map (l.toArray[·]!):=by
   intro j
   induction j with
   | zero =>
    intro hj
    refine List.mem_map.2 ⟨0,List.mem_filter.2 ⟨by simpa using hj,by simp [Go.Lib.keeps]⟩,by simp [hj]⟩
   | succ j ih =>
    intro hj
    by_cases hk:Go.Lib.keeps l.toArray (j+1)=true
    ·exact List.mem_map.2 ⟨j+1,List.mem_filter.2 ⟨by simpa using hj,hk⟩,by simp [hj]⟩
    ·have:=ih (by omega)
     have e:l[j+1]=l[j]:=by
      have hj':j<l.length:=by omega
      simp [Go.Lib.keeps,hj,hj'] at hk
      exact hk
     rw [e]
     exact this
  exact key j hj
theorem comp_rise {l:List Int} (hs:l.Pairwise (·≤·)):(compI l).Pairwise (·<·):=by
 unfold compI Go.Lib.compact Go.Lib.compactUpTo
 rw [List.pairwise_map,List.pairwise_filter]
 refine List.Pairwise.imp_of_mem (fun {a b} ha hb hab h1 h2=>?_) (List.pairwise_lt_range (n:=l.length))
 have ha':a<l.length:=by simpa using ha
 have hb':b<l.length:=by simpa using hb
 have hbp:b - 1<l.length:=by omega
 rw [List.pairwise_iff_getElem] at hs
 have e1:l[b - 1]≤l[b]:=hs (b - 1) b hbp hb' (by omega)
 have e2:l[a]≤l[b - 1]:=by
  rcases Nat.lt_or_ge a (b - 1) with h|h
  ·exact hs a (b - 1) ha' hbp h
  ·have:a=b - 1:=by omega
   subst this
   exact Int.le_refl _
 have e3:l[b - 1]≠l[b]:=by
  obtain ⟨b0,rfl⟩:∃ b0,b=b0+1:=⟨b - 1,by omega⟩
  simp [Go.Lib.keeps,hb',show b0<l.length by omega] at h2
  intro e;simp at e;exact h2 e.symm
 simp [ha',hb']
 omega
theorem sort_rise (l:List Int):(sortI l).Pairwise (·≤·):=by
 have:=List.pairwise_mergeSort (le:=fun x y:Int=>decide (x≤y)) (fun a b c h1 h2=>by simp at *;omega) (fun a b=>by simp;omega) l
 exact this.imp fun h=>by simpa using h
theorem sc_is {l m:List Int} (hm:m.Pairwise (·<·)) (h:∀ x,x∈l↔x∈m):compI (sortI l)=m:=by
 refine rise_int (comp_rise (sort_rise l)) hm fun x=>?_
 rw [comp_mem',←h]
 exact List.mem_mergeSort
theorem chunk_preI (Z:List Int):∀ X:List Int,chunk 1 (i64s (X++Z)) X.length=X.map fun n=>[i64 n]
 | []=>rfl
 | x::X=>by
  show chunk 1 (i64 x::i64s (X++Z)) (X.length+1)=_
  rw [chunk]
  simp only [List.map_cons,List.drop_succ_cons,List.drop_zero]
  rw [chunk_preI Z X]
  rfl
theorem mput_new {α β:Type} [DecidableEq α] {a:α} {v:β}:∀ {l:List (α×β)},a∉l.map (·.1)→mput l a v=l++[(a,v)]
 | [],_=>rfl
 | p::l,h=>by
  simp only [List.map_cons,List.mem_cons,not_or] at h
  rw [mput,if_neg h.1,mput_new h.2]
  rfl
theorem mget_of {α β:Type} [DecidableEq α] (f:α→β) {a:α}:∀ {l:List α},a∈l→mget (l.map fun x=>(x,f x)) a=some (f a)
 | [],h=>by simp at h
 | x::l,h=>by
  rw [List.map_cons,mget]
  by_cases e:a=x
  ·subst e;simp
  ·rw [if_neg e]
   rw [List.mem_cons] at h
   exact mget_of f (h.resolve_left e)
noncomputable def accK (a:Kd) (g:Gr) (P:List Int):Nat→List Int
 | 0=>[]
 | i+1=>accK a g P i++if (termAt a (gi P i)).1.kind=2 then blwW a g (fnd g.u.v (termAt a (gi P i)).1.sym) else [gi P i]
theorem accK_len (a:Kd) (g:Gr) (P:List Int):∀ i,(accK a g P i).length≤i*(a.keys.length+1)
 | 0=>by simp [accK]
 | i+1=>by
  have h1:=accK_len a g P i
  have h2:=blwW_len a g (fnd g.u.v (termAt a (gi P i)).1.sym)
  unfold accK
  rw [List.length_append,Nat.succ_mul]
  split
  ·omega
  ·simp only [List.length_singleton];omega
theorem mem_accK {a:Kd} {g:Gr} {P:List Int} {x:Int}:∀ {i:Nat},x∈accK a g P i↔∃ j:Nat,j<i∧((termAt a (gi P j)).1.kind=2∧x∈blwW a g (fnd g.u.v (termAt a (gi P j)).1.sym)∨(termAt a (gi P j)).1.kind≠2∧x=gi P j)
 | 0=>by simp [accK]
 | i+1=>by
  unfold accK
  rw [List.mem_append,mem_accK]
  constructor
  ·rintro (⟨j,h1,h2⟩|h)
   ·exact ⟨j,by omega,h2⟩
   ·split at h
    ·rename_i c
     exact ⟨i,by omega,.inl ⟨c,h⟩⟩
    ·rename_i c
     exact ⟨i,by omega,.inr ⟨c,by simpa using h⟩⟩
  ·rintro ⟨j,h1,h2⟩
   by_cases e:j=i
   ·subst e
    right
    rcases h2 with ⟨c,h⟩|⟨c,h⟩
    ·rw [if_pos c];exact h
    ·rw [if_neg c,h];simp
   ·exact .inl ⟨j,by omega,h2⟩
section
variable {l:List Sg} {a:Kd} {nv:Nat} {g:Gr}
theorem acc_is (hk:Lk l a nv g) {v:Int} (hv:0≤v∧v<nv):compI (sortI (accK a g (gi g.pre v) (gi g.pre v).length))=blwW a g v:=by
 refine sc_is (blwW_rise a g v) fun x=>?_
 rw [mem_accK,mem_blwW hk hv]
 have hnum:∀ z,(termAt a z).1.kind=2→numOf a g z=(termAt a z).1.sym∧0≤(termAt a z).1.sym∧(termAt a z).1.sym<nv:=fun z h=>⟨numOf_var hk.vok hk.gok.lv h,(hk.vok.sym z h).1⟩
 constructor
 ·rintro ⟨j,j1,⟨c,h⟩|⟨c,rfl⟩⟩
  ·have hm:gi (gi g.pre v) j∈gi g.pre v:=gi_mem j1
   obtain ⟨e,h0⟩:=hnum _ c
   rw [mem_blwW hk (hk.gok.fin h0)] at h
   exact .step hm (by omega) (by rw [e];exact h)
  ·exact .base (gi_mem j1) (by rw [numOf_not c];omega)
 ·intro h
  cases h with
  | base h1 h2 =>
   obtain ⟨j,j1,j2⟩:=at_mem h1
   exact ⟨j,j1,.inr ⟨by rw [j2];exact (numOf_neg hk.vok hk.gok.lv x).1 h2,j2.symm⟩⟩
  | @step z _ h1 h2 h3 =>
   obtain ⟨j,j1,j2⟩:=at_mem h1
   have c:(termAt a z).1.kind=2:=by
    by_cases c:(termAt a z).1.kind=2
    ·exact c
    ·rw [numOf_not c] at h2;omega
   obtain ⟨e,h0⟩:=hnum _ c
   refine ⟨j,j1,.inl ⟨by rw [j2];exact c,?_⟩⟩
   rw [j2,mem_blwW hk (hk.gok.fin h0),←e]
   exact h3
end
noncomputable abbrev mapW (a:Kd) (g:Gr) (L:List Int):List (AV×AV):=L.map fun v=>(i64 v,ints (blwW a g v))
theorem leafI (a b:Int):leavesA [i64 a] [i64 b]=decide (a=b):=by simp [leavesA,leafA]
theorem cellI (a:Int):cellsK false [.int .i64] (i64 a)=some [i64 a]:=rfl
theorem lkI {H:AHeap} {i g:Nat} {a:Kd} {G:Gr} {L:List Int} (hH:H[i]?=some (.map g (mapW a G L))) {w:Int} (h:w∈L):alkp false [.int .i64] .nilS false H (.mapr i g) (i64 w)=some (ints (blwW a G w)):=by
 have hl:=lookA_map (agg:=false) (ks:=[.int .i64]) (K:=i64) (C:=fun n=>[i64 n]) (V:=ints) cellI leafI w (L.map fun x=>(x,blwW a G x))
 rw [mget_of _ h,List.map_map] at hl
 have e:L.map ((fun p:Int×List Int=>(i64 p.1,ints p.2))∘fun x=>(x,blwW a G x))=mapW a G L:=rfl
 rw [e] at hl
 simp only [alkp,amap,hH,if_pos,cellI,hl]
 rfl
theorem upI {H:AHeap} {i g:Nat} {a:Kd} {G:Gr} {L:List Int} (hH:H[i]?=some (.map g (mapW a G L))) {w:Int} (h:w∉L) (x:AV):aupd false [.int .i64] H (.mapr i g) (i64 w) x=some (H.set i (.map g (mapW a G L++[(i64 w,x)]))):=by
 have hl:=updA_map (agg:=false) (ks:=[.int .i64]) (K:=i64) (C:=fun n=>[i64 n]) (V:=fun y:AV=>y) cellI leafI w x (L.map fun x=>(x,ints (blwW a G x)))
 rw [mput_new (by simpa using h),List.map_map,List.map_append,List.map_map] at hl
 have e:L.map ((fun p:Int×AV=>(i64 p.1,p.2))∘fun x=>(x,ints (blwW a G x)))=mapW a G L:=rfl
 rw [e] at hl
 simp only [aupd,hH,if_pos,cellI,hl]
 rfl
theorem rlb_mapW {n q:Nat} {a:Kd} {g:Gr} {L:List Int}:RLB n (.map q (mapW a g L)):=by
 rintro y hy
 obtain ⟨p,_,rfl⟩:=List.mem_map.1 hy
 exact ⟨by simp,by simp⟩
theorem map_fz {a:Kd} {g:Gr} {i q n:Nat} {cs:List AV} (L:List Int):(mapW a g L).map (fun p=>(fz i q cs (n+1) p.1,fz i q cs (n+1) p.2))=mapW a g L:=by
 unfold mapW
 rw [List.map_map]
 rfl
theorem rows_fz {s:Sy} {a:Kd} {g:Gr} {L:List Int} {v:Int} {CS:List AV} {q:Nat} {x:AV} :
  (([ABlk.cells 0 s.cs,.cells 0 s.cs,.map 0 (mapW a g L++[(i64 v,x)]),.cells q CS].map (fzB 3 q CS 9)).set 3 (.dead q)).take 3=[.cells 0 s.cs,.cells 0 s.cs,.map 0 (mapW a g L++[(i64 v,fz 3 q CS 9 x)])]:=by
 have h:(mapW a g L++[(i64 v,x)]).map (fun p=>(fz 3 q CS 9 p.1,fz 3 q CS 9 p.2))=mapW a g L++[(i64 v,fz 3 q CS 9 x)]:=by
  rw [List.map_append,map_fz (n:=8)]
  rfl
 have hs:s.cs.map (fz 3 q CS 9)=s.cs:=rfl
 simp only [List.map_cons,List.map_nil,fzB,h,hs,List.set_cons_succ,List.set_cons_zero,List.take_succ_cons,List.take_zero]
section
variable {l:List Sg} {nv:Nat} {s:Sy}
set_option maxHeartbeats 4000000 in
theorem rows32_FT (hk:Lk l s.a nv s.g) (hn:nv≤400):FT Tryz.prog 32 [.agg s.cs] [.cells 0 s.cs] fun rv H'=>rv=.mapr 2 0∧H'=[.cells 0 s.cs,.cells 0 s.cs,.map 0 (mapW s.a s.g (orderR s.g.ranks (firstsU s.g.u.v)))]:=by
 refine FTk hm Tryz.func32 c32_ok (Nat.le_of_ble_eq_true rfl) ?_
 have hlv:=hk.gok.lv
 have hlp:=hk.gok.lp
 have hm4:=hk.few
 have hord:=order17_PF s.g (by omega)
 obtain ⟨hperm,hsort⟩:=orderR_spec s.g.ranks (firsts_nodup s.g.u.v)
 have hLl:(orderR s.g.ranks (firstsU s.g.u.v)).length≤400:=by
  have h1:=hperm.length_eq
  have h2:=firstsK_len s.g.u.v s.g.u.v.length
  have h3:(firstsU s.g.u.v).length≤s.g.u.v.length:=h2
  omega
 have hLm:∀ x,x∈orderR s.g.ranks (firstsU s.g.u.v)↔(0≤x∧x<nv)∧gi s.g.u.v x=x:=fun x=>by rw [hperm.mem_iff,mem_firsts,hlv]
 generalize orderR s.g.ranks (firstsU s.g.u.v)=L at *
 have hLA:L.length≤maxA:=by unfold maxA;omega
 simp (maxSteps:=3000000) [go_sem,-List.length_flatten,-List.map_drop,-List.map_take,c32]
 refine PF.call hord 9 (by simp [lePs,-List.length_flatten,-List.map_drop,-List.map_take,Function.comp_def,len_flat]) ?_
 simp (maxSteps:=3000000) [go_sem,-List.length_flatten,-List.map_drop,-List.map_take,Kc,hLA]
 refine run_loopK (fun r T H=>∃ k:Nat,r=L.length - k∧k≤L.length∧T=[(16,i64 k),(15,i64 L.length),(14,ints L),(3,.mapr 2 0),(1,.ptr 1 0 0)]∧H=[.cells 0 s.cs,.cells 0 s.cs,.map 0 (mapW s.a s.g (L.take k))])
  L.length [(16,i64 (0:Nat)),(15,i64 L.length),(14,ints L),(3,.mapr 2 0),(1,.ptr 1 0 0)] [.cells 0 s.cs,.cells 0 s.cs,.map 0 []]
  (Wk.sub (by simp [Tm.get])) ⟨0,rfl,Nat.zero_le _,rfl,by simp⟩ ?_
 rintro r T H ⟨k,rfl,hkL,rfl,rfl⟩ KK kx kr kn
 by_cases hkl:k<L.length
 ·have hknx:=nxt hkl hLA
  obtain ⟨v,hv⟩:∃ v,gi L k=v:=⟨_,rfl⟩
  have hvm:v∈L:=by rw [←hv];exact gi_mem hkl
  have hvi:=(hLm v).1 hvm
  obtain ⟨P,hP⟩:∃ P,gi s.g.pre v=P:=⟨_,rfl⟩
  have hPl:P.length≤400:=by
   have:=asc_len (N:=s.a.keys.length) (hk.gok.sp v hvi.1) (fun z hz=>hk.zin hvi.1 hz)
   rw [hP] at this
   omega
  have hPA:P.length≤maxA:=by unfold maxA;omega
  have hvn:v∉L.take k:=fun h=>by
   obtain ⟨j,j1,j2⟩:=at_mem h
   rw [List.length_take] at j1
   have e:gi (L.take k) j=gi L j:=by
    have hj:j<k:=by omega
    simp [gi,List.getD,List.getElem?_take,hj]
   rw [e] at j2
   have:=List.pairwise_iff_getElem.1 hsort j k (by omega) hkl (by omega)
   have e1:L[j]'(by omega)=v:=by rw [←j2];simp [gi,List.getD,show j<L.length by omega]
   have e2:L[k]=v:=by rw [←hv];simp [gi,List.getD,hkl]
   rw [e1,e2,lessR_irr] at this
   cases this
  have hahead:∀ w,w∈L→lessR s.g.ranks w v=true→w∈L.take k:=fun w hw hlt=>by
   obtain ⟨j,j1,j2⟩:=at_mem hw
   have e1:L[j]=w:=by rw [←j2];simp [gi,List.getD,j1]
   have e2:L[k]=v:=by rw [←hv];simp [gi,List.getD,hkl]
   have hjk:j<k:=by
    rcases Nat.lt_trichotomy j k with h|h|h
    ·exact h
    ·subst h
     rw [e1] at e2
     rw [e2,lessR_irr] at hlt
     cases hlt
    ·have:=List.pairwise_iff_getElem.1 hsort k j hkl j1 h
     rw [e1,e2] at this
     exact (lessR_no _ _ this hlt).elim
   rw [←e1]
   exact List.mem_take_iff_getElem.2 ⟨j,by omega,rfl⟩
  have hacc:=acc_is hk hvi.1
  rw [hP] at hacc
  simp (maxSteps:=3000000) [go_sem,-List.length_flatten,-List.map_drop,-List.map_take,hkl,hv,hvi,hlp,hP,hPA]
  refine run_loopK (fun r T H=>∃ i q:Nat,r=P.length - i∧i≤P.length∧T=[(27,i64 i),(26,i64 P.length),(25,ints P),(6,.loc 3 q 0 (accK s.a s.g P i).length 1 false),(5,i64 v),(16,i64 k),(15,i64 L.length),(14,ints L),(3,.mapr 2 0),(1,.ptr 1 0 0)] ∧
    H=[.cells 0 s.cs,.cells 0 s.cs,.map 0 (mapW s.a s.g (L.take k)),.cells q (i64s (accK s.a s.g P i))])
   P.length [(27,i64 (0:Nat)),(26,i64 P.length),(25,ints P),(6,.loc 3 0 0 0 1 false),(5,i64 v),(16,i64 k),(15,i64 L.length),(14,ints L),(3,.mapr 2 0),(1,.ptr 1 0 0)] [.cells 0 s.cs,.cells 0 s.cs,.map 0 (mapW s.a s.g (L.take k)),.cells 0 []]
   ((Wk.nil 6 1 (by simp [Tm.get])).trans (Wk.sub (by simp [Tm.get]))) ⟨0,0,rfl,Nat.zero_le _,rfl,rfl⟩ ?_
  rintro r T H ⟨i,q,rfl,hiP,rfl,rfl⟩ KI ix' ir inn
  by_cases hil:i<P.length
  ·have hinx:=nxt hil hPA
   obtain ⟨z,hz⟩:∃ z,gi P i=z:=⟨_,rfl⟩
   have hzm:z∈gi s.g.pre v:=by rw [hP,←hz];exact gi_mem hil
   have hkd:=hk.kds v hvi.1 z hzm
   have hac:accK s.a s.g P (i+1)=accK s.a s.g P i++if (termAt s.a z).1.kind=2 then blwW s.a s.g (fnd s.g.u.v (termAt s.a z).1.sym) else [z]:=by rw [←hz];rfl
   have hal:=accK_len s.a s.g P i
   have hil4:i*(s.a.keys.length+1)≤400*401:=Nat.mul_le_mul (by omega) (by omega)
   have htm:=termAt_PF s.a z
   have hacy:=hk.acy v hvi.1 z hzm
   have hsym:=hk.vok.sym z
   have hnv:=numOf_var (g:=s.g) hk.vok hk.gok.lv (x:=z)
   generalize hO1:accK s.a s.g P (i+1)=O1 at *
   generalize accK s.a s.g P i=O at *
   have hA1:O.length+1≤maxA:=by unfold maxA;omega
   have hap1:=i64s_app O z
   have next:∀ (q':Nat) (T':Tm) (b:ABlk),al (fun p=>T'.get p.1=p.2) [(27,i64 ((i+1:Nat):Int)),(26,i64 P.length),(25,ints P),(6,.loc 3 q' 0 O1.length 1 false),(5,i64 v),(16,i64 k),(15,i64 L.length),(14,ints L),(3,.mapr 2 0),(1,.ptr 1 0 0)] →
     KI .normal T' [.cells 0 s.cs,.cells 0 s.cs,.map 0 (mapW s.a s.g (L.take k)),.cells q' (i64s O1),b]:=by
    intro q' T' b hT
    refine inn _ _ (Kl_next (H':=[.cells 0 s.cs,.cells 0 s.cs,.map 0 (mapW s.a s.g (L.take k)),.cells q' (i64s O1)]) (P.length - (i+1)) 4 (by omega) ⟨i+1,q',rfl,hil,by rw [hO1],by rw [hO1]⟩ hT (by simp) (by simp) ⟨rlb_sy,rlb_sy,rlb_mapW,rlb_i64s,trivial⟩ (by omega))
   clear inn
   simp (maxSteps:=3000000) [go_sem,-List.length_flatten,-List.map_drop,-List.map_take,hil,hPA,hz]
   refine PF.call htm 9 (by simp [lePs,-List.length_flatten,-List.map_drop,-List.map_take,Function.comp_def,len_flat]) ?_
   generalize htt:(termAt s.a z).1=t at *
   by_cases k2:t.kind=2
   ·rw [if_pos k2] at hac
    have hs2:=(hsym k2).1
    have hfin:=hk.gok.fin hs2
    obtain ⟨w,hw⟩:∃ w,fnd s.g.u.v t.sym=w:=⟨_,rfl⟩
    have hwm:w∈L.take k:=by
     have h1:=hacy (by rw [hnv k2];exact hs2.1)
     rw [hnv k2,hw] at h1
     refine hahead w ((hLm w).2 ⟨by rw [←hw];exact hfin,?_⟩) h1
     rw [←hw]
     exact hk.gok.par.fix (by rw [hlv];exact hs2)
    have hfnd:=find33_PF s.g.u hk.gok.par (n:=t.sym) (by rw [hlv];exact hs2)
    have hlk:∀ b c e f,alkp false [.int .i64] .nilS false [b,c,.map 0 (mapW s.a s.g (L.take k)),e,f] (.mapr 2 0) (i64 w)=some (ints (blwW s.a s.g w)):=fun b c e f=>lkI rfl hwm
    rw [hw] at hac hfnd
    have hbl:=blwW_len s.a s.g w
    generalize blwW s.a s.g w=B at *
    have hBA:B.length≤maxA:=by unfold maxA;omega
    have hOB:O.length+B.length≤maxA:=by unfold maxA;omega
    simp (maxSteps:=3000000) [go_sem,-List.length_flatten,-List.map_drop,-List.map_take,Kc,k2]
    refine PF.call hfnd 9 (by simp [lePs,-List.length_flatten,-List.map_drop,-List.map_take,Function.comp_def,len_flat]) ?_
    by_cases hB0:B=[]
    ·simp (maxSteps:=3000000) [go_sem,-List.length_flatten,-List.map_drop,-List.map_take,Kc,↓hlk,hB0]
     intros
     have e1:O1=O:=by rw [hac,hB0,List.append_nil]
     subst e1
     refine next q _ _ ?_
     simp [Tm.get,hinx]
    ·have hapB:List.take O.length (i64s O)++(List.map (fun n=>[i64 n]) B).flatten=i64s O1:=by
      rw [List.take_of_length_le (by simp),flat_i64s,hac];simp
     have hl1:O1.length=O.length+B.length:=by rw [hac,List.length_append]
     simp (maxSteps:=3000000) [go_sem,-List.length_flatten,-List.map_drop,-List.map_take,Kc,↓hlk,hB0,hBA,hOB,↓hapB]
     intros
     refine next (q+1) _ _ ?_
     simp [Tm.get,hinx,hl1]
   ·rw [if_neg k2] at hac
    have hl1:O1.length=O.length+1:=by rw [hac];simp
    have e1:List.map (fun n=>AV.int IntKind.i64 n) O++[AV.int IntKind.i64 z]=i64s O1:=by rw [hac];simp
    by_cases k3:t.kind=3
    ·simp (maxSteps:=3000000) [go_sem,-List.length_flatten,-List.map_drop,-List.map_take,Kc,k3,hA1,↓hap1]
     intros
     rw [e1]
     refine next (q+1) _ _ ?_
     simp [Tm.get,hinx,hl1]
    ·have k1:t.kind=1:=by omega
     simp (maxSteps:=3000000) [go_sem,-List.length_flatten,-List.map_drop,-List.map_take,Kc,k1,hA1,↓hap1]
     intros
     rw [e1]
     refine next (q+1) _ _ ?_
     simp [Tm.get,hinx,hl1]
  ·have ei:P.length=i:=by omega
   rw [ei] at hacc
   have hac:=accK_len s.a s.g P i
   have hil4:i*(s.a.keys.length+1)≤400*401:=Nat.mul_le_mul (by omega) (by omega)
   generalize accK s.a s.g P i=O at *
   have hs57:=fun b c d=>sort57_FT (H:=[b,c,d,.cells q (i64s O)]) (k:=3) (g:=q) (l:=O) rfl
   have hlm:(sortI O).length=O.length:=List.length_mergeSort O
   have hs58:=fun b c d=>comp58_FT (H:=[b,c,d,.cells q (i64s (sortI O))]) (k:=3) (g:=q) (l:=sortI O) rfl
   rw [hlm] at hs58
   rw [hacc] at hs58
   have hup:=fun b c e x=>upI (H:=[b,c,.map 0 (mapW s.a s.g (L.take k)),e]) (i:=2) (g:=0) rfl hvn x
   simp (maxSteps:=3000000) [go_sem,-List.length_flatten,-List.map_drop,-List.map_take,hil,ix']
   refine (hs57 _ _ _).mono ?_
   rintro rv H' ⟨rfl,rfl⟩
   simp (maxSteps:=3000000) [go_sem,-List.length_flatten,-List.map_drop,-List.map_take,Kc]
   refine (hs58 _ _ _).mono ?_
   rintro rv H' ⟨rfl,zs,hzs,rfl⟩
   simp (maxSteps:=3000000) [go_sem,-List.length_flatten,-List.map_drop,-List.map_take,Kc,↓hup]
   have hch:=chunk_preI zs (blwW s.a s.g v)
   obtain ⟨CS,hCS⟩:∃ CS,i64s (blwW s.a s.g v++zs)=CS:=⟨_,rfl⟩
   have hfz:fz 3 q CS 9 (.loc 3 q 0 (blwW s.a s.g v).length 1 false)=ints (blwW s.a s.g v):=by
    rw [hCS] at hch
    have hCl:(blwW s.a s.g v).length≤CS.length:=by rw [←hCS];simp
    show (if 3=3∧q=q∧0+(blwW s.a s.g v).length*1≤CS.length then AV.rows false 1 (chunk 1 (CS.drop 0) (blwW s.a s.g v).length) else _)=_
    rw [if_pos ⟨rfl,rfl,by omega⟩,List.drop_zero,hch]
   have e1:List.map (fun n=>AV.int IntKind.i64 n) (blwW s.a s.g v)++List.map (fun n=>AV.int IntKind.i64 n) zs=CS:=by rw [←hCS];simp
   have etk:mapW s.a s.g (L.take (k+1))=mapW s.a s.g (L.take k)++[(i64 v,ints (blwW s.a s.g v))]:=by
    have hv':L[k]=v:=by rw [←hv];simp [gi,List.getD,hkl]
    rw [List.take_succ_eq_append_getElem hkl,hv']
    simp [mapW]
   refine kn _ _ ⟨L.length - (k+1),_,_,by omega,(Wk.fz 3 9 rfl).trans (Wk.tell (T':=[(16,i64 ((k+1:Nat):Int)),(15,i64 L.length),(14,ints L),(3,.mapr 2 0),(1,.ptr 1 0 0)]) (H':=[.cells 0 s.cs,.cells 0 s.cs,.map 0 (mapW s.a s.g (L.take (k+1)))]) 3 (by omega) (by simp [Tm.get,fzT,fz,hknx]) (by simp) ?_ ⟨rlb_sy,rlb_sy,rlb_mapW,trivial⟩),k+1,rfl,hkl,rfl,rfl⟩
   rw [e1,etk,←hfz]
   exact rows_fz
 ·have ek:L.length=k:=by omega
  simp (maxSteps:=3000000) [go_sem,-List.length_flatten,-List.map_drop,-List.map_take,hkl,kx]
  rw [List.take_of_length_le (by omega)]
end
noncomputable abbrev tblW (a:Kd) (g:Gr) (nv:Nat):List (List Int):=(List.range nv).map fun v:Nat=>blwW a g (fnd g.u.v v)
def tbC (L:List (List Int)) (k:Nat):List AV:=(L.take k).map ints++List.replicate (L.length - k) .nilS
theorem tbC_len {L:List (List Int)} {k:Nat} (hk:k≤L.length):(tbC L k).length=L.length:=by simp [tbC];omega
theorem tbC_set {L:List (List Int)} {k:Nat} (hk:k<L.length):(tbC L k).set k (ints (L[k]))=tbC L (k+1):=by
 unfold tbC
 have hl:((L.take k).map ints).length=k:=by simp;omega
 rw [List.set_append_right _ _ (by omega),hl,Nat.sub_self]
 obtain ⟨d,hd⟩:∃ d,L.length - k=d+1:=⟨L.length - k - 1,by omega⟩
 rw [hd,List.replicate_succ,List.set_cons_zero,show L.length - (k+1)=d by omega,List.take_succ_eq_append_getElem hk,List.map_append,List.append_assoc]
 rfl
theorem tbC_full (L:List (List Int)):tbC L L.length=L.map ints:=by simp [tbC]
theorem tblW_len (a:Kd) (g:Gr) (nv:Nat):(tblW a g nv).length=nv:=by simp
section
variable {l:List Sg} {nv:Nat} {s:Sy}
set_option maxHeartbeats 1000000 in
theorem table14_PF (hk:Lk l s.a nv s.g) (hn:nv≤400):PF Tryz.prog 14 [.agg s.cs] (intss (tblW s.a s.g nv)):=by
 refine PFk 9 hm Tryz.func14 c14_ok (Nat.le_of_ble_eq_true rfl) (by simp) (by simp) ?_
 generalize hQ:Rle 9 (intss (tblW s.a s.g nv))=Q
 have hlv:=hk.gok.lv
 have hnA:nv≤maxA:=by unfold maxA;omega
 have hmk:=mk_rows (n:=nv) (by omega)
 have hLm:∀ x,x∈orderR s.g.ranks (firstsU s.g.u.v)↔(0≤x∧x<nv)∧gi s.g.u.v x=x:=fun x=>by rw [(orderR_spec s.g.ranks (firsts_nodup s.g.u.v)).1.mem_iff,mem_firsts,hlv]
 have hft:=rows32_FT hk hn
 generalize orderR s.g.ranks (firstsU s.g.u.v)=L at *
 simp (maxSteps:=3000000) [go_sem,-List.length_flatten,-List.map_drop,-List.map_take,c14]
 refine hft.mono ?_
 rintro rv H' ⟨rfl,rfl⟩
 simp (maxSteps:=3000000) [go_sem,-List.length_flatten,-List.map_drop,-List.map_take,Kc,hlv,hmk,hnA]
 have hfs:=fun n (h:0≤n∧n<((nv:Nat):Int))=>find33_PF s.g.u hk.gok.par (n:=n) (by rw [hlv];exact h)
 have hWl:=tblW_len s.a s.g nv
 have hWg:∀ k,(h:k<nv)→(tblW s.a s.g nv)[k]'(by rw [hWl];exact h)=blwW s.a s.g (fnd s.g.u.v k):=fun k h=>by simp
 generalize tblW s.a s.g nv=W at *
 refine run_loopK (fun r T H=>∃ k:Nat,r=nv - k∧k≤nv∧T=[(16,i64 k),(15,i64 nv),(4,.loc 3 0 0 nv 1 false),(3,.mapr 2 0),(1,.ptr 0 0 0)]∧H=[.cells 0 s.cs,.cells 0 s.cs,.map 0 (mapW s.a s.g L),.cells 0 (tbC W k)])
  nv [(16,i64 (0:Nat)),(15,i64 nv),(4,.loc 3 0 0 nv 1 false),(3,.mapr 2 0),(1,.ptr 0 0 0)] [.cells 0 s.cs,.cells 0 s.cs,.map 0 (mapW s.a s.g L),.cells 0 (List.replicate nv .nilS)]
  (Wk.sub (by simp [Tm.get])) ⟨0,rfl,Nat.zero_le _,rfl,by simp [tbC,hWl]⟩ ?_
 rintro r T H ⟨k,rfl,hkL,rfl,rfl⟩ KK kx kr kn
 by_cases hkl:k<nv
 ·have hknx:=nxt hkl hnA
  have hf:=hfs k (by omega)
  have hfin:=hk.gok.fin (show 0≤(k:Int)∧(k:Int)<nv by omega)
  have hwm:fnd s.g.u.v k∈L:=(hLm _).2 ⟨hfin,hk.gok.par.fix (by rw [hlv];omega)⟩
  have hlk:∀ b c e,alkp false [.int .i64] .nilS false [b,c,.map 0 (mapW s.a s.g L),e] (.mapr 2 0) (i64 (fnd s.g.u.v k))=some (ints (blwW s.a s.g (fnd s.g.u.v k))):=fun b c e=>lkI rfl hwm
  have hset:=tbC_set (L:=W) (k:=k) (by omega)
  rw [hWg k hkl] at hset
  have htl:=tbC_len (L:=W) (k:=k) (by omega)
  simp (maxSteps:=3000000) [go_sem,-List.length_flatten,-List.map_drop,-List.map_take,hkl]
  refine PF.call hf 9 (by simp [lePs,-List.length_flatten,-List.map_drop,-List.map_take,Function.comp_def,len_flat]) ?_
  simp (maxSteps:=3000000) [go_sem,-List.length_flatten,-List.map_drop,-List.map_take,Kc,↓hlk,htl,hWl,hkl,↓hset]
  exact ⟨by omega,kn _ _ (Kl_sub (nv - (k+1)) ⟨k+1,rfl,by omega,rfl,rfl⟩ (by simp [Tm.get,hknx]) (by omega))⟩
 ·have ek:nv=k:=by omega
  have hfull:=tbC_full W
  rw [hWl] at hfull
  subst ek
  simp (maxSteps:=3000000) [go_sem,-List.length_flatten,-List.map_drop,-List.map_take,hkl,kx]
  rw [←hQ]
  unfold Rle
  rw [frzR (k:=5) W (by rw [hfull];rfl) hWl.symm]
  exact leP_refl _ _
theorem below22_PF (hk:Lk l s.a nv s.g) (hn:nv≤400) {v:Int} (hv:0≤v∧v<nv):PF Tryz.prog 22 [.agg s.cs,i64 v] (ints (blwW s.a s.g (fnd s.g.u.v v))):=by
 refine PFk 9 hm Tryz.func22 c22_ok (Nat.le_of_ble_eq_true rfl) (by simp) (by simp) ?_
 generalize hQ:Rle 9 (ints (blwW s.a s.g (fnd s.g.u.v v)))=Q
 have ht:=table14_PF hk hn
 obtain ⟨k,rfl⟩:∃ k:Nat,v=k:=⟨v.toNat,by omega⟩
 have hkl:k<nv:=by omega
 have hWl:=tblW_len s.a s.g nv
 have hWg:gi (tblW s.a s.g nv) k=blwW s.a s.g (fnd s.g.u.v k):=by simp [gi,List.getD,hkl]
 generalize tblW s.a s.g nv=W at *
 simp (maxSteps:=3000000) [go_sem,-List.length_flatten,-List.map_drop,-List.map_take,c22]
 refine PF.call ht 9 (by simp [lePs,-List.length_flatten,-List.map_drop,-List.map_take,Function.comp_def,len_flat]) ?_
 simp (maxSteps:=3000000) [go_sem,-List.length_flatten,-List.map_drop,-List.map_take,Kc,hWl,hkl,hWg]
 rw [←hQ]
 simp (maxSteps:=3000000) [go_sem,-List.length_flatten,-List.map_drop,-List.map_take,Rle,frz,leP]
end
theorem c19_ok:cFn Tryz.prog an0 Tryz.f19=some c19:=by kernel_rfl
theorem notIn_gives {b:List Int} (hl:b.length≤100000000) (hs:b.Pairwise (·≤·)) (X:Nat→Prop) (W:World) (u:Value) (hu:VR X [] W (.rptr [ints b]) u) (x:Int):Go.Proofs.FnGives Tryz.prog 42 #[u] #[.int .i64 x] (.bool (!b.contains x)) W:=by
 cases hu with
 | rptr _ ad f hL hcell hv =>
  have h0:=hcell 0 (by simp)
  have hv0:=hv 0 (by simp)
  simp only [List.getElem_cons_zero] at hv0
  generalize f 0=v0 at *
  have key:∃ a c,v0=.slice a b.length c∧(0<b.length→∃ B' o',a=some ⟨B',o',none⟩∧∀ j,j<b.length→W.cell? ⟨B',o'+j,none⟩=some (.int .i64 (b.getD j 0))):=by
   generalize he:(b.map fun n=>[i64 n])=es at hv0
   cases hv0 with
   | rows _ _ _ a c ad' f' q1 q2 q3 q4 q5 q6 q7 q8 =>
    subst he
    simp only [List.length_map] at q5 q7 q8
    refine ⟨a,c,by simp,fun hb=>⟨ad'.block,ad'.off,q5 hb,fun j hj=>?_⟩⟩
    have h1:=q7 j 0 hj (by omega)
    have h2:=q8 j hj 0 (by simp)
    simp only [List.getElem_map,List.getElem_cons_zero] at h2
    simp only [Nat.mul_one,Nat.add_zero] at h1
    rw [h1]
    generalize f' j 0=y at *
    cases h2
    simp [List.getD,hj]
  obtain ⟨a,c,rfl,hk⟩:=key
  exact Go.Proofs.Tryz.not_in W ad.block ad.off a c b x (by simpa using h0) hk (by omega) hs
def env65:FuncId→Option AFn:=fun f=>match f with
 | 65=>some c65
 | _=>none
theorem env65Ok:EnvOk Tryz.prog env65:=by
 intro f af h
 unfold env65 at h
 split at h
 ·injection h with h;subst h;exact ⟨_,_,(show Tryz.prog.funcs[65]?=some Tryz.f65 from rfl),c65_ok⟩
 ·cases h
theorem frzZ (X zs:List Int) {H:AHeap} {i g n k:Nat} (h:H[i]?=some (.cells g (i64s (X++zs)))) (hn:n=X.length):frz true H (k+2) (.loc i g 0 n 1 false)=ints X:=by
 subst hn
 have hc:=chunk_preI zs X
 have hl:X.length≤(i64s (X++zs)).length:=by simp
 rw [frz_loc,h]
 generalize i64s (X++zs)=CS at *
 simp [hc,hl]
theorem index65E (c:Bool):PF Tryz.prog 65 [.rows c 1 [],.any] (i64 (-1)):=by
 cases c
 ·exact PF_eval hm env65Ok (fun _=>false) 60 30 rfl (by kernel_rfl)
 ·exact PF_eval hm env65Ok (fun _=>false) 60 30 rfl (by kernel_rfl)
theorem del41E (c:Bool):PF Tryz.prog 41 [.rows c 1 [],.any] (.rows false 1 []):=by
 refine PFk 9 hm Tryz.func41 c41_ok (Nat.le_of_ble_eq_true rfl) (by simp) (by simp) ?_
 simp (maxSteps:=3000000) [go_sem,-List.length_flatten,-List.map_drop,-List.map_take,c41b]
 refine PF.call (index65E c) 9 (by simp [lePs,-List.length_flatten,-List.map_drop,-List.map_take,Function.comp_def,len_flat]) ?_
 simp (maxSteps:=3000000) [go_sem,-List.length_flatten,-List.map_drop,-List.map_take,Kc]
 skip
theorem del41_FT {H:AHeap} {k g j gj:Nat} {l b:List Int} (hbl:b.length≤100000000) (hs:b.Pairwise (·≤·)) (h0:0<l.length) (h:H[k]?=some (.cells g (i64s l))) (hj:H[j]?=some (.cells gj [ints b])) (hne:k≠j) :
  FT Tryz.prog 41 [.loc k g 0 l.length 1 false,.fn (.func 42) [] [.ptr j gj 0]] H fun rv H'=>rv=.loc k g 0 (l.filter fun x=>!!b.contains x).length 1 false∧∃ zs:List Int,zs.length=l.length - (l.filter fun x=>!!b.contains x).length∧H'=H.set k (.cells g (i64s ((l.filter fun x=>!!b.contains x)++zs))):=by
 refine delI_FT (b0:=.rptr [ints b]) (p:=fun x=>!b.contains x) call41 (notIn_gives hbl hs) (fun lb blk off cap d w hp hpo hH hs hc=>Go.Proofs.Tryz.slices_DeleteFunc (Value.int .i64) oneI (fun x=>!b.contains x) 42 lb (callFunc_run call42) 0 ?_ blk off cap d w hp hpo hH hs hc) h0 h 9 9 fun ys _=>?_
 ·exact fun w=>rfl
 ·have e:(H.set k (.cells g (i64s ys)))[j]?=some (.cells gj [ints b]):=by rw [List.getElem?_set_ne hne,hj]
  simp [frz,e,leP,lePs]
abbrev bothL (a b:List Int):List Int:=a.filter fun x=>b.contains x
theorem both19_PF (a b:List Int) (ha:a.length≤100000000) (hb:b.length≤100000000) (hs:b.Pairwise (·≤·)):PF Tryz.prog 19 [ints a,ints b] (ints (bothL a b)):=by
 refine PFk 9 hm Tryz.func19 c19_ok (Nat.le_of_ble_eq_true rfl) (by simp) (by generalize bothL a b=B;simp) ?_
 generalize hQ:Rle 9 (ints (bothL a b))=Q
 by_cases h0:a=[]
 ·subst h0
  have hc:=clone_PF []
  simp (maxSteps:=3000000) [go_sem,-List.length_flatten,-List.map_drop,-List.map_take,c19]
  refine PF.call hc 9 (by simp [lePs,-List.length_flatten,-List.map_drop,-List.map_take,Function.comp_def,len_flat]) ?_
  simp (maxSteps:=3000000) [go_sem,-List.length_flatten,-List.map_drop,-List.map_take,Kc]
  refine PF.call (del41E false) 9 (by simp [lePs,-List.length_flatten,-List.map_drop,-List.map_take,Function.comp_def,len_flat]) ?_
  simp (maxSteps:=3000000) [go_sem,-List.length_flatten,-List.map_drop,-List.map_take,Kc]
  rw [←hQ]
  simp (maxSteps:=3000000) [go_sem,-List.length_flatten,-List.map_drop,-List.map_take,Rle,frz,leP,bothL]
 ·have hc:=fun H=>clone48F a h0 ha H
  simp (maxSteps:=3000000) [go_sem,-List.length_flatten,-List.map_drop,-List.map_take,c19]
  refine (hc _).mono ?_
  rintro rv H' ⟨rfl,rfl⟩
  simp (maxSteps:=3000000) [go_sem,-List.length_flatten,-List.map_drop,-List.map_take,Kc]
  refine (del41_FT (k:=1) (j:=0) hb hs (List.length_pos_iff.2 h0) rfl rfl (by decide)).mono ?_
  rintro rv H' ⟨rfl,zs,hz,rfl⟩
  have eb:(a.filter fun x=>!!b.contains x)=bothL a b:=by simp [bothL]
  rw [eb]
  generalize bothL a b=B at *
  simp (maxSteps:=3000000) [go_sem,-List.length_flatten,-List.map_drop,-List.map_take,Kc]
  rw [←hQ]
  unfold Rle
  rw [frzZ (k:=7) B zs (by simp) rfl]
  exact leP_refl _ _
theorem c11_ok:cFn Tryz.prog an0 Tryz.f11=some c11:=by kernel_rfl
def shX:Nd:=⟨2,⟨#[88]⟩,0⟩
def shY:Nd:=⟨2,⟨#[89]⟩,0⟩
def shA:Nd:=⟨3,⟨#[97]⟩,0⟩
def shC:Cz:=⟨[⟨⟨#[97]⟩,⟨#[]⟩⟩],[⟨[shA],[shX]⟩,⟨[shX],[shY]⟩],[],0⟩
theorem sh_load:loadC shC.sigs shC.l=((loadC shC.sigs shC.l).1,[⟨#[88]⟩,⟨#[89]⟩],[(2,3),(3,4)],true):=by kernel_rfl
theorem sh_sig:sigRight shC.sigs=true:=by kernel_rfl
abbrev shE:Sy:=(runN (mdC shC) 100 (mdC shC)).1
theorem sh_pre:shE.g.pre=[[2],[3]]:=by kernel_rfl
theorem sh_v:shE.g.u.v=[0,1]:=by kernel_rfl
theorem sh_keysC:(stC shC).keys=[[0,0,0],[1,0,0],[3,0,0],[2,0,0],[2,1,0]]:=by kernel_rfl
theorem sh_names:(nmC shC).length=2:=by kernel_rfl
theorem sh_ps:psC shC=[(2,3),(3,4)]:=by kernel_rfl
theorem rightN_one {x:Nd} (h1:ndMay x=true) (h2:partsN x=0) (h3:(enN [x] 0).d≤40):rightN [x]=true:=by
 have k1:ndsMay [x]:=fun i hi=>by
  obtain rfl:i=0:=by have:i<1:=hi;omega
  refine ⟨h1,?_⟩
  show partsN x≤_
  rw [h2]
  omega
 have k2:(stk [x] [x].length).length=1:=by
  show (stk [x] 1).length=1
  rw [stk,stk]
  simp
 unfold rightN
 simp only [k2,k1,show [x].length - 1=0 from rfl,h3,decide_true,Bool.and_self]
theorem sh_rA:rightN [shA]=true:=rightN_one (by kernel_rfl) (by decide) (by decide)
theorem sh_rX:rightN [shX]=true:=rightN_one (by kernel_rfl) (by decide) (by decide)
theorem sh_rY:rightN [shY]=true:=rightN_one (by kernel_rfl) (by decide) (by decide)
theorem sh_okC:LoadedC shC:=by
 refine ⟨⟨by decide,sh_sig,by decide,by decide,by decide,fun i hi=>?_⟩,by kernel_rfl⟩
 have:i=0∨i=1:=by
  have:i<2:=hi
  omega
 rcases this with rfl|rfl
 ·exact ⟨by decide,by kernel_rfl,by kernel_rfl,sh_rA,sh_rX⟩
 ·exact ⟨by decide,by kernel_rfl,by kernel_rfl,sh_rX,sh_rY⟩
theorem sh_fit:FitC shC:=by
 refine ⟨fun i hi=>?_,fun i hi=>?_⟩
 ·have:i=0:=by
   have:i<1:=hi
   omega
  subst this
  decide
 ·have:i=0∨i=1:=by
   have:i<2:=hi
   omega
  rcases this with rfl|rfl
  ·refine ⟨by decide,fun j hj=>?_,fun j hj=>?_⟩
   ·obtain rfl:j=0:=by have:j<1:=hj;omega
    decide
   ·obtain rfl:j=0:=by have:j<1:=hj;omega
    decide
  ·refine ⟨by decide,fun j hj=>?_,fun j hj=>?_⟩
   ·obtain rfl:j=0:=by have:j<1:=hj;omega
    decide
   ·obtain rfl:j=0:=by have:j<1:=hj;omega
    decide
theorem sh_run:runN (mdC shC) 100 (mdC shC)=(shE,0)∧Lk shE.sigs shE.a 2 shE.g:=by
 have hi:=sh_okC.inv.1
 have hm:=mdC_same sh_okC
 have hk:(mdC shC).a.keys.length=5:=by rw [hm.2.1,sh_keysC];rfl
 obtain ⟨t,t1,t2,_⟩:=SInv.run (mdC shC) 100 hi (by rw [hk,hm.2.2];omega)
 have e:shE=t:=by show (runN (mdC shC) 100 (mdC shC)).1=t;rw [t1]
 rw [e]
 refine ⟨t1,?_⟩
 have:=t2.lk
 rwa [sh_names] at this
theorem sh_term:(termAt shE.a 2).1.kind=3∧(termAt shE.a 3).1.kind=2∧numOf shE.a shE.g 3=0∧numOf shE.a shE.g 2=-1:=⟨by kernel_rfl,by kernel_rfl,by kernel_rfl,by kernel_rfl⟩
theorem sh_f:fnd shE.g.u.v 1=1∧fnd shE.g.u.v 0=0:=by rw [sh_v];exact ⟨by decide,by decide⟩
theorem sh_blw:blwW shE.a shE.g (fnd shE.g.u.v 1)=[2]:=by
 refine rise_int (blwW_rise _ _ _) (by simp) fun x=>?_
 rw [sh_f.1,mem_blwW sh_run.2 (by decide)]
 have p1:gi shE.g.pre 1=[3]:=by rw [sh_pre];rfl
 have p0:gi shE.g.pre 0=[2]:=by rw [sh_pre];rfl
 have b0:∀ y,Blw shE.a shE.g y 0↔y=2:=fun y=>by
  constructor
  ·intro h
   cases h with
   | base h1 _=>rw [p0] at h1;simpa using h1
   | step h1 h2 _ =>
    rw [p0] at h1
    have:=sh_term.2.2.2
    rw [List.mem_singleton] at h1
    rw [h1] at h2
    omega
  ·rintro rfl
   exact .base (by rw [p0];simp) (by rw [sh_term.2.2.2];decide)
 constructor
 ·intro h
  cases h with
  | base h1 h2 =>
   rw [p1,List.mem_singleton] at h1
   rw [h1,sh_term.2.2.1] at h2
   omega
  | step h1 h2 h3 =>
   rw [p1,List.mem_singleton] at h1
   rw [h1,sh_term.2.2.1,sh_f.2,b0] at h3
   simpa using h3
 ·intro h
  rw [List.mem_singleton] at h
  subst h
  exact .step (z:=3) (by rw [p1];simp) (by rw [sh_term.2.2.1];decide) (by rw [sh_term.2.2.1,sh_f.2,b0])
theorem sh_order:(orderR shE.g.ranks (firstsU shE.g.u.v)).length=2:=by
 rw [(orderR_spec _ (firsts_nodup _)).1.length_eq,sh_v]
 decide
theorem sh_both:bothL [1,2,5] [2,5,7]=[2,5]:=by decide
theorem shown11_PF:PF Tryz.prog 11 [] (.bool true):=by
 refine PFk 9 hm Tryz.func11 c11_ok (Nat.le_of_ble_eq_true rfl) (by simp) (by simp) ?_
 generalize hQ:Rle 9 (AV.bool true)=Q
 have h1:=sh_okC.small.load
 rw [sh_load] at h1
 have h2:=made30_PF sh_okC sh_fit
 rw [sh_ps] at h2
 have h3:=run29_PF (mdC shC) sh_okC.inv.1 sh_okC.lok.names (mdC_same sh_okC).2.2 100 (by decide)
 rw [sh_run.1] at h3
 have h4:=below22_PF sh_run.2 (by decide) (v:=1) (by decide)
 rw [sh_blw] at h4
 have h5:=both19_PF [1,2,5] [2,5,7] (by decide) (by decide) (by decide)
 rw [sh_both] at h5
 have h6:PF Tryz.prog 17 [.agg shE.g.cs] _:=order17_PF shE.g (by rw [sh_v];decide)
 have h7:=table14_PF sh_run.2 (by decide)
 have ho:=sh_order
 have ht:=tblW_len shE.a shE.g 2
 generalize orderR shE.g.ranks (firstsU shE.g.u.v)=O at *
 generalize tblW shE.a shE.g 2=W at *
 generalize shE=E at *
 generalize mdC shC=M at *
 have e1:(loadC shC.sigs shC.l).1=stC shC:=rfl
 rw [e1] at h1
 generalize stC shC=S at *
 have hcs:shC.cs=[sigs [⟨⟨#[97]⟩,⟨#[]⟩⟩],cns [⟨[shA],[shX]⟩,⟨[shX],[shY]⟩],ints [],i64 0]:=rfl
 rw [hcs] at h1 h2
 simp (maxSteps:=3000000) [go_sem,-List.length_flatten,-List.map_drop,-List.map_take,c11]
 refine FT.dcl 9 (PF.call h1 9 (by simp [lePs,leP,shA,shX,shY,dcl]) ?_)
 simp (maxSteps:=3000000) [go_sem,-List.length_flatten,-List.map_drop,-List.map_take,Kc]
 refine FT.dcl 9 (PF.call h2 9 (by simp [lePs,leP,shA,shX,shY,dcl]) ?_)
 simp (maxSteps:=3000000) [go_sem,-List.length_flatten,-List.map_drop,-List.map_take,Kc]
 refine PF.call h3 9 (by simp [lePs,-List.length_flatten,-List.map_drop,-List.map_take,Function.comp_def,len_flat]) ?_
 simp (maxSteps:=3000000) [go_sem,-List.length_flatten,-List.map_drop,-List.map_take,Kc]
 refine PF.call h4 9 (by simp [lePs,-List.length_flatten,-List.map_drop,-List.map_take,Function.comp_def,len_flat]) ?_
 simp (maxSteps:=3000000) [go_sem,-List.length_flatten,-List.map_drop,-List.map_take,Kc]
 refine PF.call h5 9 (by simp [lePs,-List.length_flatten,-List.map_drop,-List.map_take,Function.comp_def,len_flat]) ?_
 have g1:gi [((2:Int),(3:Int)),(3,4)] 0=(2,3):=rfl
 have g2:gi [(2:Int)] 0=2:=rfl
 simp (maxSteps:=3000000) [go_sem,-List.length_flatten,-List.map_drop,-List.map_take,Kc,aIarr,aint,g1,g2]
 refine fun _ _=>⟨_,h6,?_⟩
 simp (maxSteps:=3000000) [go_sem,-List.length_flatten,-List.map_drop,-List.map_take,Kc,ho]
 refine fun _=>⟨_,h7,?_⟩
 simp (maxSteps:=3000000) [go_sem,-List.length_flatten,-List.map_drop,-List.map_take,Kc,ht]
 rw [←hQ]
 simp (maxSteps:=3000000) [go_sem,-List.length_flatten,-List.map_drop,-List.map_take,Rle,frz,leP]
end Go.AM
