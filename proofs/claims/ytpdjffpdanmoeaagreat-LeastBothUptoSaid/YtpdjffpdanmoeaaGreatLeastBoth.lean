/- The row of LeastBoth: whatever comes in, of bulk at most 1048576, the law answers true. -/
import Derived.Test.YtpdjffpdanmoeaaGreatRows
import Derived.Test.YtpdjffpdanmoeaaGreatL8
import Derived.WalkKit
import Derived.ProofKit
import Derived.OpenShut
import Derived.JoinedCond
namespace Go.Proofs.YtpdjffpdanmoeaaGreat.leastBoth
open Go.ChangeShapes Go.WideShapes Go.ChangeAt Go.RowKit Go.AM
set_option linter.unusedVariables false
set_option linter.unusedSimpArgs false
theorem own:ownKnob Tryz.prog.godebug=none:=by kernel_rfl
theorem laidOut:laidOutB Tryz.prog=true:=by kernel_rfl
theorem part_le {H:Type} {d:DataW H} {l:List (DataW H)} (h:d∈l):Rows.uptoBulk d≤Rows.uptoBulkAll l:=by
 induction l with
 | nil=>cases h
 | cons x r ih =>
  simp only [Rows.uptoBulkAll]
  cases List.mem_cons.1 h with
  | inl e=>subst e;omega
  | inr e=>have:=ih e;omega
theorem one_le {H:Type} (d:DataW H):1≤Rows.uptoBulk d:=by
 cases d with
 | lit l=>cases l<;>simp [Rows.uptoBulk]
 | _=>simp [Rows.uptoBulk]
theorem length_le {H:Type} (l:List (DataW H)):l.length≤Rows.uptoBulkAll l:=by
 induction l with
 | nil=>simp [Rows.uptoBulkAll]
 | cons x r ih=>have:=one_le x;simp only [Rows.uptoBulkAll,List.length_cons];omega
theorem bulk {H:Type}:Bulk (Rows.uptoBulk (H:=H)) where
 str bs:=by simp [Rows.uptoBulk]
 len es sp:=by have:=length_le es;simp only [Rows.uptoBulk];omega
 el es sp e h:=by have:=part_le h;simp only [Rows.uptoBulk];omega
 part ps p h:=by have:=part_le h;simp only [Rows.uptoBulk];omega
set_option maxRecDepth 100000 in
theorem contract (H:Type) (enc:TypeId×Value→H) (W:World) (base:Nat) (args:Array Value) (ds gs:List (DataW H)) (before:List MemPlace)
  (hval:∀ (j:Nat) t v,Tryz.f10.params[j]?=some t→args[j]?=some v→Value.okWide Tryz.prog W .any base t v)
  (hW:DataW.Whole enc Tryz.prog Tryz.f10.params.toList Rows.leastBothSpec.vars false W args.toList ds gs before) (hk:Rows.uptoSmall H (ds++gs)=true) :
  Calls Tryz.prog 10 args W fun e W'=>∃ v,e=.returned v∧Rows.leastBothSpec.post enc Tryz.prog Tryz.f10 false true false false W args v W':=by
 have hW':=hW
 obtain ⟨p,q,hA0,hV,rfl,hfz,hnd⟩:=hW
 have hA:DataW.TrodAll enc Tryz.prog W 0 (fun _=>true) true Tryz.f10.params.toList args.toList ds p:=hA0
 rw [Tryz.params10] at hA hval
 obtain ⟨v0,vs0,d0,ds0,p0,q0,hargs,rfl,rfl,h0,r0⟩:=trodAll_cons hA
 obtain ⟨v1,vs1,d1,ds1,p1,q1,rfl,rfl,rfl,h1,r1⟩:=trodAll_cons r0
 obtain ⟨rfl,rfl,rfl⟩:=trodAll_nil r1
 obtain rfl:args=#[v0,v1]:=by cases args;simp_all
 obtain ⟨rfl,rfl⟩:=trodVars_none hV
 have lt0:∀ x∈p0,x.block<W.heap.size:=by obtain ⟨m,hm⟩:=h0;exact DataW.trod_lt m _ _ _ hm
 have lt1:∀ x∈p1,x.block<W.heap.size:=by obtain ⟨m,hm⟩:=h1;exact DataW.trod_lt m _ _ _ hm
 clear hA0
 simp only [List.append_nil] at hW' hk
 have hb0:Rows.uptoBulk d0≤lim:=by
  have h:Rows.uptoBulkAll [d0,d1]≤1048576:=of_decide_eq_true hk
  simp only [Rows.uptoBulkAll] at h
  unfold lim
  omega
 obtain ⟨a0,his0,hrl0,hvr0⟩:=trod_argW bulk tyInts false (by kernel_rfl) (by first|exact .inl rfl|exact .inr rfl) (by kernel_rfl) (hval 0 _ _ rfl rfl) h0 hb0
 have hb1:Rows.uptoBulk d1≤lim:=by
  have h:Rows.uptoBulkAll [d0,d1]≤1048576:=of_decide_eq_true hk
  simp only [Rows.uptoBulkAll] at h
  unfold lim
  omega
 obtain ⟨a1,his1,hrl1,hvr1⟩:=trod_argW bulk tyInts false (by kernel_rfl) (by first|exact .inl rfl|exact .inr rfl) (by kernel_rfl) (hval 1 _ _ rfl rfl) h1 hb1
 simp only [Ty.arg,Bool.false_eq_true,if_false] at his0 his1
 obtain ⟨p,e0,fp⟩:=is_ints his0
 obtain ⟨q,e1,fq⟩:=is_ints his1
 cases e0
 cases e1
 refine (FT.plain (law10_PF p q fp.1 fq.1) (vals:=#[v0,v1]) ⟨rfl,fun j hj hj'=>?_⟩).mono ?_
 ·match j,hj with
  | 0,_=>exact hvr0
  | 1,_=>exact hvr1
 rintro e W' ⟨v,rfl,hv,bel⟩
 obtain rfl:=hv true rfl
 exact ⟨_,rfl,_,_,_,[],_,[],hW',trodAll_mk1 (shut_bool Tryz.underlying4 _),(trodAll_cons_mk (Below.trod laidOut (by kernel_rfl) (of_decide_eq_true (by kernel_rfl)) h0 bel lt0) (trodAll_cons_mk (Below.trod laidOut (by kernel_rfl) (of_decide_eq_true (by kernel_rfl)) h1 bel lt1) trodAll_mk0)),rfl,bel.frame _,fun h=>by cases h⟩
set_option maxRecDepth 100000 in
theorem lifted (os:Os) (started:os.Started) (H:Type) (enc:TypeId×Value→H) (F:Stop.Interp) :
  ReturnsInHanded {} Tryz.checked os 10 .any ((Rows.OpenSpec.upto Rows.leastBothSpec).pre6 enc Tryz.prog Tryz.f10 Rows.leastBothUptoRow.domain false) (((Rows.OpenSpec.upto Rows.leastBothSpec).at F).post enc Tryz.prog Tryz.f10 false true false false):=by
 refine returnsInHanded_of_cond (C:=Tryz.checked) (s:=Rows.OpenSpec.upto Rows.leastBothSpec) (k:=Rows.uptoSmall) rfl own started (by kernel_rfl) Tryz.func10
  (OpenSpec.witness (enc:=enc) (C:=Tryz.checked) (s:=Rows.OpenSpec.upto Rows.leastBothSpec) (k:=Rows.uptoSmall) rfl false ⟨#[],#[.slice none 0 0,.slice none 0 0],[]⟩ 8 (by kernel_rfl) (by kernel_rfl) (by kernel_rfl)
   (x:=([.nil,.nil],[],[])) (by kernel_rfl) rfl (by kernel_rfl)) ?_
 intro W base args ds gs before hval hW _ hk _
 exact contract H enc W base args ds gs before hval hW hk
theorem proved:Rows.LeastBothUptoSaid :=
 OpenClaim.holds_of_cond 10 Tryz.f10 rfl rfl rfl rfl rfl rfl rfl ⟨rfl,rfl,rfl,rfl,rfl⟩ rfl rfl rfl rfl rfl (by kernel_rfl) Tryz.func10 (by kernel_rfl)
  (of_decide_eq_true (by kernel_rfl)) (by unfold Func.isWrapper;first|(rw [if_pos (by decide +kernel)];kernel_rfl)|(rw [if_neg (by decide +kernel)];exact ⟨rfl,rfl⟩))
  (fun os started H enc _ F=>lifted os started H enc F)
end Go.Proofs.YtpdjffpdanmoeaaGreat.leastBoth
