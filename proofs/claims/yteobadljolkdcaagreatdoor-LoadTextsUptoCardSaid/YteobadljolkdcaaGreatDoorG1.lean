/- Contracts of the program's functions. -/
import Derived.Test.YteobadljolkdcaaGreatDoorProg
import Derived.Test.YteobadljolkdcaaGreatDoorAm4
import Derived.KernelRfl
import Derived.RangeFuncBox
import Derived.RangeFuncLeaves
import Derived.Shelf.Abstract
import Derived.WalkKit
import Derived.OwnWalkIn
import Derived.TacticsInMore
import Derived.LoopNIn
import Derived.LoopIn
import Derived.RegionIn
import Derived.Shelf.RegionOpen
namespace Go.AM
open Go.Proofs
set_option maxRecDepth 100000
set_option linter.unusedVariables false
set_option linter.unusedSimpArgs false
attribute [local go_sem] Function.comp_def argsT Opd.ev Tm.get put ares mapMo ares1 snilP bldParts bslParts putAt AV.cells AV.one astore aload loadCs callArgs abin abinInt aapp elems appMore appNone preLen aFa aFld apart aExt aPick aNot aLens aEqa cellsK fitsA LK.fitsA leavesA leafA nilD aNilc aCint aCid alive alen alenOk Rle lePs len_flat
def c9 : AFn := ⟨53,.seq (.reg false [⟨some 0,.mov (.lit (.bool false)),none⟩]) (.seq (.reg false [⟨some 6,.build [.str ⟨#[]⟩,.str ⟨#[]⟩] [(0,1,.lit (.str ⟨#[99]⟩)),(1,1,.lit (.str ⟨#[43]⟩))],none⟩,⟨some 7,.bslice 2 1 [.str ⟨#[]⟩,.str ⟨#[]⟩] [(0,.tmp 6)],none⟩,⟨some 1,.mov (.tmp 7),none⟩]) (.seq (.reg false [⟨some 9,.mov (.tmp 1),none⟩,⟨some 10,.call (.lit (.fn (.func 27) [] [])) [],none⟩,⟨some 11,.build [.int .i64 0,.str ⟨#[]⟩,.int .i64 0] [(0,1,.lit (.int .i64 2)),(1,1,.lit (.str ⟨#[88]⟩))],none⟩,⟨some 12,.build [.int .i64 0,.str ⟨#[]⟩,.int .i64 0] [(0,1,.lit (.int .i64 3)),(1,1,.lit (.str ⟨#[99]⟩)),(2,1,.lit (.int .i64 1))],none⟩,⟨some 13,.bslice 3 2 [.int .i64 0,.str ⟨#[]⟩,.int .i64 0] [(0,.tmp 11),(1,.tmp 12)],none⟩,⟨some 14,.call (.lit (.fn (.func 20) [] [])) [.tmp 9,.tmp 10,.lit .nilS,.tmp 13,.lit (.int .i64 9)],none⟩,⟨some 8,.mov (.tmp 14),none⟩,⟨some 15,.ext (.tmp 8) 0,none⟩,⟨some 16,.ext (.tmp 8) 1,none⟩,⟨some 17,.ext (.tmp 8) 2,none⟩,⟨some 18,.ext (.tmp 8) 3,none⟩,⟨some 2,.alloc [.nilS,.nilS],none⟩,⟨none,.store 2 (.tmp 2) (.tmp 15),none⟩,⟨some 3,.mov (.tmp 16),none⟩,⟨some 4,.mov (.tmp 17),none⟩,⟨some 5,.mov (.tmp 18),none⟩]) (.seq (.reg false [⟨some 19,.mov (.tmp 5),none⟩,⟨some 20,.bin .eql (.tmp 19) (.lit (.int .i64 0)),none⟩,⟨some 21,.mov (.tmp 20),none⟩,⟨some 22,.mov (.tmp 4),some ((21,true))⟩,⟨some 23,.bin .eql (.tmp 22) (.lit (.int .i64 3)),some ((21,true))⟩,⟨some 24,.pick (.tmp 21) (.tmp 23) (.lit (.bool false)),none⟩,⟨some 25,.mov (.tmp 24),none⟩,⟨some 26,.fa 0 (.tmp 2),some ((25,true))⟩,⟨some 27,.load 1 false (.tmp 26),some ((25,true))⟩,⟨some 28,.len (.tmp 27),some ((25,true))⟩,⟨some 29,.bin .eql (.tmp 28) (.lit (.int .i64 4)),some ((25,true))⟩,⟨some 30,.pick (.tmp 25) (.tmp 29) (.lit (.bool false)),none⟩,⟨some 31,.mov (.tmp 30),none⟩,⟨some 32,.mov (.tmp 3),some ((31,true))⟩,⟨some 33,.len (.tmp 32),some ((31,true))⟩,⟨some 34,.bin .eql (.tmp 33) (.lit (.int .i64 1)),some ((31,true))⟩,⟨some 35,.pick (.tmp 31) (.tmp 34) (.lit (.bool false)),none⟩,⟨some 36,.mov (.tmp 35),none⟩,⟨some 37,.mov (.tmp 3),some ((36,true))⟩,⟨some 38,.ia 1 (.tmp 37) (.lit (.int .i64 0)),some ((36,true))⟩,⟨some 39,.load 1 false (.tmp 38),some ((36,true))⟩,⟨some 40,.bin .eql (.tmp 39) (.lit (.str ⟨#[88]⟩)),some ((36,true))⟩,⟨some 41,.pick (.tmp 36) (.tmp 40) (.lit (.bool false)),none⟩,⟨some 42,.mov (.tmp 41),none⟩,⟨some 43,.mov (.tmp 1),some ((42,true))⟩,⟨some 44,.load 2 true (.tmp 2),some ((42,true))⟩,⟨some 45,.mov (.tmp 3),some ((42,true))⟩,⟨some 46,.call (.lit (.fn (.func 16) [] [])) [.tmp 43,.tmp 44,.tmp 45,.lit (.int .i64 3)],some ((42,true))⟩,⟨some 47,.bin .eql (.tmp 46) (.lit (.str ⟨#[99,40,88,41]⟩)),some ((42,true))⟩,⟨some 48,.pick (.tmp 42) (.tmp 47) (.lit (.bool false)),none⟩,⟨some 49,.mov (.tmp 48),none⟩,⟨some 50,.mov (.tmp 3),some ((49,true))⟩,⟨some 51,.call (.lit (.fn (.func 10) [] [])) [.tmp 50],some ((49,true))⟩,⟨some 52,.pick (.tmp 49) (.tmp 51) (.lit (.bool false)),none⟩,⟨some 0,.mov (.tmp 52),none⟩]) .ret))),[.tmp 0]⟩
def c10 : AFn := ⟨23,.seq (.reg false [⟨some 2,.mov (.lit (.bool false)),none⟩]) (.seq (.seq (.reg false [⟨some 5,.mov (.tmp 0),none⟩,⟨some 6,.len (.tmp 5),none⟩,⟨some 7,.mov (.lit (.int .i64 0)),none⟩]) (.block 0 (.loop (.seq (.reg false [⟨some 8,.bin .lss (.tmp 7) (.tmp 6),none⟩]) (.seq (.cond (.tmp 8) .skip (.exit 0)) (.seq (.block 1 (.seq (.reg false [⟨some 9,.mov (.tmp 7),none⟩,⟨some 10,.ia 1 (.tmp 5) (.tmp 7),none⟩,⟨some 11,.load 1 false (.tmp 10),none⟩,⟨some 3,.mov (.tmp 9),none⟩,⟨some 4,.mov (.tmp 11),none⟩]) (.seq (.reg false [⟨some 12,.mov (.tmp 4),none⟩,⟨some 13,.call (.lit (.fn (.func 30) [] [])) [.tmp 12],none⟩,⟨some 14,.not (.tmp 13),none⟩,⟨some 15,.mov (.tmp 14),none⟩,⟨some 16,.mov (.tmp 0),some ((15,false))⟩,⟨some 17,.mov (.tmp 4),some ((15,false))⟩,⟨some 18,.call (.lit (.fn (.func 31) [] [])) [.tmp 16,.tmp 17],some ((15,false))⟩,⟨some 19,.mov (.tmp 3),some ((15,false))⟩,⟨some 20,.bin .neq (.tmp 18) (.tmp 19),some ((15,false))⟩,⟨some 21,.pick (.tmp 15) (.lit (.bool true)) (.tmp 20),none⟩]) (.cond (.tmp 21) (.seq (.reg false [⟨some 2,.mov (.lit (.bool false)),none⟩]) .ret) .skip)))) (.reg false [⟨some 22,.bin .add (.tmp 7) (.lit (.int .i64 1)),none⟩,⟨some 7,.mov (.tmp 22),none⟩]))))))) (.seq (.reg false [⟨some 2,.mov (.lit (.bool true)),none⟩]) .ret)),[.tmp 2]⟩
def c11 : AFn := ⟨28,.seq (.reg false [⟨some 2,.mov (.lit (.bool false)),none⟩]) (.seq (.seq (.reg false [⟨some 3,.mov (.lit (.int .i64 0)),none⟩]) (.block 0 (.loop (.seq (.seq (.reg false [⟨some 5,.mov (.tmp 3),none⟩,⟨some 6,.mov (.tmp 0),none⟩,⟨some 7,.len (.tmp 6),none⟩,⟨some 8,.bin .lss (.tmp 5) (.tmp 7),none⟩]) (.cond (.tmp 8) .skip (.exit 0))) (.seq (.block 1 (.seq (.reg false [⟨some 11,.mov (.tmp 0),none⟩,⟨some 12,.mov (.tmp 3),none⟩,⟨some 13,.ia 1 (.tmp 11) (.tmp 12),none⟩,⟨some 14,.load 1 false (.tmp 13),none⟩,⟨some 15,.call (.lit (.fn (.func 32) [] [])) [.tmp 14],none⟩,⟨some 4,.mov (.tmp 15),none⟩]) (.seq (.reg false [⟨some 16,.mov (.tmp 4),none⟩,⟨some 17,.not (.tmp 16),none⟩,⟨some 18,.mov (.tmp 17),none⟩,⟨some 19,.mov (.tmp 0),some ((18,false))⟩,⟨some 20,.mov (.tmp 0),some ((18,false))⟩,⟨some 21,.mov (.tmp 3),some ((18,false))⟩,⟨some 22,.ia 1 (.tmp 20) (.tmp 21),some ((18,false))⟩,⟨some 23,.load 1 false (.tmp 22),some ((18,false))⟩,⟨some 24,.call (.lit (.fn (.func 29) [] [])) [.tmp 19,.tmp 23],some ((18,false))⟩,⟨some 25,.mov (.tmp 3),some ((18,false))⟩,⟨some 26,.bin .neq (.tmp 24) (.tmp 25),some ((18,false))⟩,⟨some 27,.pick (.tmp 18) (.lit (.bool true)) (.tmp 26),none⟩]) (.cond (.tmp 27) (.seq (.reg false [⟨some 2,.mov (.lit (.bool false)),none⟩]) .ret) .skip)))) (.reg false [⟨some 9,.mov (.tmp 3),none⟩,⟨some 10,.bin .add (.tmp 9) (.lit (.int .i64 1)),none⟩,⟨some 3,.mov (.tmp 10),none⟩])))))) (.seq (.reg false [⟨some 2,.mov (.lit (.bool true)),none⟩]) .ret)),[.tmp 2]⟩
def c12 : AFn := ⟨32,.seq (.reg false [⟨some 4,.box (.tmp 1),none⟩,⟨some 6,.mov (.lit (.bool false)),none⟩]) (.seq (.reg false [⟨some 7,.mov (.tmp 0),none⟩,⟨some 8,.len (.tmp 7),none⟩,⟨some 9,.bin .leq (.tmp 8) (.lit (.int .i64 64)),none⟩,⟨some 10,.mov (.tmp 9),none⟩,⟨some 11,.mov (.tmp 2),some ((10,true))⟩,⟨some 12,.len (.tmp 11),some ((10,true))⟩,⟨some 13,.bin .leq (.tmp 12) (.lit (.int .i64 100)),some ((10,true))⟩,⟨some 14,.pick (.tmp 10) (.tmp 13) (.lit (.bool false)),none⟩,⟨some 15,.mov (.tmp 14),none⟩,⟨some 16,.mov (.tmp 0),some ((15,true))⟩,⟨some 17,.call (.lit (.fn (.func 26) [] [])) [.tmp 16],some ((15,true))⟩,⟨some 18,.pick (.tmp 15) (.tmp 17) (.lit (.bool false)),none⟩,⟨some 19,.mov (.tmp 18),none⟩,⟨some 20,.load 2 true (.tmp 4),some ((19,true))⟩,⟨some 21,.call (.lit (.fn (.func 33) [] [])) [.tmp 20],some ((19,true))⟩,⟨some 22,.pick (.tmp 19) (.tmp 21) (.lit (.bool false)),none⟩,⟨some 23,.mov (.tmp 22),none⟩,⟨some 24,.mov (.tmp 0),some ((23,true))⟩,⟨some 25,.load 2 true (.tmp 4),some ((23,true))⟩,⟨some 26,.call (.lit (.fn (.func 23) [] [])) [.tmp 24,.tmp 25],some ((23,true))⟩,⟨some 27,.pick (.tmp 23) (.tmp 26) (.lit (.bool false)),none⟩,⟨some 28,.mov (.tmp 27),none⟩,⟨some 29,.mov (.tmp 2),some ((28,true))⟩,⟨some 30,.call (.lit (.fn (.func 11) [] [])) [.tmp 29],some ((28,true))⟩,⟨some 31,.pick (.tmp 28) (.tmp 30) (.lit (.bool false)),none⟩,⟨some 6,.mov (.tmp 31),none⟩]) .ret),[.tmp 6]⟩
def c15 : AFn := ⟨26,.seq (.reg false [⟨some 4,.mov (.lit (.bool false)),none⟩]) (.seq (.seq (.reg false [⟨some 6,.mov (.tmp 0),none⟩,⟨some 7,.len (.tmp 6),none⟩,⟨some 8,.mov (.tmp 1),none⟩,⟨some 9,.len (.tmp 8),none⟩,⟨some 10,.bin .neq (.tmp 7) (.tmp 9),none⟩]) (.cond (.tmp 10) (.seq (.reg false [⟨some 4,.mov (.lit (.bool false)),none⟩]) .ret) .skip)) (.seq (.seq (.reg false [⟨some 5,.mov (.lit (.int .i64 0)),none⟩]) (.block 0 (.loop (.seq (.seq (.reg false [⟨some 11,.mov (.tmp 5),none⟩,⟨some 12,.mov (.tmp 0),none⟩,⟨some 13,.len (.tmp 12),none⟩,⟨some 14,.bin .lss (.tmp 11) (.tmp 13),none⟩]) (.cond (.tmp 14) .skip (.exit 0))) (.seq (.block 1 (.seq (.reg true [⟨some 17,.mov (.tmp 0),none⟩,⟨some 18,.mov (.tmp 5),none⟩,⟨some 19,.ia 3 (.tmp 17) (.tmp 18),none⟩,⟨some 20,.load 3 true (.tmp 19),none⟩,⟨some 21,.mov (.tmp 1),none⟩,⟨some 22,.mov (.tmp 5),none⟩,⟨some 23,.ia 3 (.tmp 21) (.tmp 22),none⟩,⟨some 24,.load 3 true (.tmp 23),none⟩,⟨some 25,.eqa true true [.int .i64,.str,.int .i64] (.tmp 20) (.tmp 24),none⟩]) (.cond (.tmp 25) (.seq (.reg false [⟨some 4,.mov (.lit (.bool false)),none⟩]) .ret) .skip))) (.reg false [⟨some 15,.mov (.tmp 5),none⟩,⟨some 16,.bin .add (.tmp 15) (.lit (.int .i64 1)),none⟩,⟨some 5,.mov (.tmp 16),none⟩])))))) (.seq (.reg false [⟨some 4,.mov (.lit (.bool true)),none⟩]) .ret))),[.tmp 4]⟩
def c16 : AFn := ⟨23,.seq (.reg false [⟨some 5,.box (.tmp 1),none⟩,⟨some 8,.mov (.lit (.str ⟨#[]⟩)),none⟩]) (.seq (.reg false [⟨some 12,.mov (.tmp 0),none⟩,⟨some 13,.load 2 true (.tmp 5),none⟩,⟨some 14,.mov (.tmp 2),none⟩,⟨some 15,.mov (.tmp 3),none⟩,⟨some 16,.call (.lit (.fn (.func 13) [] [])) [.tmp 12,.tmp 13,.tmp 14,.tmp 15],none⟩,⟨some 11,.mov (.tmp 16),none⟩,⟨some 17,.ext (.tmp 11) 0,none⟩,⟨some 18,.ext (.tmp 11) 1,none⟩,⟨some 9,.mov (.tmp 17),none⟩,⟨some 10,.mov (.tmp 18),none⟩]) (.seq (.seq (.reg false [⟨some 19,.mov (.tmp 10),none⟩,⟨some 20,.bin .neq (.tmp 19) (.lit (.int .i64 0)),none⟩]) (.cond (.tmp 20) (.seq (.reg false [⟨some 8,.mov (.lit (.str ⟨#[]⟩)),none⟩]) .ret) .skip)) (.seq (.reg false [⟨some 21,.mov (.tmp 9),none⟩,⟨some 22,.call (.lit (.fn (.func 44) [] [])) [.tmp 21],none⟩,⟨some 8,.mov (.tmp 22),none⟩]) .ret))),[.tmp 8]⟩
def c18 : AFn := ⟨22,.seq (.reg false [⟨some 2,.mov (.lit (.bool false)),none⟩]) (.seq (.reg false [⟨some 3,.mov (.lit (.int .i64 0)),none⟩]) (.seq (.seq (.reg false [⟨some 4,.mov (.lit (.int .i64 0)),none⟩]) (.block 0 (.loop (.seq (.seq (.reg false [⟨some 5,.mov (.tmp 4),none⟩,⟨some 6,.mov (.tmp 0),none⟩,⟨some 7,.len (.tmp 6),none⟩,⟨some 8,.bin .lss (.tmp 5) (.tmp 7),none⟩]) (.cond (.tmp 8) .skip (.exit 0))) (.seq (.block 1 (.seq (.reg false [⟨some 11,.mov (.tmp 3),none⟩,⟨some 12,.bin .add (.tmp 11) (.lit (.int .i64 1)),none⟩,⟨some 13,.mov (.tmp 0),none⟩,⟨some 14,.mov (.tmp 4),none⟩,⟨some 15,.ia 3 (.tmp 13) (.tmp 14),none⟩,⟨some 16,.fa 1 (.tmp 15),none⟩,⟨some 17,.load 1 false (.tmp 16),none⟩,⟨some 18,.lens (.tmp 17),none⟩,⟨some 19,.bin .add (.tmp 12) (.tmp 18),none⟩,⟨some 3,.mov (.tmp 19),none⟩]) (.seq (.reg false [⟨some 20,.mov (.tmp 3),none⟩,⟨some 21,.bin .gtr (.tmp 20) (.lit (.int .i64 600)),none⟩]) (.cond (.tmp 21) (.seq (.reg false [⟨some 2,.mov (.lit (.bool false)),none⟩]) .ret) .skip)))) (.reg false [⟨some 9,.mov (.tmp 4),none⟩,⟨some 10,.bin .add (.tmp 9) (.lit (.int .i64 1)),none⟩,⟨some 4,.mov (.tmp 10),none⟩])))))) (.seq (.reg false [⟨some 2,.mov (.lit (.bool true)),none⟩]) .ret))),[.tmp 2]⟩
def c19 : AFn := ⟨63,.seq (.reg false [⟨some 2,.mov (.lit (.bool false)),none⟩]) (.seq (.reg false [⟨some 3,.mov (.lit (.int .i64 0)),none⟩]) (.seq (.seq (.reg false [⟨some 4,.mov (.lit (.int .i64 0)),none⟩]) (.block 0 (.loop (.seq (.seq (.reg false [⟨some 9,.mov (.tmp 4),none⟩,⟨some 10,.mov (.tmp 0),none⟩,⟨some 11,.len (.tmp 10),none⟩,⟨some 12,.bin .lss (.tmp 9) (.tmp 11),none⟩]) (.cond (.tmp 12) .skip (.exit 0))) (.seq (.block 1 (.seq (.reg false [⟨some 15,.mov (.tmp 0),none⟩,⟨some 16,.mov (.tmp 4),none⟩,⟨some 17,.ia 3 (.tmp 15) (.tmp 16),none⟩,⟨some 18,.load 3 true (.tmp 17),none⟩,⟨some 19,.call (.lit (.fn (.func 45) [] [])) [.tmp 18],none⟩,⟨some 5,.mov (.tmp 19),none⟩]) (.seq (.seq (.reg false [⟨some 20,.mov (.tmp 5),none⟩,⟨some 21,.not (.tmp 20),none⟩,⟨some 22,.mov (.tmp 21),none⟩,⟨some 23,.mov (.tmp 0),some ((22,false))⟩,⟨some 24,.mov (.tmp 4),some ((22,false))⟩,⟨some 25,.ia 3 (.tmp 23) (.tmp 24),some ((22,false))⟩,⟨some 26,.load 3 true (.tmp 25),some ((22,false))⟩,⟨some 27,.call (.lit (.fn (.func 46) [] [])) [.tmp 26],some ((22,false))⟩,⟨some 28,.mov (.tmp 3),some ((22,false))⟩,⟨some 29,.bin .gtr (.tmp 27) (.tmp 28),some ((22,false))⟩,⟨some 30,.pick (.tmp 22) (.lit (.bool true)) (.tmp 29),none⟩]) (.cond (.tmp 30) (.seq (.reg false [⟨some 2,.mov (.lit (.bool false)),none⟩]) .ret) .skip)) (.reg false [⟨some 31,.mov (.tmp 3),none⟩,⟨some 32,.mov (.tmp 0),none⟩,⟨some 33,.mov (.tmp 4),none⟩,⟨some 34,.ia 3 (.tmp 32) (.tmp 33),none⟩,⟨some 35,.load 3 true (.tmp 34),none⟩,⟨some 36,.call (.lit (.fn (.func 46) [] [])) [.tmp 35],none⟩,⟨some 37,.bin .sub (.tmp 31) (.tmp 36),none⟩,⟨some 38,.bin .add (.tmp 37) (.lit (.int .i64 1)),none⟩,⟨some 3,.mov (.tmp 38),none⟩])))) (.reg false [⟨some 13,.mov (.tmp 4),none⟩,⟨some 14,.bin .add (.tmp 13) (.lit (.int .i64 1)),none⟩,⟨some 4,.mov (.tmp 14),none⟩])))))) (.seq (.seq (.reg false [⟨some 39,.mov (.tmp 3),none⟩,⟨some 40,.bin .neq (.tmp 39) (.lit (.int .i64 1)),none⟩]) (.cond (.tmp 40) (.seq (.reg false [⟨some 2,.mov (.lit (.bool false)),none⟩]) .ret) .skip)) (.seq (.reg false [⟨some 41,.mov (.tmp 0),none⟩,⟨some 42,.call (.lit (.fn (.func 24) [] [])) [.tmp 41],none⟩,⟨some 6,.mov (.tmp 42),none⟩]) (.seq (.reg false [⟨some 7,.mov (.lit (.int .i64 0)),none⟩]) (.seq (.seq (.reg false [⟨some 8,.mov (.lit (.int .i64 0)),none⟩]) (.block 2 (.loop (.seq (.seq (.reg false [⟨some 43,.mov (.tmp 8),none⟩,⟨some 44,.mov (.tmp 6),none⟩,⟨some 45,.lens (.tmp 44),none⟩,⟨some 46,.bin .lss (.tmp 43) (.tmp 45),none⟩]) (.cond (.tmp 46) .skip (.exit 2))) (.seq (.block 3 (.seq (.seq (.reg false [⟨some 49,.mov (.tmp 6),none⟩,⟨some 50,.mov (.tmp 8),none⟩,⟨some 51,.idxs (.tmp 49) (.tmp 50),none⟩,⟨some 52,.bin .eql (.tmp 51) (.lit (.int .u8 40)),none⟩]) (.cond (.tmp 52) (.reg false [⟨some 53,.mov (.tmp 7),none⟩,⟨some 54,.bin .add (.tmp 53) (.lit (.int .i64 1)),none⟩,⟨some 7,.mov (.tmp 54),none⟩]) .skip)) (.seq (.seq (.reg false [⟨some 55,.mov (.tmp 6),none⟩,⟨some 56,.mov (.tmp 8),none⟩,⟨some 57,.idxs (.tmp 55) (.tmp 56),none⟩,⟨some 58,.bin .eql (.tmp 57) (.lit (.int .u8 41)),none⟩]) (.cond (.tmp 58) (.reg false [⟨some 59,.mov (.tmp 7),none⟩,⟨some 60,.bin .sub (.tmp 59) (.lit (.int .i64 1)),none⟩,⟨some 7,.mov (.tmp 60),none⟩]) .skip)) (.seq (.reg false [⟨some 61,.mov (.tmp 7),none⟩,⟨some 62,.bin .gtr (.tmp 61) (.lit (.int .i64 40)),none⟩]) (.cond (.tmp 62) (.seq (.reg false [⟨some 2,.mov (.lit (.bool false)),none⟩]) .ret) .skip))))) (.reg false [⟨some 47,.mov (.tmp 8),none⟩,⟨some 48,.bin .add (.tmp 47) (.lit (.int .i64 1)),none⟩,⟨some 8,.mov (.tmp 48),none⟩])))))) (.seq (.reg false [⟨some 2,.mov (.lit (.bool true)),none⟩]) .ret))))))),[.tmp 2]⟩
def c22 : AFn := ⟨26,.seq (.reg false [⟨some 4,.mov (.lit (.bool false)),none⟩]) (.seq (.seq (.reg false [⟨some 6,.mov (.tmp 0),none⟩,⟨some 7,.len (.tmp 6),none⟩,⟨some 8,.mov (.tmp 1),none⟩,⟨some 9,.len (.tmp 8),none⟩,⟨some 10,.bin .neq (.tmp 7) (.tmp 9),none⟩]) (.cond (.tmp 10) (.seq (.reg false [⟨some 4,.mov (.lit (.bool false)),none⟩]) .ret) .skip)) (.seq (.seq (.reg false [⟨some 5,.mov (.lit (.int .i64 0)),none⟩]) (.block 0 (.loop (.seq (.seq (.reg false [⟨some 11,.mov (.tmp 5),none⟩,⟨some 12,.mov (.tmp 0),none⟩,⟨some 13,.len (.tmp 12),none⟩,⟨some 14,.bin .lss (.tmp 11) (.tmp 13),none⟩]) (.cond (.tmp 14) .skip (.exit 0))) (.seq (.block 1 (.seq (.reg true [⟨some 17,.mov (.tmp 0),none⟩,⟨some 18,.mov (.tmp 5),none⟩,⟨some 19,.ia 1 (.tmp 17) (.tmp 18),none⟩,⟨some 20,.load 1 false (.tmp 19),none⟩,⟨some 21,.mov (.tmp 1),none⟩,⟨some 22,.mov (.tmp 5),none⟩,⟨some 23,.ia 1 (.tmp 21) (.tmp 22),none⟩,⟨some 24,.load 1 false (.tmp 23),none⟩,⟨some 25,.bin .neq (.tmp 20) (.tmp 24),none⟩]) (.cond (.tmp 25) (.seq (.reg false [⟨some 4,.mov (.lit (.bool false)),none⟩]) .ret) .skip))) (.reg false [⟨some 15,.mov (.tmp 5),none⟩,⟨some 16,.bin .add (.tmp 15) (.lit (.int .i64 1)),none⟩,⟨some 5,.mov (.tmp 16),none⟩])))))) (.seq (.reg false [⟨some 4,.mov (.lit (.bool true)),none⟩]) .ret))),[.tmp 4]⟩
def c23 : AFn := ⟨51,.seq (.reg false [⟨some 3,.box (.tmp 1),none⟩,⟨some 4,.mov (.lit (.bool false)),none⟩]) (.seq (.reg false [⟨some 9,.load 2 true (.tmp 3),none⟩,⟨some 10,.call (.lit (.fn (.func 53) [] [])) [.tmp 9],none⟩,⟨some 5,.mov (.tmp 10),none⟩]) (.seq (.seq (.reg false [⟨some 11,.mov (.tmp 5),none⟩,⟨some 12,.not (.tmp 11),none⟩,⟨some 13,.mov (.tmp 12),none⟩,⟨some 14,.fa 0 (.tmp 3),some ((13,false))⟩,⟨some 15,.load 1 false (.tmp 14),some ((13,false))⟩,⟨some 16,.len (.tmp 15),some ((13,false))⟩,⟨some 17,.bin .lss (.tmp 16) (.lit (.int .i64 2)),some ((13,false))⟩,⟨some 18,.pick (.tmp 13) (.lit (.bool true)) (.tmp 17),none⟩]) (.cond (.tmp 18) (.seq (.reg false [⟨some 4,.mov (.lit (.bool false)),none⟩]) .ret) .skip)) (.seq (.seq (.reg false [⟨some 6,.mov (.lit (.int .i64 0)),none⟩]) (.block 0 (.loop (.seq (.seq (.reg false [⟨some 19,.mov (.tmp 6),none⟩,⟨some 20,.fa 0 (.tmp 3),none⟩,⟨some 21,.load 1 false (.tmp 20),none⟩,⟨some 22,.len (.tmp 21),none⟩,⟨some 23,.bin .lss (.tmp 19) (.tmp 22),none⟩]) (.cond (.tmp 23) .skip (.exit 0))) (.seq (.block 1 (.seq (.reg false [⟨some 27,.load 2 true (.tmp 3),none⟩,⟨some 28,.mov (.tmp 6),none⟩,⟨some 29,.call (.lit (.fn (.func 41) [] [])) [.tmp 27,.tmp 28],none⟩,⟨some 26,.mov (.tmp 29),none⟩,⟨some 30,.ext (.tmp 26) 0,none⟩,⟨some 31,.ext (.tmp 26) 1,none⟩,⟨some 7,.alloc [.int .i64 0,.int .i64 0,.int .i64 0,.nilS],none⟩,⟨none,.store 4 (.tmp 7) (.tmp 30),none⟩,⟨some 8,.mov (.tmp 31),none⟩]) (.seq (.reg false [⟨some 32,.mov (.tmp 8),none⟩,⟨some 33,.not (.tmp 32),none⟩,⟨some 34,.mov (.tmp 33),none⟩,⟨some 35,.mov (.tmp 0),some ((34,false))⟩,⟨some 36,.mov (.tmp 6),some ((34,false))⟩,⟨some 37,.load 4 true (.tmp 7),some ((34,false))⟩,⟨some 38,.call (.lit (.fn (.func 54) [] [])) [.tmp 35,.tmp 36,.tmp 37],some ((34,false))⟩,⟨some 39,.not (.tmp 38),some ((34,false))⟩,⟨some 40,.pick (.tmp 34) (.lit (.bool true)) (.tmp 39),none⟩,⟨some 41,.mov (.tmp 40),none⟩,⟨some 42,.mov (.tmp 6),some ((41,false))⟩,⟨some 43,.bin .lss (.tmp 42) (.lit (.int .i64 2)),some ((41,false))⟩,⟨some 44,.mov (.tmp 43),some ((41,false))⟩,⟨some 45,.fa 0 (.tmp 7),some ((44,true))⟩,⟨some 46,.load 1 false (.tmp 45),some ((44,true))⟩,⟨some 47,.mov (.tmp 6),some ((44,true))⟩,⟨some 48,.bin .neq (.tmp 46) (.tmp 47),some ((44,true))⟩,⟨some 49,.pick (.tmp 44) (.tmp 48) (.lit (.bool false)),some ((41,false))⟩,⟨some 50,.pick (.tmp 41) (.lit (.bool true)) (.tmp 49),none⟩]) (.cond (.tmp 50) (.seq (.reg false [⟨some 4,.mov (.lit (.bool false)),none⟩]) .ret) .skip)))) (.reg false [⟨some 24,.mov (.tmp 6),none⟩,⟨some 25,.bin .add (.tmp 24) (.lit (.int .i64 1)),none⟩,⟨some 6,.mov (.tmp 25),none⟩])))))) (.seq (.reg false [⟨some 4,.mov (.lit (.bool true)),none⟩]) .ret)))),[.tmp 4]⟩
def c25 : AFn := ⟨26,.seq (.reg false [⟨some 4,.mov (.lit (.bool false)),none⟩]) (.seq (.seq (.reg false [⟨some 6,.mov (.tmp 0),none⟩,⟨some 7,.len (.tmp 6),none⟩,⟨some 8,.mov (.tmp 1),none⟩,⟨some 9,.len (.tmp 8),none⟩,⟨some 10,.bin .neq (.tmp 7) (.tmp 9),none⟩]) (.cond (.tmp 10) (.seq (.reg false [⟨some 4,.mov (.lit (.bool false)),none⟩]) .ret) .skip)) (.seq (.seq (.reg false [⟨some 5,.mov (.lit (.int .i64 0)),none⟩]) (.block 0 (.loop (.seq (.seq (.reg false [⟨some 11,.mov (.tmp 5),none⟩,⟨some 12,.mov (.tmp 0),none⟩,⟨some 13,.len (.tmp 12),none⟩,⟨some 14,.bin .lss (.tmp 11) (.tmp 13),none⟩]) (.cond (.tmp 14) .skip (.exit 0))) (.seq (.block 1 (.seq (.reg true [⟨some 17,.mov (.tmp 0),none⟩,⟨some 18,.mov (.tmp 5),none⟩,⟨some 19,.ia 1 (.tmp 17) (.tmp 18),none⟩,⟨some 20,.load 1 false (.tmp 19),none⟩,⟨some 21,.mov (.tmp 1),none⟩,⟨some 22,.mov (.tmp 5),none⟩,⟨some 23,.ia 1 (.tmp 21) (.tmp 22),none⟩,⟨some 24,.load 1 false (.tmp 23),none⟩,⟨some 25,.bin .neq (.tmp 20) (.tmp 24),none⟩]) (.cond (.tmp 25) (.seq (.reg false [⟨some 4,.mov (.lit (.bool false)),none⟩]) .ret) .skip))) (.reg false [⟨some 15,.mov (.tmp 5),none⟩,⟨some 16,.bin .add (.tmp 15) (.lit (.int .i64 1)),none⟩,⟨some 5,.mov (.tmp 16),none⟩])))))) (.seq (.reg false [⟨some 4,.mov (.lit (.bool true)),none⟩]) .ret))),[.tmp 4]⟩
def c26 : AFn := ⟨41,.seq (.reg false [⟨some 2,.mov (.lit (.bool false)),none⟩]) (.seq (.seq (.reg false [⟨some 3,.mov (.lit (.int .i64 0)),none⟩]) (.block 0 (.loop (.seq (.seq (.reg false [⟨some 5,.mov (.tmp 3),none⟩,⟨some 6,.mov (.tmp 0),none⟩,⟨some 7,.len (.tmp 6),none⟩,⟨some 8,.bin .lss (.tmp 5) (.tmp 7),none⟩]) (.cond (.tmp 8) .skip (.exit 0))) (.seq (.block 1 (.seq (.reg false [⟨some 11,.mov (.tmp 0),none⟩,⟨some 12,.mov (.tmp 3),none⟩,⟨some 13,.ia 2 (.tmp 11) (.tmp 12),none⟩,⟨some 14,.fa 0 (.tmp 13),none⟩,⟨some 15,.load 1 false (.tmp 14),none⟩,⟨some 16,.call (.lit (.fn (.func 59) [] [])) [.tmp 15],none⟩,⟨some 17,.mov (.tmp 16),none⟩,⟨some 18,.mov (.tmp 0),some ((17,true))⟩,⟨some 19,.mov (.tmp 3),some ((17,true))⟩,⟨some 20,.ia 2 (.tmp 18) (.tmp 19),some ((17,true))⟩,⟨some 21,.fa 1 (.tmp 20),some ((17,true))⟩,⟨some 22,.load 1 false (.tmp 21),some ((17,true))⟩,⟨some 23,.call (.lit (.fn (.func 60) [] [])) [.tmp 22],some ((17,true))⟩,⟨some 24,.pick (.tmp 17) (.tmp 23) (.lit (.bool false)),none⟩,⟨some 4,.mov (.tmp 24),none⟩]) (.seq (.reg false [⟨some 25,.mov (.tmp 4),none⟩,⟨some 26,.not (.tmp 25),none⟩,⟨some 27,.mov (.tmp 26),none⟩,⟨some 28,.mov (.tmp 0),some ((27,false))⟩,⟨some 29,.mov (.tmp 0),some ((27,false))⟩,⟨some 30,.mov (.tmp 3),some ((27,false))⟩,⟨some 31,.ia 2 (.tmp 29) (.tmp 30),some ((27,false))⟩,⟨some 32,.fa 0 (.tmp 31),some ((27,false))⟩,⟨some 33,.load 1 false (.tmp 32),some ((27,false))⟩,⟨some 34,.call (.lit (.fn (.func 61) [] [])) [.tmp 28,.tmp 33],some ((27,false))⟩,⟨some 35,.mov (.tmp 3),some ((27,false))⟩,⟨some 36,.bin .lss (.tmp 34) (.tmp 35),some ((27,false))⟩,⟨some 37,.pick (.tmp 27) (.lit (.bool true)) (.tmp 36),none⟩]) (.cond (.tmp 37) (.seq (.reg false [⟨some 2,.mov (.lit (.bool false)),none⟩]) .ret) .skip)))) (.reg false [⟨some 9,.mov (.tmp 3),none⟩,⟨some 10,.bin .add (.tmp 9) (.lit (.int .i64 1)),none⟩,⟨some 3,.mov (.tmp 10),none⟩])))))) (.seq (.reg false [⟨some 38,.mov (.tmp 0),none⟩,⟨some 39,.len (.tmp 38),none⟩,⟨some 40,.bin .leq (.tmp 39) (.lit (.int .i64 64)),none⟩,⟨some 2,.mov (.tmp 40),none⟩]) .ret)),[.tmp 2]⟩
def c28 : AFn := ⟨38,.seq (.reg false [⟨some 2,.mov (.lit .nilS),none⟩]) (.seq (.reg false [⟨some 3,.mov (.lit .nilS),none⟩]) (.seq (.seq (.reg false [⟨some 4,.mov (.lit (.int .i64 0)),none⟩]) (.block 0 (.loop (.seq (.seq (.reg false [⟨some 6,.mov (.tmp 4),none⟩,⟨some 7,.mov (.tmp 0),none⟩,⟨some 8,.len (.tmp 7),none⟩,⟨some 9,.bin .lss (.tmp 6) (.tmp 8),none⟩]) (.cond (.tmp 9) .skip (.exit 0))) (.seq (.block 1 (.seq (.reg false [⟨some 12,.mov (.tmp 3),none⟩,⟨some 13,.mov (.tmp 0),none⟩,⟨some 14,.mov (.tmp 4),none⟩,⟨some 15,.ia 3 (.tmp 13) (.tmp 14),none⟩,⟨some 16,.fa 1 (.tmp 15),none⟩,⟨some 17,.load 1 false (.tmp 16),none⟩,⟨some 18,.call (.lit (.fn (.func 29) [] [])) [.tmp 12,.tmp 17],none⟩,⟨some 5,.mov (.tmp 18),none⟩]) (.seq (.reg false [⟨some 19,.mov (.tmp 0),none⟩,⟨some 20,.mov (.tmp 4),none⟩,⟨some 21,.ia 3 (.tmp 19) (.tmp 20),none⟩,⟨some 22,.fa 0 (.tmp 21),none⟩,⟨some 23,.load 1 false (.tmp 22),none⟩,⟨some 24,.bin .eql (.tmp 23) (.lit (.int .i64 2)),none⟩,⟨some 25,.mov (.tmp 24),none⟩,⟨some 26,.mov (.tmp 5),some ((25,true))⟩,⟨some 27,.bin .lss (.tmp 26) (.lit (.int .i64 0)),some ((25,true))⟩,⟨some 28,.pick (.tmp 25) (.tmp 27) (.lit (.bool false)),none⟩]) (.cond (.tmp 28) (.reg false [⟨some 29,.mov (.tmp 3),none⟩,⟨some 30,.mov (.tmp 0),none⟩,⟨some 31,.mov (.tmp 4),none⟩,⟨some 32,.ia 3 (.tmp 30) (.tmp 31),none⟩,⟨some 33,.fa 1 (.tmp 32),none⟩,⟨some 34,.load 1 false (.tmp 33),none⟩,⟨some 35,.bslice 1 1 [.str ⟨#[]⟩] [(0,.tmp 34)],none⟩,⟨some 36,.app 1 16 (.tmp 29) (.tmp 35),none⟩,⟨some 3,.mov (.tmp 36),none⟩]) .skip)))) (.reg false [⟨some 10,.mov (.tmp 4),none⟩,⟨some 11,.bin .add (.tmp 10) (.lit (.int .i64 1)),none⟩,⟨some 4,.mov (.tmp 11),none⟩])))))) (.seq (.reg false [⟨some 37,.mov (.tmp 3),none⟩,⟨some 2,.mov (.tmp 37),none⟩]) .ret))),[.tmp 2]⟩
def c29 : AFn := ⟨19,.seq (.reg false [⟨some 4,.mov (.lit (.int .i64 0)),none⟩]) (.seq (.seq (.reg false [⟨some 5,.mov (.lit (.int .i64 0)),none⟩]) (.block 0 (.loop (.seq (.seq (.reg false [⟨some 6,.mov (.tmp 5),none⟩,⟨some 7,.mov (.tmp 0),none⟩,⟨some 8,.len (.tmp 7),none⟩,⟨some 9,.bin .lss (.tmp 6) (.tmp 8),none⟩]) (.cond (.tmp 9) .skip (.exit 0))) (.seq (.block 1 (.seq (.reg false [⟨some 12,.mov (.tmp 0),none⟩,⟨some 13,.mov (.tmp 5),none⟩,⟨some 14,.ia 1 (.tmp 12) (.tmp 13),none⟩,⟨some 15,.load 1 false (.tmp 14),none⟩,⟨some 16,.mov (.tmp 1),none⟩,⟨some 17,.bin .eql (.tmp 15) (.tmp 16),none⟩]) (.cond (.tmp 17) (.seq (.reg false [⟨some 18,.mov (.tmp 5),none⟩,⟨some 4,.mov (.tmp 18),none⟩]) .ret) .skip))) (.reg false [⟨some 10,.mov (.tmp 5),none⟩,⟨some 11,.bin .add (.tmp 10) (.lit (.int .i64 1)),none⟩,⟨some 5,.mov (.tmp 11),none⟩])))))) (.seq (.reg false [⟨some 4,.mov (.lit (.int .i64 (-1))),none⟩]) .ret)),[.tmp 4]⟩
def c30 : AFn := ⟨7,.seq (.reg false [⟨some 2,.mov (.lit (.bool false)),none⟩]) (.seq (.reg false [⟨some 3,.mov (.tmp 0),none⟩,⟨some 4,.call (.lit (.fn (.func 64) [] [])) [],none⟩,⟨some 5,.mkfn (.func 65) [.tmp 4] [],none⟩,⟨some 6,.call (.lit (.fn (.func 63) [] [])) [.tmp 3,.tmp 5],none⟩,⟨some 2,.mov (.tmp 6),none⟩]) .ret),[.tmp 2]⟩
def c31 : AFn := ⟨19,.seq (.reg false [⟨some 4,.mov (.lit (.int .i64 0)),none⟩]) (.seq (.seq (.reg false [⟨some 6,.mov (.tmp 0),none⟩,⟨some 7,.len (.tmp 6),none⟩,⟨some 8,.mov (.lit (.int .i64 0)),none⟩]) (.block 0 (.loop (.seq (.reg false [⟨some 9,.bin .lss (.tmp 8) (.tmp 7),none⟩]) (.seq (.cond (.tmp 9) .skip (.exit 0)) (.seq (.block 1 (.seq (.reg false [⟨some 10,.mov (.tmp 8),none⟩,⟨some 5,.mov (.tmp 10),none⟩]) (.seq (.reg false [⟨some 11,.mov (.tmp 1),none⟩,⟨some 12,.mov (.tmp 0),none⟩,⟨some 13,.mov (.tmp 5),none⟩,⟨some 14,.ia 1 (.tmp 12) (.tmp 13),none⟩,⟨some 15,.load 1 false (.tmp 14),none⟩,⟨some 16,.bin .eql (.tmp 11) (.tmp 15),none⟩]) (.cond (.tmp 16) (.seq (.reg false [⟨some 17,.mov (.tmp 5),none⟩,⟨some 4,.mov (.tmp 17),none⟩]) .ret) .skip)))) (.reg false [⟨some 18,.bin .add (.tmp 8) (.lit (.int .i64 1)),none⟩,⟨some 8,.mov (.tmp 18),none⟩]))))))) (.seq (.reg false [⟨some 4,.mov (.lit (.int .i64 (-1))),none⟩]) .ret)),[.tmp 4]⟩
def c32 : AFn := ⟨10,.seq (.reg false [⟨some 2,.mov (.lit (.bool false)),none⟩]) (.seq (.reg false [⟨some 3,.mov (.tmp 0),none⟩,⟨some 4,.call (.lit (.fn (.func 66) [] [])) [.tmp 3],none⟩,⟨some 5,.mov (.tmp 4),none⟩,⟨some 6,.mov (.tmp 0),some ((5,true))⟩,⟨some 7,.idxs (.tmp 6) (.lit (.int .i64 0)),some ((5,true))⟩,⟨some 8,.call (.lit (.fn (.func 67) [] [])) [.tmp 7],some ((5,true))⟩,⟨some 9,.pick (.tmp 5) (.tmp 8) (.lit (.bool false)),none⟩,⟨some 2,.mov (.tmp 9),none⟩]) .ret),[.tmp 2]⟩
def c33 : AFn := ⟨30,.seq (.reg false [⟨some 1,.box (.tmp 0),none⟩,⟨some 2,.mov (.lit (.bool false)),none⟩]) (.seq (.reg false [⟨some 5,.fa 1 (.tmp 1),none⟩,⟨some 6,.load 1 false (.tmp 5),none⟩,⟨some 7,.len (.tmp 6),none⟩,⟨some 3,.mov (.tmp 7),none⟩]) (.seq (.seq (.reg false [⟨some 4,.mov (.lit (.int .i64 0)),none⟩]) (.block 0 (.loop (.seq (.seq (.reg false [⟨some 8,.mov (.tmp 4),none⟩,⟨some 9,.fa 0 (.tmp 1),none⟩,⟨some 10,.load 1 false (.tmp 9),none⟩,⟨some 11,.len (.tmp 10),none⟩,⟨some 12,.bin .lss (.tmp 8) (.tmp 11),none⟩,⟨some 13,.mov (.tmp 12),none⟩,⟨some 14,.mov (.tmp 3),some ((13,true))⟩,⟨some 15,.bin .leq (.tmp 14) (.lit (.int .i64 2000)),some ((13,true))⟩,⟨some 16,.pick (.tmp 13) (.tmp 15) (.lit (.bool false)),none⟩]) (.cond (.tmp 16) .skip (.exit 0))) (.seq (.block 1 (.reg false [⟨some 19,.mov (.tmp 3),none⟩,⟨some 20,.bin .add (.tmp 19) (.lit (.int .i64 1)),none⟩,⟨some 21,.fa 0 (.tmp 1),none⟩,⟨some 22,.load 1 false (.tmp 21),none⟩,⟨some 23,.mov (.tmp 4),none⟩,⟨some 24,.ia 1 (.tmp 22) (.tmp 23),none⟩,⟨some 25,.load 1 false (.tmp 24),none⟩,⟨some 26,.len (.tmp 25),none⟩,⟨some 27,.bin .add (.tmp 20) (.tmp 26),none⟩,⟨some 3,.mov (.tmp 27),none⟩])) (.reg false [⟨some 17,.mov (.tmp 4),none⟩,⟨some 18,.bin .add (.tmp 17) (.lit (.int .i64 1)),none⟩,⟨some 4,.mov (.tmp 18),none⟩])))))) (.seq (.reg false [⟨some 28,.mov (.tmp 3),none⟩,⟨some 29,.bin .leq (.tmp 28) (.lit (.int .i64 2000)),none⟩,⟨some 2,.mov (.tmp 29),none⟩]) .ret))),[.tmp 2]⟩
def c34 : AFn := ⟨37,.seq (.reg false [⟨some 7,.mov (.lit (.int .i64 0)),none⟩]) (.seq (.reg false [⟨some 13,.load 2 true (.tmp 1),none⟩,⟨some 14,.mov (.tmp 0),none⟩,⟨some 15,.call (.lit (.fn (.func 35) [] [])) [.tmp 13,.tmp 14],none⟩,⟨some 12,.mov (.tmp 15),none⟩,⟨some 16,.ext (.tmp 12) 0,none⟩,⟨some 17,.ext (.tmp 12) 1,none⟩,⟨some 8,.alloc [.int .i64 0,.int .i64 0,.int .i64 0,.nilS],none⟩,⟨none,.store 4 (.tmp 8) (.tmp 16),none⟩,⟨some 9,.mov (.tmp 17),none⟩]) (.seq (.seq (.reg false [⟨some 18,.mov (.tmp 9),none⟩,⟨some 19,.not (.tmp 18),none⟩]) (.cond (.tmp 19) (.seq (.reg false [⟨some 7,.mov (.lit (.int .i64 1)),none⟩]) .ret) .skip)) (.seq (.reg false [⟨some 21,.load 1 false (.tmp 2),none⟩,⟨some 22,.load 1 false (.tmp 3),none⟩,⟨some 23,.load 4 true (.tmp 8),none⟩,⟨some 24,.call (.lit (.fn (.func 36) [] [])) [.tmp 21,.tmp 22,.tmp 23],none⟩,⟨some 20,.mov (.tmp 24),none⟩,⟨some 25,.ext (.tmp 20) 0,none⟩,⟨some 26,.ext (.tmp 20) 1,none⟩,⟨some 10,.alloc [.int .i64 0,.str ⟨#[]⟩,.int .i64 0],none⟩,⟨none,.store 3 (.tmp 10) (.tmp 25),none⟩,⟨some 11,.mov (.tmp 26),none⟩]) (.seq (.seq (.reg false [⟨some 27,.mov (.tmp 11),none⟩,⟨some 28,.not (.tmp 27),none⟩]) (.cond (.tmp 28) (.seq (.reg false [⟨some 7,.mov (.lit (.int .i64 1)),none⟩]) .ret) .skip)) (.seq (.reg false [⟨some 29,.load 1 false (.tmp 4),none⟩,⟨some 30,.load 3 true (.tmp 10),none⟩,⟨some 31,.bslice 3 1 [.int .i64 0,.str ⟨#[]⟩,.int .i64 0] [(0,.tmp 30)],none⟩,⟨some 32,.app 3 32 (.tmp 29) (.tmp 31),none⟩,⟨none,.store 1 (.tmp 4) (.tmp 32),none⟩]) (.seq (.reg false [⟨some 33,.load 1 false (.tmp 5),none⟩,⟨some 34,.fa 3 (.tmp 8),none⟩,⟨some 35,.load 1 false (.tmp 34),none⟩,⟨some 36,.app 1 8 (.tmp 33) (.tmp 35),none⟩,⟨none,.store 1 (.tmp 5) (.tmp 36),none⟩]) (.seq (.reg false [⟨some 7,.mov (.lit (.int .i64 0)),none⟩]) .ret))))))),[.tmp 7]⟩
def c35 : AFn := ⟨24,.seq (.reg false [⟨some 2,.box (.tmp 0),none⟩,⟨some 4,.alloc [.int .i64 0,.int .i64 0,.int .i64 0,.nilS],none⟩,⟨some 5,.mov (.lit (.bool false)),none⟩]) (.seq (.seq (.reg false [⟨some 6,.mov (.tmp 1),none⟩,⟨some 7,.bin .lss (.tmp 6) (.lit (.int .i64 0)),none⟩,⟨some 8,.mov (.tmp 7),none⟩,⟨some 9,.mov (.tmp 1),some ((8,false))⟩,⟨some 10,.fa 0 (.tmp 2),some ((8,false))⟩,⟨some 11,.load 1 false (.tmp 10),some ((8,false))⟩,⟨some 12,.len (.tmp 11),some ((8,false))⟩,⟨some 13,.bin .geq (.tmp 9) (.tmp 12),some ((8,false))⟩,⟨some 14,.pick (.tmp 8) (.lit (.bool true)) (.tmp 13),none⟩]) (.cond (.tmp 14) (.seq (.reg false [⟨some 15,.build [.int .i64 0,.int .i64 0,.int .i64 0,.nilS] [],none⟩,⟨none,.store 4 (.tmp 4) (.tmp 15),none⟩,⟨some 5,.mov (.lit (.bool false)),none⟩]) .ret) .skip)) (.seq (.reg false [⟨some 16,.fa 0 (.tmp 2),none⟩,⟨some 17,.load 1 false (.tmp 16),none⟩,⟨some 18,.mov (.tmp 1),none⟩,⟨some 19,.ia 1 (.tmp 17) (.tmp 18),none⟩,⟨some 20,.load 1 false (.tmp 19),none⟩,⟨some 21,.call (.lit (.fn (.func 68) [] [])) [.tmp 20],none⟩,⟨some 22,.ext (.tmp 21) 0,none⟩,⟨some 23,.ext (.tmp 21) 1,none⟩,⟨none,.store 4 (.tmp 4) (.tmp 22),none⟩,⟨some 5,.mov (.tmp 23),none⟩]) .ret)),[.cell 4 4 true,.tmp 5]⟩
def c36 : AFn := ⟨54,.seq (.reg false [⟨some 5,.box (.tmp 2),none⟩,⟨some 6,.alloc [.int .i64 0,.str ⟨#[]⟩,.int .i64 0],none⟩,⟨some 7,.mov (.lit (.bool false)),none⟩]) (.seq (.reg false [⟨some 9,.fa 0 (.tmp 5),none⟩,⟨some 10,.load 1 false (.tmp 9),none⟩,⟨some 11,.fa 3 (.tmp 5),none⟩,⟨some 12,.load 1 false (.tmp 11),none⟩,⟨some 13,.len (.tmp 12),none⟩,⟨some 14,.build [.int .i64 0,.str ⟨#[]⟩,.int .i64 0] [(0,1,.tmp 10),(2,1,.tmp 13)],none⟩,⟨some 8,.alloc [.int .i64 0,.str ⟨#[]⟩,.int .i64 0],none⟩,⟨none,.store 3 (.tmp 8) (.tmp 14),none⟩]) (.seq (.seq (.reg false [⟨some 15,.fa 0 (.tmp 5),none⟩,⟨some 16,.load 1 false (.tmp 15),none⟩]) (.block 0 (.seq (.reg false [⟨some 18,.bin .eql (.tmp 16) (.lit (.int .i64 2)),none⟩,⟨some 17,.mov (.tmp 18),none⟩]) (.cond (.tmp 17) (.seq (.seq (.reg false [⟨some 19,.fa 1 (.tmp 5),none⟩,⟨some 20,.load 1 false (.tmp 19),none⟩,⟨some 21,.mov (.tmp 1),none⟩,⟨some 22,.len (.tmp 21),none⟩,⟨some 23,.bin .geq (.tmp 20) (.tmp 22),none⟩]) (.cond (.tmp 23) (.seq (.reg false [⟨some 24,.load 3 true (.tmp 8),none⟩,⟨none,.store 3 (.tmp 6) (.tmp 24),none⟩,⟨some 7,.mov (.lit (.bool false)),none⟩]) .ret) .skip)) (.reg false [⟨some 25,.mov (.tmp 1),none⟩,⟨some 26,.fa 1 (.tmp 5),none⟩,⟨some 27,.load 1 false (.tmp 26),none⟩,⟨some 28,.ia 1 (.tmp 25) (.tmp 27),none⟩,⟨some 29,.load 1 false (.tmp 28),none⟩,⟨some 30,.fa 1 (.tmp 8),none⟩,⟨none,.store 1 (.tmp 30) (.tmp 29),none⟩])) (.seq (.reg false [⟨some 32,.bin .eql (.tmp 16) (.lit (.int .i64 3)),none⟩,⟨some 31,.mov (.tmp 32),none⟩]) (.cond (.tmp 31) (.reg false [⟨some 33,.mov (.tmp 0),none⟩,⟨some 34,.fa 1 (.tmp 5),none⟩,⟨some 35,.load 1 false (.tmp 34),none⟩,⟨some 36,.ia 2 (.tmp 33) (.tmp 35),none⟩,⟨some 37,.fa 0 (.tmp 36),none⟩,⟨some 38,.load 1 false (.tmp 37),none⟩,⟨some 39,.fa 1 (.tmp 8),none⟩,⟨none,.store 1 (.tmp 39) (.tmp 38),none⟩]) (.seq (.reg false [⟨some 41,.bin .eql (.tmp 16) (.lit (.int .i64 6)),none⟩,⟨some 40,.mov (.tmp 41),none⟩]) (.cond (.tmp 40) (.regD [⟨some 42,.mov (.tmp 0),none⟩,⟨some 43,.fa 1 (.tmp 5),none⟩,⟨some 44,.load 1 false (.tmp 43),none⟩,⟨some 45,.ia 2 (.tmp 42) (.tmp 44),none⟩,⟨some 46,.fa 0 (.tmp 45),none⟩,⟨some 47,.load 1 false (.tmp 46),none⟩,⟨some 48,.fa 2 (.tmp 5),none⟩,⟨some 49,.load 1 false (.tmp 48),none⟩,⟨some 50,.bin .add (.tmp 49) (.lit (.int .i64 1)),none⟩,⟨some 51,.fa 1 (.tmp 8),none⟩,⟨none,.store 1 (.tmp 51) (.tmp 47),none⟩,⟨some 52,.fa 2 (.tmp 8),none⟩,⟨none,.store 1 (.tmp 52) (.tmp 50),none⟩] [(⟨some 48,.fa 2 (.tmp 5),none⟩,⟨none,.store 1 (.tmp 51) (.tmp 47),none⟩),(⟨some 49,.load 1 false (.tmp 48),none⟩,⟨none,.store 1 (.tmp 51) (.tmp 47),none⟩)]) .skip)))))))) (.seq (.reg false [⟨some 53,.load 3 true (.tmp 8),none⟩,⟨none,.store 3 (.tmp 6) (.tmp 53),none⟩,⟨some 7,.mov (.lit (.bool true)),none⟩]) .ret))),[.cell 6 3 true,.tmp 7]⟩
def c37 : AFn := ⟨66,.seq (.reg false [⟨some 2,.box (.tmp 0),none⟩,⟨some 4,.mov (.lit .nilS),none⟩]) (.seq (.seq (.reg false [⟨some 13,.mov (.tmp 1),none⟩,⟨some 14,.bin .lss (.tmp 13) (.lit (.int .i64 0)),none⟩,⟨some 15,.mov (.tmp 14),none⟩,⟨some 16,.mov (.tmp 1),some ((15,false))⟩,⟨some 17,.fa 0 (.tmp 2),some ((15,false))⟩,⟨some 18,.load 1 false (.tmp 17),some ((15,false))⟩,⟨some 19,.len (.tmp 18),some ((15,false))⟩,⟨some 20,.bin .geq (.tmp 16) (.tmp 19),some ((15,false))⟩,⟨some 21,.pick (.tmp 15) (.lit (.bool true)) (.tmp 20),none⟩]) (.cond (.tmp 21) (.seq (.reg false [⟨some 4,.mov (.lit .nilS),none⟩]) .ret) .skip)) (.seq (.reg false [⟨some 22,.mov (.tmp 1),none⟩,⟨some 23,.bin .add (.tmp 22) (.lit (.int .i64 1)),none⟩,⟨some 24,.mksl 1 1 [.bool false] (.tmp 23) (.tmp 23),none⟩,⟨some 5,.mov (.tmp 24),none⟩]) (.seq (.reg false [⟨some 25,.mov (.tmp 5),none⟩,⟨some 26,.mov (.tmp 1),none⟩,⟨some 27,.ia 1 (.tmp 25) (.tmp 26),none⟩,⟨none,.store 1 (.tmp 27) (.lit (.bool true)),none⟩]) (.seq (.reg false [⟨some 6,.mov (.lit .nilS),none⟩]) (.seq (.seq (.reg false [⟨some 28,.mov (.tmp 1),none⟩,⟨some 29,.bin .add (.tmp 28) (.lit (.int .i64 1)),none⟩,⟨some 30,.mov (.lit (.int .i64 0)),none⟩]) (.block 0 (.loop (.seq (.reg false [⟨some 31,.bin .lss (.tmp 30) (.tmp 29),none⟩]) (.seq (.cond (.tmp 31) .skip (.exit 0)) (.seq (.block 1 (.seq (.reg false [⟨some 32,.mov (.tmp 30),none⟩,⟨some 7,.mov (.tmp 32),none⟩]) (.seq (.reg false [⟨some 33,.mov (.tmp 1),none⟩,⟨some 34,.mov (.tmp 7),none⟩,⟨some 35,.bin .sub (.tmp 33) (.tmp 34),none⟩,⟨some 8,.mov (.tmp 35),none⟩]) (.seq (.seq (.reg false [⟨some 36,.mov (.tmp 5),none⟩,⟨some 37,.mov (.tmp 8),none⟩,⟨some 38,.ia 1 (.tmp 36) (.tmp 37),none⟩,⟨some 39,.load 1 false (.tmp 38),none⟩,⟨some 40,.not (.tmp 39),none⟩]) (.cond (.tmp 40) (.exit 1) .skip)) (.seq (.reg false [⟨some 41,.mov (.tmp 6),none⟩,⟨some 42,.mov (.tmp 8),none⟩,⟨some 43,.bslice 1 1 [.int .i64 0] [(0,.tmp 42)],none⟩,⟨some 44,.app 1 8 (.tmp 41) (.tmp 43),none⟩,⟨some 6,.mov (.tmp 44),none⟩]) (.seq (.reg false [⟨some 46,.load 2 true (.tmp 2),none⟩,⟨some 47,.mov (.tmp 8),none⟩,⟨some 48,.call (.lit (.fn (.func 35) [] [])) [.tmp 46,.tmp 47],none⟩,⟨some 45,.mov (.tmp 48),none⟩,⟨some 49,.ext (.tmp 45) 0,none⟩,⟨some 50,.ext (.tmp 45) 1,none⟩,⟨some 9,.alloc [.int .i64 0,.int .i64 0,.int .i64 0,.nilS],none⟩,⟨none,.store 4 (.tmp 9) (.tmp 49),none⟩,⟨some 10,.mov (.tmp 50),none⟩]) (.seq (.reg false [⟨some 51,.fa 3 (.tmp 9),none⟩,⟨some 52,.load 1 false (.tmp 51),none⟩,⟨some 53,.len (.tmp 52),none⟩,⟨some 54,.mov (.lit (.int .i64 0)),none⟩]) (.block 2 (.loop (.seq (.reg false [⟨some 55,.bin .lss (.tmp 54) (.tmp 53),none⟩]) (.seq (.cond (.tmp 55) .skip (.exit 2)) (.seq (.block 3 (.seq (.reg false [⟨some 56,.ia 1 (.tmp 52) (.tmp 54),none⟩,⟨some 57,.load 1 false (.tmp 56),none⟩,⟨some 12,.mov (.tmp 57),none⟩]) (.reg false [⟨some 58,.mov (.tmp 5),none⟩,⟨some 59,.mov (.tmp 12),none⟩,⟨some 60,.ia 1 (.tmp 58) (.tmp 59),none⟩,⟨none,.store 1 (.tmp 60) (.lit (.bool true)),none⟩]))) (.reg false [⟨some 61,.bin .add (.tmp 54) (.lit (.int .i64 1)),none⟩,⟨some 54,.mov (.tmp 61),none⟩]))))))))))))) (.reg false [⟨some 62,.bin .add (.tmp 30) (.lit (.int .i64 1)),none⟩,⟨some 30,.mov (.tmp 62),none⟩]))))))) (.seq (.reg false [⟨some 63,.mov (.tmp 6),none⟩,⟨some 64,.call (.lit (.fn (.func 69) [] [])) [.tmp 63],none⟩]) (.seq (.reg false [⟨some 65,.mov (.tmp 6),none⟩,⟨some 4,.mov (.tmp 65),none⟩]) .ret))))))),[.tmp 4]⟩
def c38 : AFn := ⟨28,.seq (.reg false [⟨some 4,.mov (.tmp 0),none⟩,⟨some 5,.len (.tmp 4),none⟩,⟨some 6,.bin .sub (.tmp 5) (.lit (.int .i64 1)),none⟩,⟨some 2,.mov (.lit (.int .i64 0)),none⟩,⟨some 3,.mov (.tmp 6),none⟩]) (.block 0 (.loop (.seq (.seq (.reg false [⟨some 7,.mov (.tmp 2),none⟩,⟨some 8,.mov (.tmp 3),none⟩,⟨some 9,.bin .lss (.tmp 7) (.tmp 8),none⟩]) (.cond (.tmp 9) .skip (.exit 0))) (.seq (.block 1 (.reg true [⟨some 14,.mov (.tmp 0),none⟩,⟨some 15,.mov (.tmp 2),none⟩,⟨some 16,.mov (.tmp 0),none⟩,⟨some 17,.mov (.tmp 3),none⟩,⟨some 18,.mov (.tmp 0),none⟩,⟨some 19,.mov (.tmp 3),none⟩,⟨some 20,.ia 3 (.tmp 18) (.tmp 19),none⟩,⟨some 21,.load 3 true (.tmp 20),none⟩,⟨some 22,.mov (.tmp 0),none⟩,⟨some 23,.mov (.tmp 2),none⟩,⟨some 24,.ia 3 (.tmp 22) (.tmp 23),none⟩,⟨some 25,.load 3 true (.tmp 24),none⟩,⟨some 26,.ia 3 (.tmp 14) (.tmp 15),none⟩,⟨none,.store 3 (.tmp 26) (.tmp 21),none⟩,⟨some 27,.ia 3 (.tmp 16) (.tmp 17),none⟩,⟨none,.store 3 (.tmp 27) (.tmp 25),none⟩])) (.reg false [⟨some 10,.mov (.tmp 2),none⟩,⟨some 11,.bin .add (.tmp 10) (.lit (.int .i64 1)),none⟩,⟨some 12,.mov (.tmp 3),none⟩,⟨some 13,.bin .sub (.tmp 12) (.lit (.int .i64 1)),none⟩,⟨some 2,.mov (.tmp 11),none⟩,⟨some 3,.mov (.tmp 13),none⟩]))))),[]⟩
def c39 : AFn := ⟨37,.seq (.reg false [⟨some 2,.mov (.lit (.bool false)),none⟩]) (.seq (.reg false [⟨some 3,.mov (.lit (.int .i64 0)),none⟩]) (.seq (.seq (.reg false [⟨some 8,.mov (.tmp 0),none⟩,⟨some 9,.len (.tmp 8),none⟩,⟨some 10,.mov (.lit (.int .i64 0)),none⟩]) (.block 0 (.loop (.seq (.reg false [⟨some 11,.bin .lss (.tmp 10) (.tmp 9),none⟩]) (.seq (.cond (.tmp 11) .skip (.exit 0)) (.seq (.block 1 (.seq (.reg false [⟨some 12,.ia 3 (.tmp 8) (.tmp 10),none⟩,⟨some 13,.load 3 true (.tmp 12),none⟩,⟨some 5,.alloc [.int .i64 0,.str ⟨#[]⟩,.int .i64 0],none⟩,⟨none,.store 3 (.tmp 5) (.tmp 13),none⟩]) (.seq (.reg false [⟨some 14,.mov (.tmp 3),none⟩,⟨some 15,.load 3 true (.tmp 5),none⟩,⟨some 16,.call (.lit (.fn (.func 70) [] [])) [.tmp 15],none⟩,⟨some 17,.bin .sub (.tmp 14) (.tmp 16),none⟩,⟨some 3,.mov (.tmp 17),none⟩]) (.seq (.seq (.reg false [⟨some 18,.load 3 true (.tmp 5),none⟩,⟨some 19,.call (.lit (.fn (.func 71) [] [])) [.tmp 18],none⟩,⟨some 20,.not (.tmp 19),none⟩,⟨some 21,.mov (.tmp 20),none⟩,⟨some 22,.mov (.tmp 3),some ((21,false))⟩,⟨some 23,.bin .lss (.tmp 22) (.lit (.int .i64 0)),some ((21,false))⟩,⟨some 24,.pick (.tmp 21) (.lit (.bool true)) (.tmp 23),none⟩]) (.cond (.tmp 24) (.seq (.reg false [⟨some 2,.mov (.lit (.bool false)),none⟩]) .ret) .skip)) (.reg false [⟨some 25,.mov (.tmp 3),none⟩,⟨some 26,.bin .add (.tmp 25) (.lit (.int .i64 1)),none⟩,⟨some 3,.mov (.tmp 26),none⟩]))))) (.reg false [⟨some 27,.bin .add (.tmp 10) (.lit (.int .i64 1)),none⟩,⟨some 10,.mov (.tmp 27),none⟩]))))))) (.seq (.seq (.reg false [⟨some 28,.mov (.tmp 3),none⟩,⟨some 29,.bin .neq (.tmp 28) (.lit (.int .i64 1)),none⟩]) (.cond (.tmp 29) (.seq (.reg false [⟨some 2,.mov (.lit (.bool false)),none⟩]) .ret) .skip)) (.seq (.reg false [⟨some 31,.mov (.tmp 0),none⟩,⟨some 32,.call (.lit (.fn (.func 72) [] [])) [.tmp 31],none⟩,⟨some 30,.mov (.tmp 32),none⟩,⟨some 33,.ext (.tmp 30) 0,none⟩,⟨some 34,.ext (.tmp 30) 1,none⟩,⟨some 6,.mov (.tmp 33),none⟩,⟨some 7,.mov (.tmp 34),none⟩]) (.seq (.reg false [⟨some 35,.mov (.tmp 7),none⟩,⟨some 36,.bin .leq (.tmp 35) (.lit (.int .i64 40)),none⟩,⟨some 2,.mov (.tmp 36),none⟩]) .ret))))),[.tmp 2]⟩
def c41 : AFn := ⟨43,.seq (.reg false [⟨some 2,.box (.tmp 0),none⟩,⟨some 4,.alloc [.int .i64 0,.int .i64 0,.int .i64 0,.nilS],none⟩,⟨some 5,.mov (.lit (.bool false)),none⟩]) (.seq (.seq (.reg false [⟨some 7,.mov (.tmp 1),none⟩,⟨some 8,.bin .lss (.tmp 7) (.lit (.int .i64 0)),none⟩,⟨some 9,.mov (.tmp 8),none⟩,⟨some 10,.mov (.tmp 1),some ((9,false))⟩,⟨some 11,.fa 0 (.tmp 2),some ((9,false))⟩,⟨some 12,.load 1 false (.tmp 11),some ((9,false))⟩,⟨some 13,.len (.tmp 12),some ((9,false))⟩,⟨some 14,.bin .geq (.tmp 10) (.tmp 13),some ((9,false))⟩,⟨some 15,.pick (.tmp 9) (.lit (.bool true)) (.tmp 14),none⟩,⟨some 16,.mov (.tmp 15),none⟩,⟨some 17,.fa 0 (.tmp 2),some ((16,false))⟩,⟨some 18,.load 1 false (.tmp 17),some ((16,false))⟩,⟨some 19,.mov (.tmp 1),some ((16,false))⟩,⟨some 20,.ia 1 (.tmp 18) (.tmp 19),some ((16,false))⟩,⟨some 21,.load 1 false (.tmp 20),some ((16,false))⟩,⟨some 22,.len (.tmp 21),some ((16,false))⟩,⟨some 23,.bin .lss (.tmp 22) (.lit (.int .i64 3)),some ((16,false))⟩,⟨some 24,.pick (.tmp 16) (.lit (.bool true)) (.tmp 23),none⟩]) (.cond (.tmp 24) (.seq (.reg false [⟨some 25,.build [.int .i64 0,.int .i64 0,.int .i64 0,.nilS] [],none⟩,⟨none,.store 4 (.tmp 4) (.tmp 25),none⟩,⟨some 5,.mov (.lit (.bool false)),none⟩]) .ret) .skip)) (.seq (.reg false [⟨some 26,.fa 0 (.tmp 2),none⟩,⟨some 27,.load 1 false (.tmp 26),none⟩,⟨some 28,.mov (.tmp 1),none⟩,⟨some 29,.ia 1 (.tmp 27) (.tmp 28),none⟩,⟨some 30,.load 1 false (.tmp 29),none⟩,⟨some 6,.mov (.tmp 30),none⟩]) (.seq (.reg true [⟨some 31,.mov (.tmp 6),none⟩,⟨some 32,.ia 1 (.tmp 31) (.lit (.int .i64 0)),none⟩,⟨some 33,.load 1 false (.tmp 32),none⟩,⟨some 34,.mov (.tmp 6),none⟩,⟨some 35,.ia 1 (.tmp 34) (.lit (.int .i64 1)),none⟩,⟨some 36,.load 1 false (.tmp 35),none⟩,⟨some 37,.mov (.tmp 6),none⟩,⟨some 38,.ia 1 (.tmp 37) (.lit (.int .i64 2)),none⟩,⟨some 39,.load 1 false (.tmp 38),none⟩,⟨some 40,.mov (.tmp 6),none⟩,⟨some 41,.slc 1 (.tmp 40) (some (.lit (.int .i64 3))) none none,none⟩,⟨some 42,.build [.int .i64 0,.int .i64 0,.int .i64 0,.nilS] [(0,1,.tmp 33),(1,1,.tmp 36),(2,1,.tmp 39),(3,1,.tmp 41)],none⟩,⟨none,.store 4 (.tmp 4) (.tmp 42),none⟩,⟨some 5,.mov (.lit (.bool true)),none⟩]) .ret))),[.cell 4 4 true,.tmp 5]⟩
def c44 : AFn := ⟨11,.seq (.reg false [⟨some 2,.mov (.lit (.str ⟨#[]⟩)),none⟩]) (.seq (.reg false [⟨some 6,.mov (.tmp 0),none⟩,⟨some 7,.call (.lit (.fn (.func 72) [] [])) [.tmp 6],none⟩,⟨some 5,.mov (.tmp 7),none⟩,⟨some 8,.ext (.tmp 5) 0,none⟩,⟨some 9,.ext (.tmp 5) 1,none⟩,⟨some 3,.mov (.tmp 8),none⟩,⟨some 4,.mov (.tmp 9),none⟩]) (.seq (.reg false [⟨some 10,.mov (.tmp 3),none⟩,⟨some 2,.mov (.tmp 10),none⟩]) .ret)),[.tmp 2]⟩
def c45 : AFn := ⟨69,.seq (.reg false [⟨some 1,.box (.tmp 0),none⟩,⟨some 2,.mov (.lit (.bool false)),none⟩]) (.seq (.reg false [⟨some 5,.fa 1 (.tmp 1),none⟩,⟨some 6,.load 1 false (.tmp 5),none⟩,⟨some 7,.call (.lit (.fn (.func 59) [] [])) [.tmp 6],none⟩,⟨some 3,.mov (.tmp 7),none⟩]) (.seq (.seq (.reg false [⟨some 8,.fa 0 (.tmp 1),none⟩,⟨some 9,.load 1 false (.tmp 8),none⟩]) (.block 0 (.seq (.seq (.reg false [⟨some 11,.bin .eql (.tmp 9) (.lit (.int .i64 0)),none⟩,⟨some 10,.mov (.tmp 11),none⟩]) (.cond (.tmp 10) .skip (.reg false [⟨some 12,.bin .eql (.tmp 9) (.lit (.int .i64 1)),none⟩,⟨some 10,.mov (.tmp 12),none⟩]))) (.cond (.tmp 10) (.seq (.reg false [⟨some 13,.fa 1 (.tmp 1),none⟩,⟨some 14,.load 1 false (.tmp 13),none⟩,⟨some 15,.bin .eql (.tmp 14) (.lit (.str ⟨#[]⟩)),none⟩,⟨some 16,.mov (.tmp 15),none⟩,⟨some 17,.fa 2 (.tmp 1),some ((16,true))⟩,⟨some 18,.load 1 false (.tmp 17),some ((16,true))⟩,⟨some 19,.bin .eql (.tmp 18) (.lit (.int .i64 0)),some ((16,true))⟩,⟨some 20,.pick (.tmp 16) (.tmp 19) (.lit (.bool false)),none⟩,⟨some 2,.mov (.tmp 20),none⟩]) .ret) (.seq (.reg false [⟨some 22,.bin .eql (.tmp 9) (.lit (.int .i64 2)),none⟩,⟨some 21,.mov (.tmp 22),none⟩]) (.cond (.tmp 21) (.seq (.reg false [⟨some 23,.fa 1 (.tmp 1),none⟩,⟨some 24,.load 1 false (.tmp 23),none⟩,⟨some 25,.call (.lit (.fn (.func 32) [] [])) [.tmp 24],none⟩,⟨some 4,.mov (.tmp 25),none⟩]) (.seq (.reg false [⟨some 26,.mov (.tmp 4),none⟩,⟨some 27,.mov (.tmp 26),none⟩,⟨some 28,.fa 2 (.tmp 1),some ((27,true))⟩,⟨some 29,.load 1 false (.tmp 28),some ((27,true))⟩,⟨some 30,.bin .eql (.tmp 29) (.lit (.int .i64 0)),some ((27,true))⟩,⟨some 31,.pick (.tmp 27) (.tmp 30) (.lit (.bool false)),none⟩,⟨some 2,.mov (.tmp 31),none⟩]) .ret)) (.seq (.reg false [⟨some 33,.bin .eql (.tmp 9) (.lit (.int .i64 3)),none⟩,⟨some 32,.mov (.tmp 33),none⟩]) (.cond (.tmp 32) (.seq (.reg false [⟨some 34,.mov (.tmp 3),none⟩,⟨some 35,.mov (.tmp 34),none⟩,⟨some 36,.fa 2 (.tmp 1),some ((35,true))⟩,⟨some 37,.load 1 false (.tmp 36),some ((35,true))⟩,⟨some 38,.bin .geq (.tmp 37) (.lit (.int .i64 0)),some ((35,true))⟩,⟨some 39,.pick (.tmp 35) (.tmp 38) (.lit (.bool false)),none⟩,⟨some 40,.mov (.tmp 39),none⟩,⟨some 41,.fa 2 (.tmp 1),some ((40,true))⟩,⟨some 42,.load 1 false (.tmp 41),some ((40,true))⟩,⟨some 43,.bin .leq (.tmp 42) (.lit (.int .i64 8)),some ((40,true))⟩,⟨some 44,.pick (.tmp 40) (.tmp 43) (.lit (.bool false)),none⟩,⟨some 2,.mov (.tmp 44),none⟩]) .ret) (.seq (.seq (.reg false [⟨some 46,.bin .eql (.tmp 9) (.lit (.int .i64 4)),none⟩,⟨some 45,.mov (.tmp 46),none⟩]) (.cond (.tmp 45) .skip (.reg false [⟨some 47,.bin .eql (.tmp 9) (.lit (.int .i64 5)),none⟩,⟨some 45,.mov (.tmp 47),none⟩]))) (.cond (.tmp 45) (.seq (.reg false [⟨some 48,.fa 1 (.tmp 1),none⟩,⟨some 49,.load 1 false (.tmp 48),none⟩,⟨some 50,.bin .eql (.tmp 49) (.lit (.str ⟨#[]⟩)),none⟩,⟨some 51,.mov (.tmp 50),none⟩,⟨some 52,.fa 2 (.tmp 1),some ((51,true))⟩,⟨some 53,.load 1 false (.tmp 52),some ((51,true))⟩,⟨some 54,.bin .eql (.tmp 53) (.lit (.int .i64 2)),some ((51,true))⟩,⟨some 55,.pick (.tmp 51) (.tmp 54) (.lit (.bool false)),none⟩,⟨some 2,.mov (.tmp 55),none⟩]) .ret) (.seq (.reg false [⟨some 57,.bin .eql (.tmp 9) (.lit (.int .i64 6)),none⟩,⟨some 56,.mov (.tmp 57),none⟩]) (.cond (.tmp 56) (.seq (.reg false [⟨some 58,.mov (.tmp 3),none⟩,⟨some 59,.mov (.tmp 58),none⟩,⟨some 60,.fa 2 (.tmp 1),some ((59,true))⟩,⟨some 61,.load 1 false (.tmp 60),some ((59,true))⟩,⟨some 62,.bin .geq (.tmp 61) (.lit (.int .i64 1)),some ((59,true))⟩,⟨some 63,.pick (.tmp 59) (.tmp 62) (.lit (.bool false)),none⟩,⟨some 64,.mov (.tmp 63),none⟩,⟨some 65,.fa 2 (.tmp 1),some ((64,true))⟩,⟨some 66,.load 1 false (.tmp 65),some ((64,true))⟩,⟨some 67,.bin .leq (.tmp 66) (.lit (.int .i64 8)),some ((64,true))⟩,⟨some 68,.pick (.tmp 64) (.tmp 67) (.lit (.bool false)),none⟩,⟨some 2,.mov (.tmp 68),none⟩]) .ret) .skip)))))))))))) (.seq (.reg false [⟨some 2,.mov (.lit (.bool false)),none⟩]) .ret))),[.tmp 2]⟩
def c46 : AFn := ⟨8,.seq (.reg false [⟨some 1,.box (.tmp 0),none⟩,⟨some 2,.mov (.lit (.int .i64 0)),none⟩]) (.seq (.seq (.reg false [⟨some 3,.fa 0 (.tmp 1),none⟩,⟨some 4,.load 1 false (.tmp 3),none⟩,⟨some 5,.bin .eql (.tmp 4) (.lit (.int .i64 6)),none⟩]) (.cond (.tmp 5) (.seq (.reg false [⟨some 2,.mov (.lit (.int .i64 1)),none⟩]) .ret) .skip)) (.seq (.reg false [⟨some 6,.fa 2 (.tmp 1),none⟩,⟨some 7,.load 1 false (.tmp 6),none⟩,⟨some 2,.mov (.tmp 7),none⟩]) .ret)),[.tmp 2]⟩
def c47 : AFn := ⟨8,.seq (.reg false [⟨some 1,.box (.tmp 0),none⟩,⟨some 2,.mov (.lit (.int .i64 0)),none⟩]) (.seq (.seq (.reg false [⟨some 3,.fa 0 (.tmp 1),none⟩,⟨some 4,.load 1 false (.tmp 3),none⟩,⟨some 5,.bin .eql (.tmp 4) (.lit (.int .i64 6)),none⟩]) (.cond (.tmp 5) (.seq (.reg false [⟨some 2,.mov (.lit (.int .i64 1)),none⟩]) .ret) .skip)) (.seq (.reg false [⟨some 6,.fa 2 (.tmp 1),none⟩,⟨some 7,.load 1 false (.tmp 6),none⟩,⟨some 2,.mov (.tmp 7),none⟩]) .ret)),[.tmp 2]⟩
def c48 : AFn := ⟨8,.seq (.reg false [⟨some 2,.mov (.lit .nilS),none⟩]) (.seq (.seq (.reg false [⟨some 3,.mov (.tmp 0),none⟩,⟨some 4,.snil false (.tmp 3),none⟩]) (.cond (.tmp 4) (.seq (.reg false [⟨some 2,.mov (.lit .nilS),none⟩]) .ret) .skip)) (.seq (.reg false [⟨some 5,.bslice 1 0 [.int .i64 0] [],none⟩,⟨some 6,.mov (.tmp 0),none⟩,⟨some 7,.app 1 8 (.tmp 5) (.tmp 6),none⟩,⟨some 2,.mov (.tmp 7),none⟩]) .ret)),[.tmp 2]⟩
def c49 : AFn := ⟨9,.seq (.reg false [⟨some 2,.mov (.lit .nilS),none⟩]) (.seq (.reg false [⟨some 3,.mov (.tmp 0),none⟩,⟨some 4,.mov (.tmp 0),none⟩,⟨some 5,.len (.tmp 4),none⟩,⟨some 6,.mov (.tmp 0),none⟩,⟨some 7,.len (.tmp 6),none⟩,⟨some 8,.slc 1 (.tmp 3) none (some (.tmp 5)) (some (.tmp 7)),none⟩,⟨some 2,.mov (.tmp 8),none⟩]) .ret),[.tmp 2]⟩
def c50 : AFn := ⟨8,.seq (.reg false [⟨some 3,.box (.tmp 1),none⟩,⟨some 4,.mov (.lit (.int .i64 0)),none⟩]) (.seq (.reg false [⟨some 5,.mov (.tmp 0),none⟩,⟨some 6,.mkfn (.func 75) [] [.tmp 3],none⟩,⟨some 7,.call (.lit (.fn (.func 74) [] [])) [.tmp 5,.tmp 6],none⟩,⟨some 4,.mov (.tmp 7),none⟩]) .ret),[.tmp 4]⟩
def c51 : AFn := ⟨39,.seq (.reg false [⟨some 5,.box (.tmp 1),none⟩,⟨some 6,.box (.tmp 2),none⟩,⟨some 8,.alloc [.nilS,.nilS],none⟩,⟨some 9,.mov (.lit (.int .i64 0)),none⟩,⟨some 10,.mov (.lit (.int .i64 0)),none⟩]) (.seq (.seq (.reg false [⟨some 14,.mov (.tmp 0),none⟩,⟨some 15,.load 2 true (.tmp 5),none⟩,⟨some 16,.load 4 true (.tmp 6),none⟩,⟨some 17,.call (.lit (.fn (.func 76) [] [])) [.tmp 14,.tmp 15,.tmp 16],none⟩,⟨some 18,.not (.tmp 17),none⟩]) (.cond (.tmp 18) (.seq (.reg false [⟨some 19,.load 2 true (.tmp 5),none⟩,⟨none,.store 2 (.tmp 8) (.tmp 19),none⟩,⟨some 9,.mov (.lit (.int .i64 0)),none⟩,⟨some 10,.mov (.lit (.int .i64 1)),none⟩]) .ret) .skip)) (.seq (.reg true [⟨some 21,.load 2 true (.tmp 5),none⟩,⟨some 22,.load 4 true (.tmp 6),none⟩,⟨some 23,.call (.lit (.fn (.func 78) [] [])) [.tmp 22],none⟩,⟨some 24,.call (.lit (.fn (.func 77) [] [])) [.tmp 21,.tmp 23],none⟩,⟨some 20,.mov (.tmp 24),none⟩,⟨some 25,.ext (.tmp 20) 0,none⟩,⟨some 26,.ext (.tmp 20) 1,none⟩,⟨some 27,.ext (.tmp 20) 2,none⟩,⟨some 11,.alloc [.nilS,.nilS],none⟩,⟨none,.store 2 (.tmp 11) (.tmp 25),none⟩,⟨some 12,.mov (.tmp 26),none⟩,⟨some 13,.mov (.tmp 27),none⟩]) (.seq (.seq (.reg false [⟨some 28,.mov (.tmp 13),none⟩,⟨some 29,.mov (.tmp 28),none⟩,⟨some 30,.fa 0 (.tmp 5),some ((29,true))⟩,⟨some 31,.load 1 false (.tmp 30),some ((29,true))⟩,⟨some 32,.len (.tmp 31),some ((29,true))⟩,⟨some 33,.mov (.tmp 3),some ((29,true))⟩,⟨some 34,.bin .geq (.tmp 32) (.tmp 33),some ((29,true))⟩,⟨some 35,.pick (.tmp 29) (.tmp 34) (.lit (.bool false)),none⟩]) (.cond (.tmp 35) (.seq (.reg false [⟨some 36,.load 2 true (.tmp 5),none⟩,⟨none,.store 2 (.tmp 8) (.tmp 36),none⟩,⟨some 9,.mov (.lit (.int .i64 0)),none⟩,⟨some 10,.mov (.lit (.int .i64 7)),none⟩]) .ret) .skip)) (.seq (.reg false [⟨some 37,.load 2 true (.tmp 11),none⟩,⟨some 38,.mov (.tmp 12),none⟩,⟨none,.store 2 (.tmp 8) (.tmp 37),none⟩,⟨some 9,.mov (.tmp 38),none⟩,⟨some 10,.mov (.lit (.int .i64 0)),none⟩]) .ret)))),[.cell 8 2 true,.tmp 9,.tmp 10]⟩
def c53 : AFn := ⟨27,.seq (.reg false [⟨some 1,.box (.tmp 0),none⟩,⟨some 2,.mov (.lit (.bool false)),none⟩]) (.seq (.seq (.reg false [⟨some 3,.mov (.lit (.int .i64 0)),none⟩]) (.block 0 (.loop (.seq (.seq (.reg false [⟨some 4,.mov (.tmp 3),none⟩,⟨some 5,.fa 0 (.tmp 1),none⟩,⟨some 6,.load 1 false (.tmp 5),none⟩,⟨some 7,.len (.tmp 6),none⟩,⟨some 8,.bin .lss (.tmp 4) (.tmp 7),none⟩]) (.cond (.tmp 8) .skip (.exit 0))) (.seq (.block 1 (.seq (.reg true [⟨some 11,.fa 0 (.tmp 1),none⟩,⟨some 12,.load 1 false (.tmp 11),none⟩,⟨some 13,.fa 0 (.tmp 1),none⟩,⟨some 14,.load 1 false (.tmp 13),none⟩,⟨some 15,.mov (.tmp 3),none⟩,⟨some 16,.ia 1 (.tmp 14) (.tmp 15),none⟩,⟨some 17,.load 1 false (.tmp 16),none⟩,⟨some 18,.call (.lit (.fn (.func 79) [] [])) [.tmp 12,.tmp 17],none⟩,⟨some 19,.mov (.tmp 3),none⟩,⟨some 20,.bin .neq (.tmp 18) (.tmp 19),none⟩]) (.cond (.tmp 20) (.seq (.reg false [⟨some 2,.mov (.lit (.bool false)),none⟩]) .ret) .skip))) (.reg false [⟨some 9,.mov (.tmp 3),none⟩,⟨some 10,.bin .add (.tmp 9) (.lit (.int .i64 1)),none⟩,⟨some 3,.mov (.tmp 10),none⟩])))))) (.seq (.reg true [⟨some 21,.fa 1 (.tmp 1),none⟩,⟨some 22,.load 1 false (.tmp 21),none⟩,⟨some 23,.fa 0 (.tmp 1),none⟩,⟨some 24,.load 1 false (.tmp 23),none⟩,⟨some 25,.call (.lit (.fn (.func 62) [] [])) [.tmp 24],none⟩,⟨some 26,.call (.lit (.fn (.func 25) [] [])) [.tmp 22,.tmp 25],none⟩,⟨some 2,.mov (.tmp 26),none⟩]) .ret)),[.tmp 2]⟩
def c54 : AFn := ⟨134,.seq (.reg false [⟨some 5,.box (.tmp 2),none⟩,⟨some 6,.mov (.lit (.bool false)),none⟩]) (.seq (.seq (.reg false [⟨some 7,.mov (.lit (.int .i64 0)),none⟩]) (.block 0 (.loop (.seq (.seq (.reg false [⟨some 10,.mov (.tmp 7),none⟩,⟨some 11,.fa 3 (.tmp 5),none⟩,⟨some 12,.load 1 false (.tmp 11),none⟩,⟨some 13,.len (.tmp 12),none⟩,⟨some 14,.bin .lss (.tmp 10) (.tmp 13),none⟩]) (.cond (.tmp 14) .skip (.exit 0))) (.seq (.block 1 (.seq (.reg false [⟨some 17,.fa 3 (.tmp 5),none⟩,⟨some 18,.load 1 false (.tmp 17),none⟩,⟨some 19,.mov (.tmp 7),none⟩,⟨some 20,.ia 1 (.tmp 18) (.tmp 19),none⟩,⟨some 21,.load 1 false (.tmp 20),none⟩,⟨some 22,.bin .lss (.tmp 21) (.lit (.int .i64 0)),none⟩,⟨some 23,.mov (.tmp 22),none⟩,⟨some 24,.fa 3 (.tmp 5),some ((23,false))⟩,⟨some 25,.load 1 false (.tmp 24),some ((23,false))⟩,⟨some 26,.mov (.tmp 7),some ((23,false))⟩,⟨some 27,.ia 1 (.tmp 25) (.tmp 26),some ((23,false))⟩,⟨some 28,.load 1 false (.tmp 27),some ((23,false))⟩,⟨some 29,.mov (.tmp 1),some ((23,false))⟩,⟨some 30,.bin .geq (.tmp 28) (.tmp 29),some ((23,false))⟩,⟨some 31,.pick (.tmp 23) (.lit (.bool true)) (.tmp 30),none⟩]) (.cond (.tmp 31) (.seq (.reg false [⟨some 6,.mov (.lit (.bool false)),none⟩]) .ret) .skip))) (.reg false [⟨some 15,.mov (.tmp 7),none⟩,⟨some 16,.bin .add (.tmp 15) (.lit (.int .i64 1)),none⟩,⟨some 7,.mov (.tmp 16),none⟩])))))) (.seq (.reg false [⟨some 32,.fa 3 (.tmp 5),none⟩,⟨some 33,.load 1 false (.tmp 32),none⟩,⟨some 34,.len (.tmp 33),none⟩,⟨some 8,.mov (.tmp 34),none⟩]) (.seq (.reg false [⟨some 35,.fa 1 (.tmp 5),none⟩,⟨some 36,.load 1 false (.tmp 35),none⟩,⟨some 37,.bin .geq (.tmp 36) (.lit (.int .i64 0)),none⟩,⟨some 38,.mov (.tmp 37),none⟩,⟨some 39,.fa 1 (.tmp 5),some ((38,true))⟩,⟨some 40,.load 1 false (.tmp 39),some ((38,true))⟩,⟨some 41,.mov (.tmp 0),some ((38,true))⟩,⟨some 42,.len (.tmp 41),some ((38,true))⟩,⟨some 43,.bin .lss (.tmp 40) (.tmp 42),some ((38,true))⟩,⟨some 44,.pick (.tmp 38) (.tmp 43) (.lit (.bool false)),none⟩,⟨some 9,.mov (.tmp 44),none⟩]) (.seq (.seq (.reg false [⟨some 45,.fa 0 (.tmp 5),none⟩,⟨some 46,.load 1 false (.tmp 45),none⟩]) (.block 2 (.seq (.seq (.reg false [⟨some 48,.bin .eql (.tmp 46) (.lit (.int .i64 0)),none⟩,⟨some 47,.mov (.tmp 48),none⟩]) (.cond (.tmp 47) .skip (.reg false [⟨some 49,.bin .eql (.tmp 46) (.lit (.int .i64 1)),none⟩,⟨some 47,.mov (.tmp 49),none⟩]))) (.cond (.tmp 47) (.seq (.reg false [⟨some 50,.fa 1 (.tmp 5),none⟩,⟨some 51,.load 1 false (.tmp 50),none⟩,⟨some 52,.bin .eql (.tmp 51) (.lit (.int .i64 0)),none⟩,⟨some 53,.mov (.tmp 52),none⟩,⟨some 54,.fa 2 (.tmp 5),some ((53,true))⟩,⟨some 55,.load 1 false (.tmp 54),some ((53,true))⟩,⟨some 56,.bin .eql (.tmp 55) (.lit (.int .i64 0)),some ((53,true))⟩,⟨some 57,.pick (.tmp 53) (.tmp 56) (.lit (.bool false)),none⟩,⟨some 58,.mov (.tmp 57),none⟩,⟨some 59,.mov (.tmp 8),some ((58,true))⟩,⟨some 60,.bin .eql (.tmp 59) (.lit (.int .i64 0)),some ((58,true))⟩,⟨some 61,.pick (.tmp 58) (.tmp 60) (.lit (.bool false)),none⟩,⟨some 6,.mov (.tmp 61),none⟩]) .ret) (.seq (.reg false [⟨some 63,.bin .eql (.tmp 46) (.lit (.int .i64 2)),none⟩,⟨some 62,.mov (.tmp 63),none⟩]) (.cond (.tmp 62) (.seq (.reg false [⟨some 64,.fa 1 (.tmp 5),none⟩,⟨some 65,.load 1 false (.tmp 64),none⟩,⟨some 66,.bin .geq (.tmp 65) (.lit (.int .i64 0)),none⟩,⟨some 67,.mov (.tmp 66),none⟩,⟨some 68,.fa 2 (.tmp 5),some ((67,true))⟩,⟨some 69,.load 1 false (.tmp 68),some ((67,true))⟩,⟨some 70,.bin .eql (.tmp 69) (.lit (.int .i64 0)),some ((67,true))⟩,⟨some 71,.pick (.tmp 67) (.tmp 70) (.lit (.bool false)),none⟩,⟨some 72,.mov (.tmp 71),none⟩,⟨some 73,.mov (.tmp 8),some ((72,true))⟩,⟨some 74,.bin .eql (.tmp 73) (.lit (.int .i64 0)),some ((72,true))⟩,⟨some 75,.pick (.tmp 72) (.tmp 74) (.lit (.bool false)),none⟩,⟨some 6,.mov (.tmp 75),none⟩]) .ret) (.seq (.reg false [⟨some 77,.bin .eql (.tmp 46) (.lit (.int .i64 3)),none⟩,⟨some 76,.mov (.tmp 77),none⟩]) (.cond (.tmp 76) (.seq (.reg false [⟨some 78,.mov (.tmp 9),none⟩,⟨some 79,.mov (.tmp 78),none⟩,⟨some 80,.fa 2 (.tmp 5),some ((79,true))⟩,⟨some 81,.load 1 false (.tmp 80),some ((79,true))⟩,⟨some 82,.bin .eql (.tmp 81) (.lit (.int .i64 0)),some ((79,true))⟩,⟨some 83,.pick (.tmp 79) (.tmp 82) (.lit (.bool false)),none⟩,⟨some 84,.mov (.tmp 83),none⟩,⟨some 85,.mov (.tmp 8),some ((84,true))⟩,⟨some 86,.mov (.tmp 0),some ((84,true))⟩,⟨some 87,.fa 1 (.tmp 5),some ((84,true))⟩,⟨some 88,.load 1 false (.tmp 87),some ((84,true))⟩,⟨some 89,.ia 2 (.tmp 86) (.tmp 88),some ((84,true))⟩,⟨some 90,.fa 1 (.tmp 89),some ((84,true))⟩,⟨some 91,.load 1 false (.tmp 90),some ((84,true))⟩,⟨some 92,.lens (.tmp 91),some ((84,true))⟩,⟨some 93,.bin .eql (.tmp 85) (.tmp 92),some ((84,true))⟩,⟨some 94,.pick (.tmp 84) (.tmp 93) (.lit (.bool false)),none⟩,⟨some 6,.mov (.tmp 94),none⟩]) .ret) (.seq (.seq (.reg false [⟨some 96,.bin .eql (.tmp 46) (.lit (.int .i64 4)),none⟩,⟨some 95,.mov (.tmp 96),none⟩]) (.cond (.tmp 95) .skip (.reg false [⟨some 97,.bin .eql (.tmp 46) (.lit (.int .i64 5)),none⟩,⟨some 95,.mov (.tmp 97),none⟩]))) (.cond (.tmp 95) (.seq (.reg false [⟨some 98,.fa 1 (.tmp 5),none⟩,⟨some 99,.load 1 false (.tmp 98),none⟩,⟨some 100,.bin .eql (.tmp 99) (.lit (.int .i64 0)),none⟩,⟨some 101,.mov (.tmp 100),none⟩,⟨some 102,.fa 2 (.tmp 5),some ((101,true))⟩,⟨some 103,.load 1 false (.tmp 102),some ((101,true))⟩,⟨some 104,.bin .eql (.tmp 103) (.lit (.int .i64 0)),some ((101,true))⟩,⟨some 105,.pick (.tmp 101) (.tmp 104) (.lit (.bool false)),none⟩,⟨some 106,.mov (.tmp 105),none⟩,⟨some 107,.mov (.tmp 8),some ((106,true))⟩,⟨some 108,.bin .eql (.tmp 107) (.lit (.int .i64 2)),some ((106,true))⟩,⟨some 109,.pick (.tmp 106) (.tmp 108) (.lit (.bool false)),none⟩,⟨some 6,.mov (.tmp 109),none⟩]) .ret) (.seq (.reg false [⟨some 111,.bin .eql (.tmp 46) (.lit (.int .i64 6)),none⟩,⟨some 110,.mov (.tmp 111),none⟩]) (.cond (.tmp 110) (.seq (.reg true [⟨some 112,.mov (.tmp 9),none⟩,⟨some 113,.mov (.tmp 112),none⟩,⟨some 114,.fa 2 (.tmp 5),some ((113,true))⟩,⟨some 115,.load 1 false (.tmp 114),some ((113,true))⟩,⟨some 116,.bin .geq (.tmp 115) (.lit (.int .i64 0)),some ((113,true))⟩,⟨some 117,.pick (.tmp 113) (.tmp 116) (.lit (.bool false)),none⟩,⟨some 118,.mov (.tmp 117),none⟩,⟨some 119,.fa 2 (.tmp 5),some ((118,true))⟩,⟨some 120,.load 1 false (.tmp 119),some ((118,true))⟩,⟨some 121,.mov (.tmp 0),some ((118,true))⟩,⟨some 122,.fa 1 (.tmp 5),some ((118,true))⟩,⟨some 123,.load 1 false (.tmp 122),some ((118,true))⟩,⟨some 124,.ia 2 (.tmp 121) (.tmp 123),some ((118,true))⟩,⟨some 125,.fa 1 (.tmp 124),some ((118,true))⟩,⟨some 126,.load 1 false (.tmp 125),some ((118,true))⟩,⟨some 127,.lens (.tmp 126),some ((118,true))⟩,⟨some 128,.bin .lss (.tmp 120) (.tmp 127),some ((118,true))⟩,⟨some 129,.pick (.tmp 118) (.tmp 128) (.lit (.bool false)),none⟩,⟨some 130,.mov (.tmp 129),none⟩,⟨some 131,.mov (.tmp 8),some ((130,true))⟩,⟨some 132,.bin .eql (.tmp 131) (.lit (.int .i64 1)),some ((130,true))⟩,⟨some 133,.pick (.tmp 130) (.tmp 132) (.lit (.bool false)),none⟩,⟨some 6,.mov (.tmp 133),none⟩]) .ret) .skip)))))))))))) (.seq (.reg false [⟨some 6,.mov (.lit (.bool false)),none⟩]) .ret))))),[.tmp 6]⟩
def c55 : AFn := ⟨33,.seq (.reg false [⟨some 2,.mov (.lit .nilS),none⟩]) (.seq (.reg false [⟨some 3,.mov (.lit .nilS),none⟩]) (.seq (.seq (.reg false [⟨some 4,.mov (.lit (.int .i64 0)),none⟩]) (.block 0 (.loop (.seq (.seq (.reg false [⟨some 7,.mov (.tmp 4),none⟩,⟨some 8,.mov (.tmp 0),none⟩,⟨some 9,.len (.tmp 8),none⟩,⟨some 10,.bin .lss (.tmp 7) (.tmp 9),none⟩]) (.cond (.tmp 10) .skip (.exit 0))) (.seq (.block 1 (.seq (.reg false [⟨some 13,.mov (.tmp 4),none⟩,⟨some 5,.mov (.tmp 13),none⟩]) (.seq (.seq (.reg false [⟨some 6,.mov (.lit (.int .i64 0)),none⟩]) (.block 2 (.loop (.seq (.seq (.reg false [⟨some 14,.mov (.tmp 6),none⟩,⟨some 15,.mov (.tmp 0),none⟩,⟨some 16,.mov (.tmp 4),none⟩,⟨some 17,.ia 3 (.tmp 15) (.tmp 16),none⟩,⟨some 18,.load 3 true (.tmp 17),none⟩,⟨some 19,.call (.lit (.fn (.func 46) [] [])) [.tmp 18],none⟩,⟨some 20,.bin .lss (.tmp 14) (.tmp 19),none⟩]) (.cond (.tmp 20) .skip (.exit 2))) (.seq (.block 3 (.reg false [⟨some 23,.mov (.tmp 3),none⟩,⟨some 24,.mov (.tmp 5),none⟩,⟨some 25,.bin .sub (.tmp 24) (.lit (.int .i64 1)),none⟩,⟨some 26,.ia 1 (.tmp 23) (.tmp 25),none⟩,⟨some 27,.load 1 false (.tmp 26),none⟩,⟨some 5,.mov (.tmp 27),none⟩])) (.reg false [⟨some 21,.mov (.tmp 6),none⟩,⟨some 22,.bin .add (.tmp 21) (.lit (.int .i64 1)),none⟩,⟨some 6,.mov (.tmp 22),none⟩])))))) (.reg false [⟨some 28,.mov (.tmp 3),none⟩,⟨some 29,.mov (.tmp 5),none⟩,⟨some 30,.bslice 1 1 [.int .i64 0] [(0,.tmp 29)],none⟩,⟨some 31,.app 1 8 (.tmp 28) (.tmp 30),none⟩,⟨some 3,.mov (.tmp 31),none⟩])))) (.reg false [⟨some 11,.mov (.tmp 4),none⟩,⟨some 12,.bin .add (.tmp 11) (.lit (.int .i64 1)),none⟩,⟨some 4,.mov (.tmp 12),none⟩])))))) (.seq (.reg false [⟨some 32,.mov (.tmp 3),none⟩,⟨some 2,.mov (.tmp 32),none⟩]) .ret))),[.tmp 2]⟩
def c56 : AFn := ⟨47,.seq (.reg false [⟨some 6,.mov (.lit .nilS),none⟩]) (.seq (.reg false [⟨some 7,.mov (.lit .nilS),none⟩]) (.seq (.reg false [⟨some 12,.mov (.tmp 2),none⟩,⟨some 13,.bin .sub (.tmp 12) (.lit (.int .i64 1)),none⟩,⟨some 8,.mov (.tmp 13),none⟩]) (.seq (.seq (.reg false [⟨some 9,.mov (.lit (.int .i64 0)),none⟩]) (.block 0 (.loop (.seq (.seq (.reg false [⟨some 14,.mov (.tmp 9),none⟩,⟨some 15,.mov (.tmp 0),none⟩,⟨some 16,.mov (.tmp 2),none⟩,⟨some 17,.ia 3 (.tmp 15) (.tmp 16),none⟩,⟨some 18,.load 3 true (.tmp 17),none⟩,⟨some 19,.call (.lit (.fn (.func 46) [] [])) [.tmp 18],none⟩,⟨some 20,.bin .lss (.tmp 14) (.tmp 19),none⟩]) (.cond (.tmp 20) .skip (.exit 0))) (.seq (.block 1 (.seq (.reg false [⟨some 23,.mov (.tmp 7),none⟩,⟨some 24,.mov (.tmp 8),none⟩,⟨some 25,.bslice 1 1 [.int .i64 0] [(0,.tmp 24)],none⟩,⟨some 26,.app 1 8 (.tmp 23) (.tmp 25),none⟩,⟨some 7,.mov (.tmp 26),none⟩]) (.reg false [⟨some 27,.mov (.tmp 1),none⟩,⟨some 28,.mov (.tmp 8),none⟩,⟨some 29,.ia 1 (.tmp 27) (.tmp 28),none⟩,⟨some 30,.load 1 false (.tmp 29),none⟩,⟨some 31,.bin .sub (.tmp 30) (.lit (.int .i64 1)),none⟩,⟨some 8,.mov (.tmp 31),none⟩]))) (.reg false [⟨some 21,.mov (.tmp 9),none⟩,⟨some 22,.bin .add (.tmp 21) (.lit (.int .i64 1)),none⟩,⟨some 9,.mov (.tmp 22),none⟩])))))) (.seq (.reg false [⟨some 10,.mov (.lit .nilS),none⟩]) (.seq (.seq (.reg false [⟨some 32,.mov (.tmp 7),none⟩,⟨some 33,.len (.tmp 32),none⟩,⟨some 34,.bin .sub (.tmp 33) (.lit (.int .i64 1)),none⟩,⟨some 11,.mov (.tmp 34),none⟩]) (.block 2 (.loop (.seq (.seq (.reg false [⟨some 35,.mov (.tmp 11),none⟩,⟨some 36,.bin .geq (.tmp 35) (.lit (.int .i64 0)),none⟩]) (.cond (.tmp 36) .skip (.exit 2))) (.seq (.block 3 (.reg false [⟨some 39,.mov (.tmp 10),none⟩,⟨some 40,.mov (.tmp 7),none⟩,⟨some 41,.mov (.tmp 11),none⟩,⟨some 42,.ia 1 (.tmp 40) (.tmp 41),none⟩,⟨some 43,.load 1 false (.tmp 42),none⟩,⟨some 44,.bslice 1 1 [.int .i64 0] [(0,.tmp 43)],none⟩,⟨some 45,.app 1 8 (.tmp 39) (.tmp 44),none⟩,⟨some 10,.mov (.tmp 45),none⟩])) (.reg false [⟨some 37,.mov (.tmp 11),none⟩,⟨some 38,.bin .sub (.tmp 37) (.lit (.int .i64 1)),none⟩,⟨some 11,.mov (.tmp 38),none⟩])))))) (.seq (.reg false [⟨some 46,.mov (.tmp 10),none⟩,⟨some 6,.mov (.tmp 46),none⟩]) .ret)))))),[.tmp 6]⟩
def c57 : AFn := ⟨48,.seq (.reg false [⟨some 10,.mov (.lit (.str ⟨#[]⟩)),none⟩]) (.seq (.seq (.reg false [⟨some 11,.mov (.tmp 0),none⟩,⟨some 12,.mov (.tmp 2),none⟩,⟨some 13,.ia 3 (.tmp 11) (.tmp 12),none⟩,⟨some 14,.fa 0 (.tmp 13),none⟩,⟨some 15,.load 1 false (.tmp 14),none⟩,⟨some 16,.bin .eql (.tmp 15) (.lit (.int .i64 4)),none⟩,⟨some 17,.mov (.tmp 16),none⟩,⟨some 18,.mov (.tmp 0),some ((17,false))⟩,⟨some 19,.mov (.tmp 2),some ((17,false))⟩,⟨some 20,.ia 3 (.tmp 18) (.tmp 19),some ((17,false))⟩,⟨some 21,.fa 0 (.tmp 20),some ((17,false))⟩,⟨some 22,.load 1 false (.tmp 21),some ((17,false))⟩,⟨some 23,.bin .eql (.tmp 22) (.lit (.int .i64 5)),some ((17,false))⟩,⟨some 24,.pick (.tmp 17) (.lit (.bool true)) (.tmp 23),none⟩,⟨some 25,.mov (.tmp 24),none⟩,⟨some 26,.mov (.tmp 4),some ((25,true))⟩,⟨some 27,.not (.tmp 26),some ((25,true))⟩,⟨some 28,.mov (.tmp 27),some ((25,true))⟩,⟨some 29,.mov (.tmp 0),some ((28,false))⟩,⟨some 30,.mov (.tmp 2),some ((28,false))⟩,⟨some 31,.ia 3 (.tmp 29) (.tmp 30),some ((28,false))⟩,⟨some 32,.fa 0 (.tmp 31),some ((28,false))⟩,⟨some 33,.load 1 false (.tmp 32),some ((28,false))⟩,⟨some 34,.mov (.tmp 3),some ((28,false))⟩,⟨some 35,.bin .neq (.tmp 33) (.tmp 34),some ((28,false))⟩,⟨some 36,.pick (.tmp 28) (.lit (.bool true)) (.tmp 35),some ((25,true))⟩,⟨some 37,.pick (.tmp 25) (.tmp 36) (.lit (.bool false)),none⟩]) (.cond (.tmp 37) (.seq (.reg false [⟨some 38,.mov (.tmp 1),none⟩,⟨some 39,.mov (.tmp 2),none⟩,⟨some 40,.ia 1 (.tmp 38) (.tmp 39),none⟩,⟨some 41,.load 1 false (.tmp 40),none⟩,⟨some 42,.bin .add (.lit (.str ⟨#[40]⟩)) (.tmp 41),none⟩,⟨some 43,.bin .add (.tmp 42) (.lit (.str ⟨#[41]⟩)),none⟩,⟨some 10,.mov (.tmp 43),none⟩]) .ret) .skip)) (.seq (.reg false [⟨some 44,.mov (.tmp 1),none⟩,⟨some 45,.mov (.tmp 2),none⟩,⟨some 46,.ia 1 (.tmp 44) (.tmp 45),none⟩,⟨some 47,.load 1 false (.tmp 46),none⟩,⟨some 10,.mov (.tmp 47),none⟩]) .ret)),[.tmp 10]⟩
def c58 : AFn := ⟨8,.seq (.reg false [⟨some 2,.mov (.lit (.str ⟨#[]⟩)),none⟩]) (.seq (.reg false [⟨some 3,.mov (.tmp 0),none⟩,⟨some 4,.bin .add (.lit (.int .i64 48)) (.tmp 3),none⟩,⟨some 5,.cint .u8 (.tmp 4),none⟩,⟨some 6,.bslice 1 1 [.int .u8 0] [(0,.tmp 5)],none⟩,⟨some 7,.b2s (.tmp 6),none⟩,⟨some 2,.mov (.tmp 7),none⟩]) .ret),[.tmp 2]⟩
def c59 : AFn := ⟨10,.seq (.reg false [⟨some 2,.mov (.lit (.bool false)),none⟩]) (.seq (.reg false [⟨some 3,.mov (.tmp 0),none⟩,⟨some 4,.call (.lit (.fn (.func 66) [] [])) [.tmp 3],none⟩,⟨some 5,.mov (.tmp 4),none⟩,⟨some 6,.mov (.tmp 0),some ((5,true))⟩,⟨some 7,.idxs (.tmp 6) (.lit (.int .i64 0)),some ((5,true))⟩,⟨some 8,.call (.lit (.fn (.func 80) [] [])) [.tmp 7],some ((5,true))⟩,⟨some 9,.pick (.tmp 5) (.tmp 8) (.lit (.bool false)),none⟩,⟨some 2,.mov (.tmp 9),none⟩]) .ret),[.tmp 2]⟩
def c60 : AFn := ⟨29,.seq (.reg false [⟨some 2,.mov (.lit (.bool false)),none⟩]) (.seq (.seq (.reg false [⟨some 3,.mov (.lit (.int .i64 0)),none⟩]) (.block 0 (.loop (.seq (.seq (.reg false [⟨some 4,.mov (.tmp 3),none⟩,⟨some 5,.mov (.tmp 0),none⟩,⟨some 6,.lens (.tmp 5),none⟩,⟨some 7,.bin .lss (.tmp 4) (.tmp 6),none⟩]) (.cond (.tmp 7) .skip (.exit 0))) (.seq (.block 1 (.seq (.reg false [⟨some 10,.mov (.tmp 0),none⟩,⟨some 11,.mov (.tmp 3),none⟩,⟨some 12,.idxs (.tmp 10) (.tmp 11),none⟩,⟨some 13,.bin .neq (.tmp 12) (.lit (.int .u8 43)),none⟩,⟨some 14,.mov (.tmp 13),none⟩,⟨some 15,.mov (.tmp 0),some ((14,true))⟩,⟨some 16,.mov (.tmp 3),some ((14,true))⟩,⟨some 17,.idxs (.tmp 15) (.tmp 16),some ((14,true))⟩,⟨some 18,.bin .neq (.tmp 17) (.lit (.int .u8 45)),some ((14,true))⟩,⟨some 19,.pick (.tmp 14) (.tmp 18) (.lit (.bool false)),none⟩,⟨some 20,.mov (.tmp 19),none⟩,⟨some 21,.mov (.tmp 0),some ((20,true))⟩,⟨some 22,.mov (.tmp 3),some ((20,true))⟩,⟨some 23,.idxs (.tmp 21) (.tmp 22),some ((20,true))⟩,⟨some 24,.bin .neq (.tmp 23) (.lit (.int .u8 61)),some ((20,true))⟩,⟨some 25,.pick (.tmp 20) (.tmp 24) (.lit (.bool false)),none⟩]) (.cond (.tmp 25) (.seq (.reg false [⟨some 2,.mov (.lit (.bool false)),none⟩]) .ret) .skip))) (.reg false [⟨some 8,.mov (.tmp 3),none⟩,⟨some 9,.bin .add (.tmp 8) (.lit (.int .i64 1)),none⟩,⟨some 3,.mov (.tmp 9),none⟩])))))) (.seq (.reg false [⟨some 26,.mov (.tmp 0),none⟩,⟨some 27,.lens (.tmp 26),none⟩,⟨some 28,.bin .leq (.tmp 27) (.lit (.int .i64 8)),none⟩,⟨some 2,.mov (.tmp 28),none⟩]) .ret)),[.tmp 2]⟩
def c61 : AFn := ⟨20,.seq (.reg false [⟨some 4,.mov (.lit (.int .i64 0)),none⟩]) (.seq (.seq (.reg false [⟨some 5,.mov (.lit (.int .i64 0)),none⟩]) (.block 0 (.loop (.seq (.seq (.reg false [⟨some 6,.mov (.tmp 5),none⟩,⟨some 7,.mov (.tmp 0),none⟩,⟨some 8,.len (.tmp 7),none⟩,⟨some 9,.bin .lss (.tmp 6) (.tmp 8),none⟩]) (.cond (.tmp 9) .skip (.exit 0))) (.seq (.block 1 (.seq (.reg false [⟨some 12,.mov (.tmp 0),none⟩,⟨some 13,.mov (.tmp 5),none⟩,⟨some 14,.ia 2 (.tmp 12) (.tmp 13),none⟩,⟨some 15,.fa 0 (.tmp 14),none⟩,⟨some 16,.load 1 false (.tmp 15),none⟩,⟨some 17,.mov (.tmp 1),none⟩,⟨some 18,.bin .eql (.tmp 16) (.tmp 17),none⟩]) (.cond (.tmp 18) (.seq (.reg false [⟨some 19,.mov (.tmp 5),none⟩,⟨some 4,.mov (.tmp 19),none⟩]) .ret) .skip))) (.reg false [⟨some 10,.mov (.tmp 5),none⟩,⟨some 11,.bin .add (.tmp 10) (.lit (.int .i64 1)),none⟩,⟨some 5,.mov (.tmp 11),none⟩])))))) (.seq (.reg false [⟨some 4,.mov (.lit (.int .i64 (-1))),none⟩]) .ret)),[.tmp 4]⟩
def c62 : AFn := ⟨42,.seq (.reg false [⟨some 2,.mov (.lit .nilS),none⟩]) (.seq (.reg false [⟨some 6,.mov (.tmp 0),none⟩,⟨some 7,.len (.tmp 6),none⟩,⟨some 8,.call (.lit (.fn (.func 81) [] [])) [.tmp 7],none⟩,⟨some 9,.mksl 1 8 [.int .i64 0] (.tmp 8) (.tmp 8),none⟩,⟨some 3,.mov (.tmp 9),none⟩]) (.seq (.seq (.reg false [⟨some 4,.mov (.lit (.int .i64 0)),none⟩]) (.block 0 (.loop (.seq (.seq (.reg false [⟨some 10,.mov (.tmp 4),none⟩,⟨some 11,.mov (.tmp 0),none⟩,⟨some 12,.len (.tmp 11),none⟩,⟨some 13,.bin .lss (.tmp 10) (.tmp 12),none⟩]) (.cond (.tmp 13) .skip (.exit 0))) (.seq (.block 1 (.seq (.reg false [⟨some 16,.mov (.tmp 0),none⟩,⟨some 17,.mov (.tmp 4),none⟩,⟨some 18,.ia 1 (.tmp 16) (.tmp 17),none⟩,⟨some 19,.load 1 false (.tmp 18),none⟩,⟨some 20,.call (.lit (.fn (.func 82) [] [])) [.tmp 19],none⟩,⟨some 21,.cint .i64 (.tmp 20),none⟩,⟨some 22,.mov (.tmp 3),none⟩,⟨some 23,.len (.tmp 22),none⟩,⟨some 24,.bin .rem (.tmp 21) (.tmp 23),none⟩,⟨some 5,.mov (.tmp 24),none⟩]) (.seq (.block 2 (.loop (.seq (.seq (.reg false [⟨some 25,.mov (.tmp 3),none⟩,⟨some 26,.mov (.tmp 5),none⟩,⟨some 27,.ia 1 (.tmp 25) (.tmp 26),none⟩,⟨some 28,.load 1 false (.tmp 27),none⟩,⟨some 29,.bin .neq (.tmp 28) (.lit (.int .i64 0)),none⟩]) (.cond (.tmp 29) .skip (.exit 2))) (.block 3 (.seq (.reg false [⟨some 30,.mov (.tmp 5),none⟩,⟨some 31,.bin .add (.tmp 30) (.lit (.int .i64 1)),none⟩,⟨some 5,.mov (.tmp 31),none⟩]) (.seq (.reg false [⟨some 32,.mov (.tmp 5),none⟩,⟨some 33,.mov (.tmp 3),none⟩,⟨some 34,.len (.tmp 33),none⟩,⟨some 35,.bin .eql (.tmp 32) (.tmp 34),none⟩]) (.cond (.tmp 35) (.reg false [⟨some 5,.mov (.lit (.int .i64 0)),none⟩]) .skip))))))) (.reg false [⟨some 36,.mov (.tmp 3),none⟩,⟨some 37,.mov (.tmp 5),none⟩,⟨some 38,.mov (.tmp 4),none⟩,⟨some 39,.bin .add (.tmp 38) (.lit (.int .i64 1)),none⟩,⟨some 40,.ia 1 (.tmp 36) (.tmp 37),none⟩,⟨none,.store 1 (.tmp 40) (.tmp 39),none⟩])))) (.reg false [⟨some 14,.mov (.tmp 4),none⟩,⟨some 15,.bin .add (.tmp 14) (.lit (.int .i64 1)),none⟩,⟨some 4,.mov (.tmp 15),none⟩])))))) (.seq (.reg false [⟨some 41,.mov (.tmp 3),none⟩,⟨some 2,.mov (.tmp 41),none⟩]) .ret))),[.tmp 2]⟩
def c63 : AFn := ⟨24,.seq (.reg false [⟨some 4,.mov (.lit (.bool false)),none⟩]) (.seq (.seq (.reg false [⟨some 5,.mov (.tmp 0),none⟩,⟨some 6,.lens (.tmp 5),none⟩,⟨some 7,.bin .eql (.tmp 6) (.lit (.int .i64 0)),none⟩,⟨some 8,.mov (.tmp 7),none⟩,⟨some 9,.mov (.tmp 0),some ((8,false))⟩,⟨some 10,.lens (.tmp 9),some ((8,false))⟩,⟨some 11,.bin .gtr (.tmp 10) (.lit (.int .i64 20)),some ((8,false))⟩,⟨some 12,.pick (.tmp 8) (.lit (.bool true)) (.tmp 11),none⟩,⟨some 13,.mov (.tmp 12),none⟩,⟨some 14,.mov (.tmp 1),some ((13,false))⟩,⟨some 15,.mov (.tmp 0),some ((13,false))⟩,⟨some 16,.idxs (.tmp 15) (.lit (.int .i64 0)),some ((13,false))⟩,⟨some 17,.call (.tmp 14) [.tmp 16],some ((13,false))⟩,⟨some 18,.not (.tmp 17),some ((13,false))⟩,⟨some 19,.pick (.tmp 13) (.lit (.bool true)) (.tmp 18),none⟩]) (.cond (.tmp 19) (.seq (.reg false [⟨some 4,.mov (.lit (.bool false)),none⟩]) .ret) .skip)) (.seq (.reg false [⟨some 20,.mov (.tmp 0),none⟩,⟨some 21,.s2b (.tmp 20),none⟩,⟨some 22,.call (.lit (.fn (.func 83) [] [])) [.tmp 21,.lit (.fn (.func 84) [] [])],none⟩,⟨some 23,.not (.tmp 22),none⟩,⟨some 4,.mov (.tmp 23),none⟩]) .ret)),[.tmp 4]⟩
def c64 : AFn := ⟨2,.seq (.reg false [⟨some 0,.alloc [.int .u8 0,.int .u8 0],none⟩]) (.seq (.reg false [⟨some 1,.build [.int .u8 0,.int .u8 0] [(0,1,.lit (.int .u8 65)),(1,1,.lit (.int .u8 90))],none⟩,⟨none,.store 2 (.tmp 0) (.tmp 1),none⟩]) .ret),[.cell 0 2 true]⟩
def c65 : AFn := ⟨15,.seq (.reg false [⟨some 2,.box (.tmp 0),none⟩,⟨some 4,.mov (.lit (.bool false)),none⟩]) (.seq (.reg false [⟨some 5,.mov (.tmp 1),none⟩,⟨some 6,.fa 0 (.tmp 2),none⟩,⟨some 7,.load 1 false (.tmp 6),none⟩,⟨some 8,.bin .geq (.tmp 5) (.tmp 7),none⟩,⟨some 9,.mov (.tmp 8),none⟩,⟨some 10,.mov (.tmp 1),some ((9,true))⟩,⟨some 11,.fa 1 (.tmp 2),some ((9,true))⟩,⟨some 12,.load 1 false (.tmp 11),some ((9,true))⟩,⟨some 13,.bin .leq (.tmp 10) (.tmp 12),some ((9,true))⟩,⟨some 14,.pick (.tmp 9) (.tmp 13) (.lit (.bool false)),none⟩,⟨some 4,.mov (.tmp 14),none⟩]) .ret),[.tmp 4]⟩
def c66 : AFn := ⟨56,.seq (.reg false [⟨some 2,.mov (.lit (.bool false)),none⟩]) (.seq (.seq (.reg false [⟨some 6,.mov (.tmp 0),none⟩,⟨some 7,.lens (.tmp 6),none⟩,⟨some 8,.bin .lss (.tmp 7) (.lit (.int .i64 1)),none⟩,⟨some 9,.mov (.tmp 8),none⟩,⟨some 10,.mov (.tmp 0),some ((9,false))⟩,⟨some 11,.lens (.tmp 10),some ((9,false))⟩,⟨some 12,.bin .gtr (.tmp 11) (.lit (.int .i64 20)),some ((9,false))⟩,⟨some 13,.pick (.tmp 9) (.lit (.bool true)) (.tmp 12),none⟩]) (.cond (.tmp 13) (.seq (.reg false [⟨some 2,.mov (.lit (.bool false)),none⟩]) .ret) .skip)) (.seq (.seq (.reg false [⟨some 3,.mov (.lit (.int .i64 0)),none⟩]) (.block 0 (.loop (.seq (.seq (.reg false [⟨some 14,.mov (.tmp 3),none⟩,⟨some 15,.mov (.tmp 0),none⟩,⟨some 16,.lens (.tmp 15),none⟩,⟨some 17,.bin .lss (.tmp 14) (.tmp 16),none⟩]) (.cond (.tmp 17) .skip (.exit 0))) (.seq (.block 1 (.seq (.reg false [⟨some 20,.mov (.tmp 0),none⟩,⟨some 21,.mov (.tmp 3),none⟩,⟨some 22,.idxs (.tmp 20) (.tmp 21),none⟩,⟨some 23,.bin .geq (.tmp 22) (.lit (.int .u8 48)),none⟩,⟨some 24,.mov (.tmp 23),none⟩,⟨some 25,.mov (.tmp 0),some ((24,true))⟩,⟨some 26,.mov (.tmp 3),some ((24,true))⟩,⟨some 27,.idxs (.tmp 25) (.tmp 26),some ((24,true))⟩,⟨some 28,.bin .leq (.tmp 27) (.lit (.int .u8 57)),some ((24,true))⟩,⟨some 29,.pick (.tmp 24) (.tmp 28) (.lit (.bool false)),none⟩,⟨some 30,.mov (.tmp 29),none⟩,⟨some 31,.mov (.tmp 0),some ((30,false))⟩,⟨some 32,.mov (.tmp 3),some ((30,false))⟩,⟨some 33,.idxs (.tmp 31) (.tmp 32),some ((30,false))⟩,⟨some 34,.bin .eql (.tmp 33) (.lit (.int .u8 95)),some ((30,false))⟩,⟨some 35,.pick (.tmp 30) (.lit (.bool true)) (.tmp 34),none⟩,⟨some 4,.mov (.tmp 35),none⟩]) (.seq (.reg false [⟨some 36,.mov (.tmp 0),none⟩,⟨some 37,.mov (.tmp 3),none⟩,⟨some 38,.idxs (.tmp 36) (.tmp 37),none⟩,⟨some 39,.call (.lit (.fn (.func 80) [] [])) [.tmp 38],none⟩,⟨some 40,.mov (.tmp 39),none⟩,⟨some 41,.mov (.tmp 0),some ((40,false))⟩,⟨some 42,.mov (.tmp 3),some ((40,false))⟩,⟨some 43,.idxs (.tmp 41) (.tmp 42),some ((40,false))⟩,⟨some 44,.call (.lit (.fn (.func 67) [] [])) [.tmp 43],some ((40,false))⟩,⟨some 45,.pick (.tmp 40) (.lit (.bool true)) (.tmp 44),none⟩,⟨some 5,.mov (.tmp 45),none⟩]) (.seq (.reg false [⟨some 46,.mov (.tmp 5),none⟩,⟨some 47,.not (.tmp 46),none⟩,⟨some 48,.mov (.tmp 47),none⟩,⟨some 49,.mov (.tmp 3),some ((48,true))⟩,⟨some 50,.bin .eql (.tmp 49) (.lit (.int .i64 0)),some ((48,true))⟩,⟨some 51,.mov (.tmp 50),some ((48,true))⟩,⟨some 52,.mov (.tmp 4),some ((51,false))⟩,⟨some 53,.not (.tmp 52),some ((51,false))⟩,⟨some 54,.pick (.tmp 51) (.lit (.bool true)) (.tmp 53),some ((48,true))⟩,⟨some 55,.pick (.tmp 48) (.tmp 54) (.lit (.bool false)),none⟩]) (.cond (.tmp 55) (.seq (.reg false [⟨some 2,.mov (.lit (.bool false)),none⟩]) .ret) .skip))))) (.reg false [⟨some 18,.mov (.tmp 3),none⟩,⟨some 19,.bin .add (.tmp 18) (.lit (.int .i64 1)),none⟩,⟨some 3,.mov (.tmp 19),none⟩])))))) (.seq (.reg false [⟨some 2,.mov (.lit (.bool true)),none⟩]) .ret))),[.tmp 2]⟩
def c67 : AFn := ⟨9,.seq (.reg false [⟨some 2,.mov (.lit (.bool false)),none⟩]) (.seq (.reg false [⟨some 3,.mov (.tmp 0),none⟩,⟨some 4,.bin .geq (.tmp 3) (.lit (.int .u8 65)),none⟩,⟨some 5,.mov (.tmp 4),none⟩,⟨some 6,.mov (.tmp 0),some ((5,true))⟩,⟨some 7,.bin .leq (.tmp 6) (.lit (.int .u8 90)),some ((5,true))⟩,⟨some 8,.pick (.tmp 5) (.tmp 7) (.lit (.bool false)),none⟩,⟨some 2,.mov (.tmp 8),none⟩]) .ret),[.tmp 2]⟩
def c68 : AFn := ⟨21,.seq (.reg false [⟨some 2,.alloc [.int .i64 0,.int .i64 0,.int .i64 0,.nilS],none⟩,⟨some 3,.mov (.lit (.bool false)),none⟩]) (.seq (.seq (.reg false [⟨some 4,.mov (.tmp 0),none⟩,⟨some 5,.len (.tmp 4),none⟩,⟨some 6,.bin .lss (.tmp 5) (.lit (.int .i64 3)),none⟩]) (.cond (.tmp 6) (.seq (.reg false [⟨some 7,.build [.int .i64 0,.int .i64 0,.int .i64 0,.nilS] [],none⟩,⟨none,.store 4 (.tmp 2) (.tmp 7),none⟩,⟨some 3,.mov (.lit (.bool false)),none⟩]) .ret) .skip)) (.seq (.reg true [⟨some 8,.mov (.tmp 0),none⟩,⟨some 9,.ia 1 (.tmp 8) (.lit (.int .i64 0)),none⟩,⟨some 10,.load 1 false (.tmp 9),none⟩,⟨some 11,.mov (.tmp 0),none⟩,⟨some 12,.ia 1 (.tmp 11) (.lit (.int .i64 1)),none⟩,⟨some 13,.load 1 false (.tmp 12),none⟩,⟨some 14,.mov (.tmp 0),none⟩,⟨some 15,.ia 1 (.tmp 14) (.lit (.int .i64 2)),none⟩,⟨some 16,.load 1 false (.tmp 15),none⟩,⟨some 17,.mov (.tmp 0),none⟩,⟨some 18,.slc 1 (.tmp 17) (some (.lit (.int .i64 3))) none none,none⟩,⟨some 19,.call (.lit (.fn (.func 48) [] [])) [.tmp 18],none⟩,⟨some 20,.build [.int .i64 0,.int .i64 0,.int .i64 0,.nilS] [(0,1,.tmp 10),(1,1,.tmp 13),(2,1,.tmp 16),(3,1,.tmp 19)],none⟩,⟨none,.store 4 (.tmp 2) (.tmp 20),none⟩,⟨some 3,.mov (.lit (.bool true)),none⟩]) .ret)),[.cell 2 4 true,.tmp 3]⟩
def c69 : AFn := ⟨28,.seq (.reg false [⟨some 4,.mov (.tmp 0),none⟩,⟨some 5,.len (.tmp 4),none⟩,⟨some 6,.bin .sub (.tmp 5) (.lit (.int .i64 1)),none⟩,⟨some 2,.mov (.lit (.int .i64 0)),none⟩,⟨some 3,.mov (.tmp 6),none⟩]) (.block 0 (.loop (.seq (.seq (.reg false [⟨some 7,.mov (.tmp 2),none⟩,⟨some 8,.mov (.tmp 3),none⟩,⟨some 9,.bin .lss (.tmp 7) (.tmp 8),none⟩]) (.cond (.tmp 9) .skip (.exit 0))) (.seq (.block 1 (.reg true [⟨some 14,.mov (.tmp 0),none⟩,⟨some 15,.mov (.tmp 2),none⟩,⟨some 16,.mov (.tmp 0),none⟩,⟨some 17,.mov (.tmp 3),none⟩,⟨some 18,.mov (.tmp 0),none⟩,⟨some 19,.mov (.tmp 3),none⟩,⟨some 20,.ia 1 (.tmp 18) (.tmp 19),none⟩,⟨some 21,.load 1 false (.tmp 20),none⟩,⟨some 22,.mov (.tmp 0),none⟩,⟨some 23,.mov (.tmp 2),none⟩,⟨some 24,.ia 1 (.tmp 22) (.tmp 23),none⟩,⟨some 25,.load 1 false (.tmp 24),none⟩,⟨some 26,.ia 1 (.tmp 14) (.tmp 15),none⟩,⟨none,.store 1 (.tmp 26) (.tmp 21),none⟩,⟨some 27,.ia 1 (.tmp 16) (.tmp 17),none⟩,⟨none,.store 1 (.tmp 27) (.tmp 25),none⟩])) (.reg false [⟨some 10,.mov (.tmp 2),none⟩,⟨some 11,.bin .add (.tmp 10) (.lit (.int .i64 1)),none⟩,⟨some 12,.mov (.tmp 3),none⟩,⟨some 13,.bin .sub (.tmp 12) (.lit (.int .i64 1)),none⟩,⟨some 2,.mov (.tmp 11),none⟩,⟨some 3,.mov (.tmp 13),none⟩]))))),[]⟩
def c70 : AFn := ⟨8,.seq (.reg false [⟨some 1,.box (.tmp 0),none⟩,⟨some 2,.mov (.lit (.int .i64 0)),none⟩]) (.seq (.seq (.reg false [⟨some 3,.fa 0 (.tmp 1),none⟩,⟨some 4,.load 1 false (.tmp 3),none⟩,⟨some 5,.bin .eql (.tmp 4) (.lit (.int .i64 6)),none⟩]) (.cond (.tmp 5) (.seq (.reg false [⟨some 2,.mov (.lit (.int .i64 1)),none⟩]) .ret) .skip)) (.seq (.reg false [⟨some 6,.fa 2 (.tmp 1),none⟩,⟨some 7,.load 1 false (.tmp 6),none⟩,⟨some 2,.mov (.tmp 7),none⟩]) .ret)),[.tmp 2]⟩
def c71 : AFn := ⟨67,.seq (.reg false [⟨some 1,.box (.tmp 0),none⟩,⟨some 2,.mov (.lit (.bool false)),none⟩]) (.seq (.seq (.reg false [⟨some 3,.fa 0 (.tmp 1),none⟩,⟨some 4,.load 1 false (.tmp 3),none⟩]) (.block 0 (.seq (.seq (.reg false [⟨some 6,.bin .eql (.tmp 4) (.lit (.int .i64 0)),none⟩,⟨some 5,.mov (.tmp 6),none⟩]) (.cond (.tmp 5) .skip (.reg false [⟨some 7,.bin .eql (.tmp 4) (.lit (.int .i64 1)),none⟩,⟨some 5,.mov (.tmp 7),none⟩]))) (.cond (.tmp 5) (.seq (.reg false [⟨some 8,.fa 1 (.tmp 1),none⟩,⟨some 9,.load 1 false (.tmp 8),none⟩,⟨some 10,.bin .eql (.tmp 9) (.lit (.str ⟨#[]⟩)),none⟩,⟨some 11,.mov (.tmp 10),none⟩,⟨some 12,.fa 2 (.tmp 1),some ((11,true))⟩,⟨some 13,.load 1 false (.tmp 12),some ((11,true))⟩,⟨some 14,.bin .eql (.tmp 13) (.lit (.int .i64 0)),some ((11,true))⟩,⟨some 15,.pick (.tmp 11) (.tmp 14) (.lit (.bool false)),none⟩,⟨some 2,.mov (.tmp 15),none⟩]) .ret) (.seq (.reg false [⟨some 17,.bin .eql (.tmp 4) (.lit (.int .i64 2)),none⟩,⟨some 16,.mov (.tmp 17),none⟩]) (.cond (.tmp 16) (.seq (.reg false [⟨some 18,.fa 1 (.tmp 1),none⟩,⟨some 19,.load 1 false (.tmp 18),none⟩,⟨some 20,.call (.lit (.fn (.func 30) [] [])) [.tmp 19],none⟩,⟨some 21,.mov (.tmp 20),none⟩,⟨some 22,.fa 2 (.tmp 1),some ((21,true))⟩,⟨some 23,.load 1 false (.tmp 22),some ((21,true))⟩,⟨some 24,.bin .eql (.tmp 23) (.lit (.int .i64 0)),some ((21,true))⟩,⟨some 25,.pick (.tmp 21) (.tmp 24) (.lit (.bool false)),none⟩,⟨some 2,.mov (.tmp 25),none⟩]) .ret) (.seq (.reg false [⟨some 27,.bin .eql (.tmp 4) (.lit (.int .i64 3)),none⟩,⟨some 26,.mov (.tmp 27),none⟩]) (.cond (.tmp 26) (.seq (.reg false [⟨some 28,.fa 1 (.tmp 1),none⟩,⟨some 29,.load 1 false (.tmp 28),none⟩,⟨some 30,.call (.lit (.fn (.func 86) [] [])) [.tmp 29],none⟩,⟨some 31,.mov (.tmp 30),none⟩,⟨some 32,.fa 2 (.tmp 1),some ((31,true))⟩,⟨some 33,.load 1 false (.tmp 32),some ((31,true))⟩,⟨some 34,.bin .geq (.tmp 33) (.lit (.int .i64 0)),some ((31,true))⟩,⟨some 35,.pick (.tmp 31) (.tmp 34) (.lit (.bool false)),none⟩,⟨some 36,.mov (.tmp 35),none⟩,⟨some 37,.fa 2 (.tmp 1),some ((36,true))⟩,⟨some 38,.load 1 false (.tmp 37),some ((36,true))⟩,⟨some 39,.bin .leq (.tmp 38) (.lit (.int .i64 8)),some ((36,true))⟩,⟨some 40,.pick (.tmp 36) (.tmp 39) (.lit (.bool false)),none⟩,⟨some 2,.mov (.tmp 40),none⟩]) .ret) (.seq (.reg false [⟨some 42,.bin .eql (.tmp 4) (.lit (.int .i64 6)),none⟩,⟨some 41,.mov (.tmp 42),none⟩]) (.cond (.tmp 41) (.seq (.reg false [⟨some 43,.fa 1 (.tmp 1),none⟩,⟨some 44,.load 1 false (.tmp 43),none⟩,⟨some 45,.call (.lit (.fn (.func 86) [] [])) [.tmp 44],none⟩,⟨some 46,.mov (.tmp 45),none⟩,⟨some 47,.fa 2 (.tmp 1),some ((46,true))⟩,⟨some 48,.load 1 false (.tmp 47),some ((46,true))⟩,⟨some 49,.bin .geq (.tmp 48) (.lit (.int .i64 1)),some ((46,true))⟩,⟨some 50,.pick (.tmp 46) (.tmp 49) (.lit (.bool false)),none⟩,⟨some 51,.mov (.tmp 50),none⟩,⟨some 52,.fa 2 (.tmp 1),some ((51,true))⟩,⟨some 53,.load 1 false (.tmp 52),some ((51,true))⟩,⟨some 54,.bin .leq (.tmp 53) (.lit (.int .i64 8)),some ((51,true))⟩,⟨some 55,.pick (.tmp 51) (.tmp 54) (.lit (.bool false)),none⟩,⟨some 2,.mov (.tmp 55),none⟩]) .ret) (.seq (.seq (.reg false [⟨some 57,.bin .eql (.tmp 4) (.lit (.int .i64 4)),none⟩,⟨some 56,.mov (.tmp 57),none⟩]) (.cond (.tmp 56) .skip (.reg false [⟨some 58,.bin .eql (.tmp 4) (.lit (.int .i64 5)),none⟩,⟨some 56,.mov (.tmp 58),none⟩]))) (.cond (.tmp 56) (.seq (.reg false [⟨some 59,.fa 1 (.tmp 1),none⟩,⟨some 60,.load 1 false (.tmp 59),none⟩,⟨some 61,.bin .eql (.tmp 60) (.lit (.str ⟨#[]⟩)),none⟩,⟨some 62,.mov (.tmp 61),none⟩,⟨some 63,.fa 2 (.tmp 1),some ((62,true))⟩,⟨some 64,.load 1 false (.tmp 63),some ((62,true))⟩,⟨some 65,.bin .eql (.tmp 64) (.lit (.int .i64 2)),some ((62,true))⟩,⟨some 66,.pick (.tmp 62) (.tmp 65) (.lit (.bool false)),none⟩,⟨some 2,.mov (.tmp 66),none⟩]) .ret) .skip)))))))))))) (.seq (.reg false [⟨some 2,.mov (.lit (.bool false)),none⟩]) .ret)),[.tmp 2]⟩
def c74 : AFn := ⟨19,.seq (.reg false [⟨some 4,.mov (.lit (.int .i64 0)),none⟩]) (.seq (.seq (.reg false [⟨some 6,.mov (.tmp 0),none⟩,⟨some 7,.len (.tmp 6),none⟩,⟨some 8,.mov (.lit (.int .i64 0)),none⟩]) (.block 0 (.loop (.seq (.reg false [⟨some 9,.bin .lss (.tmp 8) (.tmp 7),none⟩]) (.seq (.cond (.tmp 9) .skip (.exit 0)) (.seq (.block 1 (.seq (.reg false [⟨some 10,.mov (.tmp 8),none⟩,⟨some 5,.mov (.tmp 10),none⟩]) (.seq (.reg false [⟨some 11,.mov (.tmp 1),none⟩,⟨some 12,.mov (.tmp 0),none⟩,⟨some 13,.mov (.tmp 5),none⟩,⟨some 14,.ia 2 (.tmp 12) (.tmp 13),none⟩,⟨some 15,.load 2 true (.tmp 14),none⟩,⟨some 16,.call (.tmp 11) [.tmp 15],none⟩]) (.cond (.tmp 16) (.seq (.reg false [⟨some 17,.mov (.tmp 5),none⟩,⟨some 4,.mov (.tmp 17),none⟩]) .ret) .skip)))) (.reg false [⟨some 18,.bin .add (.tmp 8) (.lit (.int .i64 1)),none⟩,⟨some 8,.mov (.tmp 18),none⟩]))))))) (.seq (.reg false [⟨some 4,.mov (.lit (.int .i64 (-1))),none⟩]) .ret)),[.tmp 4]⟩
def c75 : AFn := ⟨8,.seq (.reg false [⟨some 2,.box (.tmp 0),none⟩,⟨some 3,.mov (.lit (.bool false)),none⟩]) (.seq (.reg false [⟨some 4,.fa 0 (.tmp 2),none⟩,⟨some 5,.load 1 false (.tmp 4),none⟩,⟨some 6,.load 1 false (.tmp 1),none⟩,⟨some 7,.bin .eql (.tmp 5) (.tmp 6),none⟩,⟨some 3,.mov (.tmp 7),none⟩]) .ret),[.tmp 3]⟩
def c76 : AFn := ⟨13,.seq (.reg false [⟨some 4,.box (.tmp 1),none⟩,⟨some 5,.box (.tmp 2),none⟩,⟨some 6,.mov (.lit (.bool false)),none⟩]) (.seq (.reg false [⟨some 7,.mov (.tmp 0),none⟩,⟨some 8,.fa 0 (.tmp 4),none⟩,⟨some 9,.load 1 false (.tmp 8),none⟩,⟨some 10,.len (.tmp 9),none⟩,⟨some 11,.load 4 true (.tmp 5),none⟩,⟨some 12,.call (.lit (.fn (.func 94) [] [])) [.tmp 7,.tmp 10,.tmp 11],none⟩,⟨some 6,.mov (.tmp 12),none⟩]) .ret),[.tmp 6]⟩
def c78 : AFn := ⟨13,.seq (.reg false [⟨some 1,.box (.tmp 0),none⟩,⟨some 2,.mov (.lit .nilS),none⟩]) (.seq (.reg false [⟨some 3,.fa 0 (.tmp 1),none⟩,⟨some 4,.load 1 false (.tmp 3),none⟩,⟨some 5,.fa 1 (.tmp 1),none⟩,⟨some 6,.load 1 false (.tmp 5),none⟩,⟨some 7,.fa 2 (.tmp 1),none⟩,⟨some 8,.load 1 false (.tmp 7),none⟩,⟨some 9,.bslice 1 3 [.int .i64 0] [(0,.tmp 4),(1,.tmp 6),(2,.tmp 8)],none⟩,⟨some 10,.fa 3 (.tmp 1),none⟩,⟨some 11,.load 1 false (.tmp 10),none⟩,⟨some 12,.app 1 8 (.tmp 9) (.tmp 11),none⟩,⟨some 2,.mov (.tmp 12),none⟩]) .ret),[.tmp 2]⟩
def c79 : AFn := ⟨21,.seq (.reg false [⟨some 4,.mov (.lit (.int .i64 0)),none⟩]) (.seq (.seq (.reg false [⟨some 5,.mov (.lit (.int .i64 0)),none⟩]) (.block 0 (.loop (.seq (.seq (.reg false [⟨some 7,.mov (.tmp 5),none⟩,⟨some 8,.mov (.tmp 0),none⟩,⟨some 9,.len (.tmp 8),none⟩,⟨some 10,.bin .lss (.tmp 7) (.tmp 9),none⟩]) (.cond (.tmp 10) .skip (.exit 0))) (.seq (.block 1 (.seq (.reg false [⟨some 13,.mov (.tmp 0),none⟩,⟨some 14,.mov (.tmp 5),none⟩,⟨some 15,.ia 1 (.tmp 13) (.tmp 14),none⟩,⟨some 16,.load 1 false (.tmp 15),none⟩,⟨some 17,.mov (.tmp 1),none⟩,⟨some 18,.call (.lit (.fn (.func 25) [] [])) [.tmp 16,.tmp 17],none⟩,⟨some 6,.mov (.tmp 18),none⟩]) (.seq (.reg false [⟨some 19,.mov (.tmp 6),none⟩]) (.cond (.tmp 19) (.seq (.reg false [⟨some 20,.mov (.tmp 5),none⟩,⟨some 4,.mov (.tmp 20),none⟩]) .ret) .skip)))) (.reg false [⟨some 11,.mov (.tmp 5),none⟩,⟨some 12,.bin .add (.tmp 11) (.lit (.int .i64 1)),none⟩,⟨some 5,.mov (.tmp 12),none⟩])))))) (.seq (.reg false [⟨some 4,.mov (.lit (.int .i64 (-1))),none⟩]) .ret)),[.tmp 4]⟩
def c80 : AFn := ⟨9,.seq (.reg false [⟨some 2,.mov (.lit (.bool false)),none⟩]) (.seq (.reg false [⟨some 3,.mov (.tmp 0),none⟩,⟨some 4,.bin .geq (.tmp 3) (.lit (.int .u8 97)),none⟩,⟨some 5,.mov (.tmp 4),none⟩,⟨some 6,.mov (.tmp 0),some ((5,true))⟩,⟨some 7,.bin .leq (.tmp 6) (.lit (.int .u8 122)),some ((5,true))⟩,⟨some 8,.pick (.tmp 5) (.tmp 7) (.lit (.bool false)),none⟩,⟨some 2,.mov (.tmp 8),none⟩]) .ret),[.tmp 2]⟩
def c81 : AFn := ⟨12,.seq (.reg false [⟨some 2,.mov (.lit (.int .i64 0)),none⟩]) (.seq (.reg false [⟨some 3,.mov (.lit (.int .i64 8)),none⟩]) (.seq (.block 0 (.loop (.seq (.seq (.reg false [⟨some 4,.mov (.tmp 3),none⟩,⟨some 5,.bin .mul (.tmp 4) (.lit (.int .i64 3)),none⟩,⟨some 6,.mov (.tmp 0),none⟩,⟨some 7,.bin .mul (.tmp 6) (.lit (.int .i64 4)),none⟩,⟨some 8,.bin .lss (.tmp 5) (.tmp 7),none⟩]) (.cond (.tmp 8) .skip (.exit 0))) (.block 1 (.reg false [⟨some 9,.mov (.tmp 3),none⟩,⟨some 10,.bin .mul (.tmp 9) (.lit (.int .i64 2)),none⟩,⟨some 3,.mov (.tmp 10),none⟩]))))) (.seq (.reg false [⟨some 11,.mov (.tmp 3),none⟩,⟨some 2,.mov (.tmp 11),none⟩]) .ret))),[.tmp 2]⟩
def c82 : AFn := ⟨32,.seq (.reg false [⟨some 2,.mov (.lit (.int .u32 0)),none⟩]) (.seq (.reg false [⟨some 3,.mov (.lit (.int .u32 2166136261)),none⟩]) (.seq (.seq (.reg false [⟨some 4,.mov (.lit (.int .i64 0)),none⟩]) (.block 0 (.loop (.seq (.seq (.reg false [⟨some 7,.mov (.tmp 4),none⟩,⟨some 8,.mov (.tmp 0),none⟩,⟨some 9,.len (.tmp 8),none⟩,⟨some 10,.bin .lss (.tmp 7) (.tmp 9),none⟩]) (.cond (.tmp 10) .skip (.exit 0))) (.seq (.block 1 (.seq (.reg false [⟨some 13,.mov (.tmp 0),none⟩,⟨some 14,.mov (.tmp 4),none⟩,⟨some 15,.ia 1 (.tmp 13) (.tmp 14),none⟩,⟨some 16,.load 1 false (.tmp 15),none⟩,⟨some 17,.cint .u64 (.tmp 16),none⟩,⟨some 5,.mov (.tmp 17),none⟩]) (.seq (.reg false [⟨some 6,.mov (.lit (.int .i64 0)),none⟩]) (.block 2 (.loop (.seq (.seq (.reg false [⟨some 18,.mov (.tmp 6),none⟩,⟨some 19,.bin .lss (.tmp 18) (.lit (.int .i64 8)),none⟩]) (.cond (.tmp 19) .skip (.exit 2))) (.seq (.block 3 (.seq (.reg false [⟨some 22,.mov (.tmp 3),none⟩,⟨some 23,.mov (.tmp 5),none⟩,⟨some 24,.bin .rem (.tmp 23) (.lit (.int .u64 256)),none⟩,⟨some 25,.cint .u32 (.tmp 24),none⟩,⟨some 26,.bin .xor (.tmp 22) (.tmp 25),none⟩,⟨some 3,.mov (.tmp 26),none⟩]) (.seq (.reg false [⟨some 27,.mov (.tmp 3),none⟩,⟨some 28,.bin .mul (.tmp 27) (.lit (.int .u32 16777619)),none⟩,⟨some 3,.mov (.tmp 28),none⟩]) (.reg false [⟨some 29,.mov (.tmp 5),none⟩,⟨some 30,.bin .quo (.tmp 29) (.lit (.int .u64 256)),none⟩,⟨some 5,.mov (.tmp 30),none⟩])))) (.reg false [⟨some 20,.mov (.tmp 6),none⟩,⟨some 21,.bin .add (.tmp 20) (.lit (.int .i64 1)),none⟩,⟨some 6,.mov (.tmp 21),none⟩])))))))) (.reg false [⟨some 11,.mov (.tmp 4),none⟩,⟨some 12,.bin .add (.tmp 11) (.lit (.int .i64 1)),none⟩,⟨some 4,.mov (.tmp 12),none⟩])))))) (.seq (.reg false [⟨some 31,.mov (.tmp 3),none⟩,⟨some 2,.mov (.tmp 31),none⟩]) .ret))),[.tmp 2]⟩
def c83 : AFn := ⟨9,.seq (.reg false [⟨some 4,.mov (.lit (.bool false)),none⟩]) (.seq (.reg false [⟨some 5,.mov (.tmp 0),none⟩,⟨some 6,.mov (.tmp 1),none⟩,⟨some 7,.call (.lit (.fn (.func 100) [] [])) [.tmp 5,.tmp 6],none⟩,⟨some 8,.bin .geq (.tmp 7) (.lit (.int .i64 0)),none⟩,⟨some 4,.mov (.tmp 8),none⟩]) .ret),[.tmp 4]⟩
def c84 : AFn := ⟨6,.seq (.reg false [⟨some 2,.mov (.lit (.bool false)),none⟩]) (.seq (.reg false [⟨some 3,.mov (.tmp 0),none⟩,⟨some 4,.call (.lit (.fn (.func 85) [] [])) [.tmp 3],none⟩,⟨some 5,.not (.tmp 4),none⟩,⟨some 2,.mov (.tmp 5),none⟩]) .ret),[.tmp 2]⟩
def c85 : AFn := ⟨20,.seq (.reg false [⟨some 2,.mov (.lit (.bool false)),none⟩]) (.seq (.reg false [⟨some 3,.call (.lit (.fn (.func 101) [] [])) [],none⟩,⟨some 4,.mov (.tmp 0),none⟩,⟨some 5,.call (.lit (.fn (.func 65) [] [])) [.tmp 3,.tmp 4],none⟩,⟨some 6,.mov (.tmp 5),none⟩,⟨some 7,.call (.lit (.fn (.func 64) [] [])) [],some ((6,false))⟩,⟨some 8,.mov (.tmp 0),some ((6,false))⟩,⟨some 9,.call (.lit (.fn (.func 65) [] [])) [.tmp 7,.tmp 8],some ((6,false))⟩,⟨some 10,.pick (.tmp 6) (.lit (.bool true)) (.tmp 9),none⟩,⟨some 11,.mov (.tmp 10),none⟩,⟨some 12,.build [.int .u8 0,.int .u8 0] [(0,1,.lit (.int .u8 48)),(1,1,.lit (.int .u8 57))],some ((11,false))⟩,⟨some 13,.mov (.tmp 0),some ((11,false))⟩,⟨some 14,.call (.lit (.fn (.func 65) [] [])) [.tmp 12,.tmp 13],some ((11,false))⟩,⟨some 15,.pick (.tmp 11) (.lit (.bool true)) (.tmp 14),none⟩,⟨some 16,.mov (.tmp 15),none⟩,⟨some 17,.mov (.tmp 0),some ((16,false))⟩,⟨some 18,.bin .eql (.tmp 17) (.lit (.int .u8 95)),some ((16,false))⟩,⟨some 19,.pick (.tmp 16) (.lit (.bool true)) (.tmp 18),none⟩,⟨some 2,.mov (.tmp 19),none⟩]) .ret),[.tmp 2]⟩
def c86 : AFn := ⟨7,.seq (.reg false [⟨some 2,.mov (.lit (.bool false)),none⟩]) (.seq (.reg false [⟨some 3,.mov (.tmp 0),none⟩,⟨some 4,.call (.lit (.fn (.func 101) [] [])) [],none⟩,⟨some 5,.mkfn (.func 65) [.tmp 4] [],none⟩,⟨some 6,.call (.lit (.fn (.func 63) [] [])) [.tmp 3,.tmp 5],none⟩,⟨some 2,.mov (.tmp 6),none⟩]) .ret),[.tmp 2]⟩
def c87 : AFn := ⟨36,.seq (.reg false [⟨some 2,.mov (.lit .nilS),none⟩]) (.seq (.reg false [⟨some 6,.mov (.tmp 0),none⟩,⟨some 7,.len (.tmp 6),none⟩,⟨some 8,.mksl 1 8 [.int .i64 0] (.tmp 7) (.tmp 7),none⟩,⟨some 3,.mov (.tmp 8),none⟩]) (.seq (.seq (.reg false [⟨some 9,.mov (.tmp 0),none⟩,⟨some 10,.len (.tmp 9),none⟩,⟨some 11,.mov (.lit (.int .i64 0)),none⟩]) (.block 0 (.loop (.seq (.reg false [⟨some 12,.bin .lss (.tmp 11) (.tmp 10),none⟩]) (.seq (.cond (.tmp 12) .skip (.exit 0)) (.seq (.block 1 (.seq (.reg false [⟨some 13,.mov (.tmp 11),none⟩,⟨some 4,.mov (.tmp 13),none⟩]) (.seq (.reg false [⟨some 14,.mov (.tmp 3),none⟩,⟨some 15,.mov (.tmp 4),none⟩,⟨some 16,.mov (.tmp 4),none⟩,⟨some 17,.ia 1 (.tmp 14) (.tmp 15),none⟩,⟨none,.store 1 (.tmp 17) (.tmp 16),none⟩]) (.seq (.reg false [⟨some 18,.mov (.tmp 0),none⟩,⟨some 19,.mov (.tmp 3),none⟩,⟨some 20,.mov (.tmp 4),none⟩,⟨some 21,.call (.lit (.fn (.func 102) [] [])) [.tmp 18,.tmp 19,.tmp 20],none⟩,⟨some 5,.mov (.tmp 21),none⟩]) (.seq (.reg false [⟨some 22,.mov (.tmp 5),none⟩,⟨some 23,.len (.tmp 22),none⟩,⟨some 24,.bin .gtr (.tmp 23) (.lit (.int .i64 0)),none⟩]) (.cond (.tmp 24) (.reg false [⟨some 25,.mov (.tmp 3),none⟩,⟨some 26,.mov (.tmp 4),none⟩,⟨some 27,.mov (.tmp 3),none⟩,⟨some 28,.mov (.tmp 5),none⟩,⟨some 29,.ia 1 (.tmp 28) (.lit (.int .i64 0)),none⟩,⟨some 30,.load 1 false (.tmp 29),none⟩,⟨some 31,.ia 1 (.tmp 27) (.tmp 30),none⟩,⟨some 32,.load 1 false (.tmp 31),none⟩,⟨some 33,.ia 1 (.tmp 25) (.tmp 26),none⟩,⟨none,.store 1 (.tmp 33) (.tmp 32),none⟩]) .skip)))))) (.reg false [⟨some 34,.bin .add (.tmp 11) (.lit (.int .i64 1)),none⟩,⟨some 11,.mov (.tmp 34),none⟩]))))))) (.seq (.reg false [⟨some 35,.mov (.tmp 3),none⟩,⟨some 2,.mov (.tmp 35),none⟩]) .ret))),[.tmp 2]⟩
def c88 : AFn := ⟨6,.seq (.reg false [⟨some 4,.mov (.lit (.str ⟨#[]⟩)),none⟩,⟨some 5,.mov (.lit (.int .i64 0)),none⟩]) (.seq (.reg false [⟨some 4,.mov (.lit (.str ⟨#[48]⟩)),none⟩,⟨some 5,.mov (.lit (.int .i64 0)),none⟩]) .ret),[.tmp 4,.tmp 5]⟩
def c89 : AFn := ⟨6,.seq (.reg false [⟨some 4,.mov (.lit (.str ⟨#[]⟩)),none⟩,⟨some 5,.mov (.lit (.int .i64 0)),none⟩]) (.seq (.reg false [⟨some 4,.mov (.lit (.str ⟨#[49]⟩)),none⟩,⟨some 5,.mov (.lit (.int .i64 0)),none⟩]) .ret),[.tmp 4,.tmp 5]⟩
def c90 : AFn := ⟨14,.seq (.reg false [⟨some 4,.mov (.lit (.str ⟨#[]⟩)),none⟩,⟨some 5,.mov (.lit (.int .i64 0)),none⟩]) (.seq (.reg false [⟨some 6,.mov (.tmp 0),none⟩,⟨some 7,.nilc (.tmp 6),none⟩,⟨some 8,.fa 0 (.tmp 7),none⟩,⟨some 9,.load 1 false (.tmp 8),none⟩,⟨some 10,.mov (.tmp 1),none⟩,⟨some 11,.ia 3 (.tmp 9) (.tmp 10),none⟩,⟨some 12,.fa 1 (.tmp 11),none⟩,⟨some 13,.load 1 false (.tmp 12),none⟩,⟨some 4,.mov (.tmp 13),none⟩,⟨some 5,.mov (.lit (.int .i64 0)),none⟩]) .ret),[.tmp 4,.tmp 5]⟩
def c93 : AFn := ⟨37,.seq (.reg false [⟨some 4,.mov (.lit (.str ⟨#[]⟩)),none⟩,⟨some 5,.mov (.lit (.int .i64 0)),none⟩]) (.seq (.reg false [⟨some 9,.mov (.tmp 0),none⟩,⟨some 10,.mov (.tmp 1),none⟩,⟨some 11,.bin .sub (.tmp 10) (.lit (.int .i64 1)),none⟩,⟨some 12,.call (.lit (.fn (.func 103) [] [])) [.tmp 9,.tmp 11,.lit (.bool true)],none⟩,⟨some 8,.mov (.tmp 12),none⟩,⟨some 13,.ext (.tmp 8) 0,none⟩,⟨some 14,.ext (.tmp 8) 1,none⟩,⟨some 6,.mov (.tmp 13),none⟩,⟨some 7,.mov (.tmp 14),none⟩]) (.seq (.reg true [⟨some 15,.mov (.tmp 0),none⟩,⟨some 16,.nilc (.tmp 15),none⟩,⟨some 17,.fa 0 (.tmp 16),none⟩,⟨some 18,.load 1 false (.tmp 17),none⟩,⟨some 19,.mov (.tmp 1),none⟩,⟨some 20,.ia 3 (.tmp 18) (.tmp 19),none⟩,⟨some 21,.fa 1 (.tmp 20),none⟩,⟨some 22,.load 1 false (.tmp 21),none⟩,⟨some 23,.bin .add (.tmp 22) (.lit (.str ⟨#[126]⟩)),none⟩,⟨some 24,.mov (.tmp 0),none⟩,⟨some 25,.nilc (.tmp 24),none⟩,⟨some 26,.fa 0 (.tmp 25),none⟩,⟨some 27,.load 1 false (.tmp 26),none⟩,⟨some 28,.mov (.tmp 1),none⟩,⟨some 29,.ia 3 (.tmp 27) (.tmp 28),none⟩,⟨some 30,.fa 2 (.tmp 29),none⟩,⟨some 31,.load 1 false (.tmp 30),none⟩,⟨some 32,.call (.lit (.fn (.func 106) [] [])) [.tmp 31],none⟩,⟨some 33,.bin .add (.tmp 23) (.tmp 32),none⟩,⟨some 34,.mov (.tmp 6),none⟩,⟨some 35,.bin .add (.tmp 33) (.tmp 34),none⟩,⟨some 36,.mov (.tmp 7),none⟩,⟨some 4,.mov (.tmp 35),none⟩,⟨some 5,.mov (.tmp 36),none⟩]) .ret)),[.tmp 4,.tmp 5]⟩
def c95 : AFn := ⟨35,.seq (.reg false [⟨some 2,.box (.tmp 0),none⟩,⟨some 3,.box (.tmp 1),none⟩,⟨some 4,.alloc [.int .i64 0],none⟩]) (.seq (.seq (.reg false [⟨some 7,.fa 1 (.tmp 2),none⟩,⟨some 8,.load 1 false (.tmp 7),none⟩,⟨some 9,.len (.tmp 8),none⟩,⟨some 10,.bin .eql (.tmp 9) (.lit (.int .i64 0)),none⟩]) (.cond (.tmp 10) (.seq (.reg false [⟨none,.store 1 (.tmp 4) (.lit (.int .i64 (-1))),none⟩]) .ret) .skip)) (.seq (.seq (.reg false [⟨some 11,.load 1 false (.tmp 3),none⟩,⟨some 12,.fa 1 (.tmp 2),none⟩,⟨some 13,.load 1 false (.tmp 12),none⟩,⟨some 14,.len (.tmp 13),none⟩,⟨some 15,.call (.lit (.fn (.func 109) [] [])) [.tmp 11,.tmp 14],none⟩]) (.block 0 (.range (.tmp 15) [16] (.reg false [⟨some 5,.mov (.tmp 16),none⟩]) (.block 1 (.seq (.reg false [⟨some 17,.fa 1 (.tmp 2),none⟩,⟨some 18,.load 1 false (.tmp 17),none⟩,⟨some 19,.mov (.tmp 5),none⟩,⟨some 20,.ia 1 (.tmp 18) (.tmp 19),none⟩,⟨some 21,.load 1 false (.tmp 20),none⟩,⟨some 22,.bin .sub (.tmp 21) (.lit (.int .i64 1)),none⟩,⟨some 6,.mov (.tmp 22),none⟩]) (.seq (.reg true [⟨some 23,.mov (.tmp 6),none⟩,⟨some 24,.bin .lss (.tmp 23) (.lit (.int .i64 0)),none⟩,⟨some 25,.mov (.tmp 24),none⟩,⟨some 26,.fa 0 (.tmp 2),some ((25,false))⟩,⟨some 27,.load 1 false (.tmp 26),some ((25,false))⟩,⟨some 28,.mov (.tmp 6),some ((25,false))⟩,⟨some 29,.ia 1 (.tmp 27) (.tmp 28),some ((25,false))⟩,⟨some 30,.load 1 false (.tmp 29),some ((25,false))⟩,⟨some 31,.load 1 false (.tmp 3),some ((25,false))⟩,⟨some 32,.call (.lit (.fn (.func 110) [] [])) [.tmp 30,.tmp 31],some ((25,false))⟩,⟨some 33,.pick (.tmp 25) (.lit (.bool true)) (.tmp 32),none⟩]) (.cond (.tmp 33) (.seq (.reg false [⟨some 34,.mov (.tmp 6),none⟩,⟨none,.store 1 (.tmp 4) (.tmp 34),none⟩]) .ret) .skip))))))) (.seq (.reg false [⟨none,.store 1 (.tmp 4) (.lit (.int .i64 (-1))),none⟩]) .ret))),[.cell 4 1 false]⟩
def c96 : AFn := ⟨9,.seq (.reg false [⟨some 2,.mov (.lit .nilS),none⟩]) (.seq (.reg false [⟨some 3,.mov (.tmp 0),none⟩,⟨some 4,.mov (.tmp 0),none⟩,⟨some 5,.len (.tmp 4),none⟩,⟨some 6,.mov (.tmp 0),none⟩,⟨some 7,.len (.tmp 6),none⟩,⟨some 8,.slc 1 (.tmp 3) none (some (.tmp 5)) (some (.tmp 7)),none⟩,⟨some 2,.mov (.tmp 8),none⟩]) .ret),[.tmp 2]⟩
def c97 : AFn := ⟨12,.seq (.reg false [⟨some 2,.mov (.lit (.int .i64 0)),none⟩]) (.seq (.reg false [⟨some 3,.mov (.lit (.int .i64 8)),none⟩]) (.seq (.block 0 (.loop (.seq (.seq (.reg false [⟨some 4,.mov (.tmp 0),none⟩,⟨some 5,.mov (.tmp 3),none⟩,⟨some 6,.bin .quo (.tmp 5) (.lit (.int .i64 4)),none⟩,⟨some 7,.bin .mul (.tmp 6) (.lit (.int .i64 3)),none⟩,⟨some 8,.bin .gtr (.tmp 4) (.tmp 7),none⟩]) (.cond (.tmp 8) .skip (.exit 0))) (.block 1 (.reg false [⟨some 9,.mov (.tmp 3),none⟩,⟨some 10,.bin .mul (.tmp 9) (.lit (.int .i64 2)),none⟩,⟨some 3,.mov (.tmp 10),none⟩]))))) (.seq (.reg false [⟨some 11,.mov (.tmp 3),none⟩,⟨some 2,.mov (.tmp 11),none⟩]) .ret))),[.tmp 2]⟩
def c98 : AFn := ⟨23,.seq (.reg false [⟨some 2,.mov (.lit .nilS),none⟩]) (.seq (.reg false [⟨some 6,.mov (.tmp 0),none⟩,⟨some 7,.len (.tmp 6),none⟩,⟨some 8,.call (.lit (.fn (.func 97) [] [])) [.tmp 7],none⟩,⟨some 9,.mksl 1 8 [.int .i64 0] (.tmp 8) (.tmp 8),none⟩,⟨some 3,.mov (.tmp 9),none⟩]) (.seq (.seq (.reg false [⟨some 10,.mov (.tmp 0),none⟩,⟨some 11,.len (.tmp 10),none⟩,⟨some 12,.mov (.lit (.int .i64 0)),none⟩]) (.block 0 (.loop (.seq (.reg false [⟨some 13,.bin .lss (.tmp 12) (.tmp 11),none⟩]) (.seq (.cond (.tmp 13) .skip (.exit 0)) (.seq (.block 1 (.seq (.reg false [⟨some 14,.mov (.tmp 12),none⟩,⟨some 15,.ia 1 (.tmp 10) (.tmp 12),none⟩,⟨some 16,.load 1 false (.tmp 15),none⟩,⟨some 4,.mov (.tmp 14),none⟩,⟨some 5,.mov (.tmp 16),none⟩]) (.reg false [⟨some 17,.mov (.tmp 3),none⟩,⟨some 18,.mov (.tmp 5),none⟩,⟨some 19,.mov (.tmp 4),none⟩,⟨some 20,.call (.lit (.fn (.func 99) [] [])) [.tmp 17,.tmp 18,.tmp 19],none⟩]))) (.reg false [⟨some 21,.bin .add (.tmp 12) (.lit (.int .i64 1)),none⟩,⟨some 12,.mov (.tmp 21),none⟩]))))))) (.seq (.reg false [⟨some 22,.mov (.tmp 3),none⟩,⟨some 2,.mov (.tmp 22),none⟩]) .ret))),[.tmp 2]⟩
def c99 : AFn := ⟨22,.seq (.reg false [⟨some 3,.box (.tmp 0),none⟩,⟨some 5,.box (.tmp 2),none⟩]) (.seq (.reg false [⟨some 7,.mov (.tmp 1),none⟩,⟨some 8,.load 1 false (.tmp 3),none⟩,⟨some 9,.len (.tmp 8),none⟩,⟨some 10,.call (.lit (.fn (.func 109) [] [])) [.tmp 7,.tmp 9],none⟩]) (.block 0 (.range (.tmp 10) [11] (.reg false [⟨some 6,.mov (.tmp 11),none⟩]) (.block 1 (.seq (.reg false [⟨some 12,.load 1 false (.tmp 3),none⟩,⟨some 13,.mov (.tmp 6),none⟩,⟨some 14,.ia 1 (.tmp 12) (.tmp 13),none⟩,⟨some 15,.load 1 false (.tmp 14),none⟩,⟨some 16,.bin .eql (.tmp 15) (.lit (.int .i64 0)),none⟩]) (.cond (.tmp 16) (.seq (.reg false [⟨some 17,.load 1 false (.tmp 3),none⟩,⟨some 18,.mov (.tmp 6),none⟩,⟨some 19,.load 1 false (.tmp 5),none⟩,⟨some 20,.bin .add (.tmp 19) (.lit (.int .i64 1)),none⟩,⟨some 21,.ia 1 (.tmp 17) (.tmp 18),none⟩,⟨none,.store 1 (.tmp 21) (.tmp 20),none⟩]) .ret) .skip)))))),[]⟩
def c100 : AFn := ⟨19,.seq (.reg false [⟨some 4,.mov (.lit (.int .i64 0)),none⟩]) (.seq (.seq (.reg false [⟨some 6,.mov (.tmp 0),none⟩,⟨some 7,.len (.tmp 6),none⟩,⟨some 8,.mov (.lit (.int .i64 0)),none⟩]) (.block 0 (.loop (.seq (.reg false [⟨some 9,.bin .lss (.tmp 8) (.tmp 7),none⟩]) (.seq (.cond (.tmp 9) .skip (.exit 0)) (.seq (.block 1 (.seq (.reg false [⟨some 10,.mov (.tmp 8),none⟩,⟨some 5,.mov (.tmp 10),none⟩]) (.seq (.reg false [⟨some 11,.mov (.tmp 1),none⟩,⟨some 12,.mov (.tmp 0),none⟩,⟨some 13,.mov (.tmp 5),none⟩,⟨some 14,.ia 1 (.tmp 12) (.tmp 13),none⟩,⟨some 15,.load 1 false (.tmp 14),none⟩,⟨some 16,.call (.tmp 11) [.tmp 15],none⟩]) (.cond (.tmp 16) (.seq (.reg false [⟨some 17,.mov (.tmp 5),none⟩,⟨some 4,.mov (.tmp 17),none⟩]) .ret) .skip)))) (.reg false [⟨some 18,.bin .add (.tmp 8) (.lit (.int .i64 1)),none⟩,⟨some 8,.mov (.tmp 18),none⟩]))))))) (.seq (.reg false [⟨some 4,.mov (.lit (.int .i64 (-1))),none⟩]) .ret)),[.tmp 4]⟩
def c101 : AFn := ⟨2,.seq (.reg false [⟨some 0,.alloc [.int .u8 0,.int .u8 0],none⟩]) (.seq (.reg false [⟨some 1,.build [.int .u8 0,.int .u8 0] [(0,1,.lit (.int .u8 97)),(1,1,.lit (.int .u8 122))],none⟩,⟨none,.store 2 (.tmp 0) (.tmp 1),none⟩]) .ret),[.cell 0 2 true]⟩
def c102 : AFn := ⟨32,.seq (.reg false [⟨some 4,.box (.tmp 1),none⟩,⟨some 6,.mov (.lit .nilS),none⟩]) (.seq (.reg false [⟨some 10,.mov (.tmp 0),none⟩,⟨some 11,.mov (.tmp 2),none⟩,⟨some 12,.ia 3 (.tmp 10) (.tmp 11),none⟩,⟨some 13,.load 3 true (.tmp 12),none⟩,⟨some 14,.call (.lit (.fn (.func 70) [] [])) [.tmp 13],none⟩,⟨some 15,.mksl 1 8 [.int .i64 0] (.tmp 14) (.tmp 14),none⟩,⟨some 7,.alloc [.nilS],none⟩,⟨none,.store 1 (.tmp 7) (.tmp 15),none⟩]) (.seq (.reg false [⟨some 16,.mov (.tmp 2),none⟩,⟨some 17,.bin .sub (.tmp 16) (.lit (.int .i64 1)),none⟩,⟨some 8,.alloc [.int .i64 0],none⟩,⟨none,.store 1 (.tmp 8) (.tmp 17),none⟩]) (.seq (.seq (.reg false [⟨some 18,.load 1 false (.tmp 7),none⟩,⟨some 19,.call (.lit (.fn (.func 111) [] [])) [.tmp 18],none⟩]) (.block 0 (.range (.tmp 19) [20,21] (.reg false [⟨some 9,.mov (.tmp 20),none⟩]) (.block 1 (.seq (.reg false [⟨some 22,.load 1 false (.tmp 7),none⟩,⟨some 23,.mov (.tmp 9),none⟩,⟨some 24,.load 1 false (.tmp 8),none⟩,⟨some 25,.ia 1 (.tmp 22) (.tmp 23),none⟩,⟨none,.store 1 (.tmp 25) (.tmp 24),none⟩]) (.reg false [⟨some 26,.load 1 false (.tmp 4),none⟩,⟨some 27,.load 1 false (.tmp 8),none⟩,⟨some 28,.ia 1 (.tmp 26) (.tmp 27),none⟩,⟨some 29,.load 1 false (.tmp 28),none⟩,⟨some 30,.bin .sub (.tmp 29) (.lit (.int .i64 1)),none⟩,⟨none,.store 1 (.tmp 8) (.tmp 30),none⟩])))))) (.seq (.reg false [⟨some 31,.load 1 false (.tmp 7),none⟩,⟨some 6,.mov (.tmp 31),none⟩]) .ret)))),[.tmp 6]⟩
def c103 : AFn := ⟨40,.seq (.reg false [⟨some 6,.mov (.lit (.str ⟨#[]⟩)),none⟩,⟨some 7,.mov (.lit (.int .i64 0)),none⟩]) (.seq (.seq (.reg false [⟨some 8,.mov (.tmp 2),none⟩]) (.cond (.tmp 8) (.seq (.reg true [⟨some 9,.mov (.tmp 0),none⟩,⟨some 10,.nilc (.tmp 9),none⟩,⟨some 11,.fa 2 (.tmp 10),none⟩,⟨some 12,.load 1 false (.tmp 11),none⟩,⟨some 13,.mov (.tmp 1),none⟩,⟨some 14,.ia 1 (.tmp 12) (.tmp 13),none⟩,⟨some 15,.load 1 false (.tmp 14),none⟩,⟨some 16,.bin .add (.lit (.str ⟨#[40]⟩)) (.tmp 15),none⟩,⟨some 17,.bin .add (.tmp 16) (.lit (.str ⟨#[41]⟩)),none⟩,⟨some 18,.mov (.tmp 0),none⟩,⟨some 19,.nilc (.tmp 18),none⟩,⟨some 20,.fa 3 (.tmp 19),none⟩,⟨some 21,.load 1 false (.tmp 20),none⟩,⟨some 22,.mov (.tmp 1),none⟩,⟨some 23,.ia 1 (.tmp 21) (.tmp 22),none⟩,⟨some 24,.load 1 false (.tmp 23),none⟩,⟨some 25,.bin .add (.tmp 24) (.lit (.int .i64 1)),none⟩,⟨some 6,.mov (.tmp 17),none⟩,⟨some 7,.mov (.tmp 25),none⟩]) .ret) .skip)) (.seq (.reg true [⟨some 26,.mov (.tmp 0),none⟩,⟨some 27,.nilc (.tmp 26),none⟩,⟨some 28,.fa 2 (.tmp 27),none⟩,⟨some 29,.load 1 false (.tmp 28),none⟩,⟨some 30,.mov (.tmp 1),none⟩,⟨some 31,.ia 1 (.tmp 29) (.tmp 30),none⟩,⟨some 32,.load 1 false (.tmp 31),none⟩,⟨some 33,.mov (.tmp 0),none⟩,⟨some 34,.nilc (.tmp 33),none⟩,⟨some 35,.fa 3 (.tmp 34),none⟩,⟨some 36,.load 1 false (.tmp 35),none⟩,⟨some 37,.mov (.tmp 1),none⟩,⟨some 38,.ia 1 (.tmp 36) (.tmp 37),none⟩,⟨some 39,.load 1 false (.tmp 38),none⟩,⟨some 6,.mov (.tmp 32),none⟩,⟨some 7,.mov (.tmp 39),none⟩]) .ret)),[.tmp 6,.tmp 7]⟩
def c105 : AFn := ⟨41,.seq (.reg false [⟨some 7,.mov (.lit (.bool false)),none⟩]) (.seq (.reg false [⟨some 11,.load 1 false (.tmp 2),none⟩,⟨some 12,.nilc (.tmp 11),none⟩,⟨some 13,.fa 0 (.tmp 12),none⟩,⟨some 14,.load 1 false (.tmp 13),none⟩,⟨some 15,.mov (.tmp 0),none⟩,⟨some 16,.ia 3 (.tmp 14) (.tmp 15),none⟩,⟨some 17,.fa 0 (.tmp 16),none⟩,⟨some 18,.load 1 false (.tmp 17),none⟩,⟨some 8,.mov (.tmp 18),none⟩]) (.seq (.reg false [⟨some 20,.load 1 false (.tmp 3),none⟩,⟨some 21,.mov (.tmp 8),none⟩,⟨some 22,.lkp false [.int .i64] (.str ⟨#[]⟩) (.tmp 20) (.tmp 21) true,none⟩,⟨some 19,.mov (.tmp 22),none⟩,⟨some 23,.ext (.tmp 19) 0,none⟩,⟨some 24,.ext (.tmp 19) 1,none⟩,⟨some 9,.mov (.tmp 23),none⟩,⟨some 10,.mov (.tmp 24),none⟩]) (.seq (.reg true [⟨some 25,.mov (.tmp 10),none⟩,⟨some 26,.mov (.tmp 25),none⟩,⟨some 27,.mov (.tmp 1),some ((26,true))⟩,⟨some 28,.mov (.tmp 27),some ((26,true))⟩,⟨some 29,.mov (.tmp 8),some ((28,false))⟩,⟨some 30,.load 1 false (.tmp 2),some ((28,false))⟩,⟨some 31,.nilc (.tmp 30),some ((28,false))⟩,⟨some 32,.fa 0 (.tmp 31),some ((28,false))⟩,⟨some 33,.load 1 false (.tmp 32),some ((28,false))⟩,⟨some 34,.load 1 false (.tmp 4),some ((28,false))⟩,⟨some 35,.ia 3 (.tmp 33) (.tmp 34),some ((28,false))⟩,⟨some 36,.fa 0 (.tmp 35),some ((28,false))⟩,⟨some 37,.load 1 false (.tmp 36),some ((28,false))⟩,⟨some 38,.bin .neq (.tmp 29) (.tmp 37),some ((28,false))⟩,⟨some 39,.pick (.tmp 28) (.lit (.bool true)) (.tmp 38),some ((26,true))⟩,⟨some 40,.pick (.tmp 26) (.tmp 39) (.lit (.bool false)),none⟩,⟨some 7,.mov (.tmp 40),none⟩]) .ret))),[.tmp 7]⟩
def c107 : AFn := ⟨11,.seq (.reg false [⟨some 3,.mov (.lit (.bool false)),none⟩]) (.seq (.reg false [⟨some 4,.mov (.tmp 0),none⟩,⟨some 5,.bin .lss (.tmp 4) (.lit (.int .i64 0)),none⟩,⟨some 6,.mov (.tmp 5),none⟩,⟨some 7,.mov (.tmp 0),some ((6,false))⟩,⟨some 8,.load 1 false (.tmp 1),some ((6,false))⟩,⟨some 9,.bin .geq (.tmp 7) (.tmp 8),some ((6,false))⟩,⟨some 10,.pick (.tmp 6) (.lit (.bool true)) (.tmp 9),none⟩,⟨some 3,.mov (.tmp 10),none⟩]) .ret),[.tmp 3]⟩
def c108 : AFn := ⟨9,.seq (.reg false [⟨some 4,.mov (.lit (.bool false)),none⟩]) (.seq (.reg false [⟨some 5,.mov (.tmp 0),none⟩,⟨some 6,.mov (.tmp 1),none⟩,⟨some 7,.call (.lit (.fn (.func 116) [] [])) [.tmp 5,.tmp 6],none⟩,⟨some 8,.bin .geq (.tmp 7) (.lit (.int .i64 0)),none⟩,⟨some 4,.mov (.tmp 8),none⟩]) .ret),[.tmp 4]⟩
def c110 : AFn := ⟨26,.seq (.reg false [⟨some 4,.mov (.lit (.bool false)),none⟩]) (.seq (.seq (.reg false [⟨some 6,.mov (.tmp 0),none⟩,⟨some 7,.len (.tmp 6),none⟩,⟨some 8,.mov (.tmp 1),none⟩,⟨some 9,.len (.tmp 8),none⟩,⟨some 10,.bin .neq (.tmp 7) (.tmp 9),none⟩]) (.cond (.tmp 10) (.seq (.reg false [⟨some 4,.mov (.lit (.bool false)),none⟩]) .ret) .skip)) (.seq (.seq (.reg false [⟨some 11,.mov (.tmp 0),none⟩,⟨some 12,.len (.tmp 11),none⟩,⟨some 13,.mov (.lit (.int .i64 0)),none⟩]) (.block 0 (.loop (.seq (.reg false [⟨some 14,.bin .lss (.tmp 13) (.tmp 12),none⟩]) (.seq (.cond (.tmp 14) .skip (.exit 0)) (.seq (.block 1 (.seq (.reg false [⟨some 15,.mov (.tmp 13),none⟩,⟨some 5,.mov (.tmp 15),none⟩]) (.seq (.reg true [⟨some 16,.mov (.tmp 0),none⟩,⟨some 17,.mov (.tmp 5),none⟩,⟨some 18,.ia 1 (.tmp 16) (.tmp 17),none⟩,⟨some 19,.load 1 false (.tmp 18),none⟩,⟨some 20,.mov (.tmp 1),none⟩,⟨some 21,.mov (.tmp 5),none⟩,⟨some 22,.ia 1 (.tmp 20) (.tmp 21),none⟩,⟨some 23,.load 1 false (.tmp 22),none⟩,⟨some 24,.bin .neq (.tmp 19) (.tmp 23),none⟩]) (.cond (.tmp 24) (.seq (.reg false [⟨some 4,.mov (.lit (.bool false)),none⟩]) .ret) .skip)))) (.reg false [⟨some 25,.bin .add (.tmp 13) (.lit (.int .i64 1)),none⟩,⟨some 13,.mov (.tmp 25),none⟩]))))))) (.seq (.reg false [⟨some 4,.mov (.lit (.bool true)),none⟩]) .ret))),[.tmp 4]⟩
def c111 : AFn := ⟨4,.seq (.reg false [⟨some 1,.box (.tmp 0),none⟩,⟨some 2,.mov (.lit .nilFunc),none⟩]) (.seq (.reg false [⟨some 3,.mkfn (.func 119) [] [.tmp 1],none⟩,⟨some 2,.mov (.tmp 3),none⟩]) .ret),[.tmp 2]⟩
def c116 : AFn := ⟨19,.seq (.reg false [⟨some 4,.mov (.lit (.int .i64 0)),none⟩]) (.seq (.seq (.reg false [⟨some 6,.mov (.tmp 0),none⟩,⟨some 7,.len (.tmp 6),none⟩,⟨some 8,.mov (.lit (.int .i64 0)),none⟩]) (.block 0 (.loop (.seq (.reg false [⟨some 9,.bin .lss (.tmp 8) (.tmp 7),none⟩]) (.seq (.cond (.tmp 9) .skip (.exit 0)) (.seq (.block 1 (.seq (.reg false [⟨some 10,.mov (.tmp 8),none⟩,⟨some 5,.mov (.tmp 10),none⟩]) (.seq (.reg false [⟨some 11,.mov (.tmp 1),none⟩,⟨some 12,.mov (.tmp 0),none⟩,⟨some 13,.mov (.tmp 5),none⟩,⟨some 14,.ia 1 (.tmp 12) (.tmp 13),none⟩,⟨some 15,.load 1 false (.tmp 14),none⟩,⟨some 16,.call (.tmp 11) [.tmp 15],none⟩]) (.cond (.tmp 16) (.seq (.reg false [⟨some 17,.mov (.tmp 5),none⟩,⟨some 4,.mov (.tmp 17),none⟩]) .ret) .skip)))) (.reg false [⟨some 18,.bin .add (.tmp 8) (.lit (.int .i64 1)),none⟩,⟨some 8,.mov (.tmp 18),none⟩]))))))) (.seq (.reg false [⟨some 4,.mov (.lit (.int .i64 (-1))),none⟩]) .ret)),[.tmp 4]⟩
def c118 : AFn := ⟨29,.seq (.reg false [⟨some 2,.mov (.lit (.int .u32 0)),none⟩]) (.seq (.reg false [⟨some 3,.mov (.lit (.int .u32 2166136261)),none⟩]) (.seq (.seq (.reg false [⟨some 7,.mov (.tmp 0),none⟩,⟨some 8,.len (.tmp 7),none⟩,⟨some 9,.mov (.lit (.int .i64 0)),none⟩]) (.block 0 (.loop (.seq (.reg false [⟨some 10,.bin .lss (.tmp 9) (.tmp 8),none⟩]) (.seq (.cond (.tmp 10) .skip (.exit 0)) (.seq (.block 1 (.seq (.reg false [⟨some 11,.ia 1 (.tmp 7) (.tmp 9),none⟩,⟨some 12,.load 1 false (.tmp 11),none⟩,⟨some 5,.mov (.tmp 12),none⟩]) (.seq (.reg false [⟨some 6,.mov (.lit (.int .i64 0)),none⟩]) (.block 2 (.loop (.seq (.seq (.reg false [⟨some 13,.mov (.tmp 6),none⟩,⟨some 14,.bin .lss (.tmp 13) (.lit (.int .i64 64)),none⟩]) (.cond (.tmp 14) .skip (.exit 2))) (.seq (.block 3 (.seq (.reg false [⟨some 17,.mov (.tmp 3),none⟩,⟨some 18,.mov (.tmp 5),none⟩,⟨some 19,.cint .u64 (.tmp 18),none⟩,⟨some 20,.mov (.tmp 6),none⟩,⟨some 21,.bin .shr (.tmp 19) (.tmp 20),none⟩,⟨some 22,.cint .u8 (.tmp 21),none⟩,⟨some 23,.cint .u32 (.tmp 22),none⟩,⟨some 24,.bin .xor (.tmp 17) (.tmp 23),none⟩,⟨some 3,.mov (.tmp 24),none⟩]) (.reg false [⟨some 25,.mov (.tmp 3),none⟩,⟨some 26,.bin .mul (.tmp 25) (.lit (.int .u32 16777619)),none⟩,⟨some 3,.mov (.tmp 26),none⟩]))) (.reg false [⟨some 15,.mov (.tmp 6),none⟩,⟨some 16,.bin .add (.tmp 15) (.lit (.int .i64 8)),none⟩,⟨some 6,.mov (.tmp 16),none⟩])))))))) (.reg false [⟨some 27,.bin .add (.tmp 9) (.lit (.int .i64 1)),none⟩,⟨some 9,.mov (.tmp 27),none⟩]))))))) (.seq (.reg false [⟨some 28,.mov (.tmp 3),none⟩,⟨some 2,.mov (.tmp 28),none⟩]) .ret))),[.tmp 2]⟩
theorem hm : Tryz.prog.follows .mixedOrders = true := by kernel_rfl
def an0 : An := ⟨[], []⟩
theorem c48_ok : cFn Tryz.prog an0 Tryz.f48 = some c48 := by kernel_rfl
theorem clone_PF (l : List Int) : PF Tryz.prog 48 [ints l] (ints l) := by
 refine PFk 9 hm Tryz.func48 c48_ok (Nat.le_of_ble_eq_true rfl) (by simp) (by simp) ?_
 simp (maxSteps := 3000000) [go_sem,-List.length_flatten,-List.map_drop,-List.map_take, c48]
 exact fun h _ => h
theorem c68_ok : cFn Tryz.prog an0 Tryz.f68 = some c68 := by kernel_rfl
theorem termof_PF (l : List Int) : PF Tryz.prog 68 [ints l] (.tuple [.agg (termOf l).1.cs, .bool (termOf l).2]) := by
 refine PFk 9 hm Tryz.func68 c68_ok (Nat.le_of_ble_eq_true rfl) (by simp) (by simp) ?_
 simp (maxSteps := 3000000) [go_sem,-List.length_flatten,-List.map_drop,-List.map_take, c68]
 intro h
 refine ⟨fun h1 => ?_, fun h1 => ⟨by omega, by omega, by omega, by omega, _, clone_PF _, ?_⟩⟩
 ·have : l.length < 3 := by omega
  simp [termOf, this]
 ·simp (maxSteps := 3000000) [go_sem,-List.length_flatten,-List.map_drop,-List.map_take, Kc]
  have : ¬ l.length < 3 := by omega
  simp [termOf, this]
theorem c35_ok : cFn Tryz.prog an0 Tryz.f35 = some c35 := by kernel_rfl
theorem termAt_PF (a : Kd) (id : Int) : PF Tryz.prog 35 [.agg a.cs, i64 id] (.tuple [.agg (termAt a id).1.cs, .bool (termAt a id).2]) := by
 refine PFk 9 hm Tryz.func35 c35_ok (Nat.le_of_ble_eq_true rfl) (by simp) (by simp) ?_
 simp (maxSteps := 3000000) [go_sem,-List.length_flatten,-List.map_drop,-List.map_take, c35]
 refine ⟨fun h0 => ?_, fun h0 hl => ⟨fun h1 => ?_, fun h1 => ⟨⟨h0, h1⟩, ?_⟩⟩⟩
 ·simp [termAt, h0]
 ·simp [termAt, h1]
 ·refine PF.call (termof_PF (gi a.keys id)) 9 (by simp [lePs]) ?_
  simp (maxSteps := 3000000) [go_sem,-List.length_flatten,-List.map_drop,-List.map_take, Kc]
  have : ¬ (id < 0 ∨ id ≥ a.keys.length) := by omega
  simp [termAt, this]
end Go.AM

namespace Go.AM
open Go.Proofs
set_option maxRecDepth 100000
set_option linter.unusedVariables false
set_option linter.unusedSimpArgs false
attribute [local go_sem] Function.comp_def argsT Opd.ev Tm.get put ares mapMo ares1 snilP bldParts bslParts putAt AV.cells AV.one astore aload loadCs callArgs abin abinInt aapp elems appMore appNone preLen aFa aFld apart aExt aPick aNot aLens aEqa cellsK fitsA LK.fitsA leavesA leafA nilD aNilc aCint aCid alive alen alenOk Rle lePs len_flat
theorem c25_ok : cFn Tryz.prog an0 Tryz.f25 = some c25 := by kernel_rfl
theorem ints_PF (a b : List Int) : PF Tryz.prog 25 [ints a, ints b] (.bool (decide (a = b))) := by
 refine PFk 9 hm Tryz.func25 c25_ok (Nat.le_of_ble_eq_true rfl) (by simp) (by simp) ?_
 simp (maxSteps := 3000000) [go_sem,-List.length_flatten,-List.map_drop,-List.map_take, c25]
 intro ha hb
 refine ⟨fun h => ?_, fun h => ?_⟩
 ·intro e
  subst e
  simp at h
 ·refine run_loop (fun n T H => ∃ i : Nat, n = a.length - i ∧ i ≤ a.length ∧ T = [(5, i64 i), (0, ints a), (1, ints b)] ∧ H = [] ∧ ∀ j : Nat, j < i → gi a j = gi b j) a.length [(5, i64 0), (0, ints a), (1, ints b)] []
   (Wk.tell 0 (Nat.le_refl _) (by simp [Tm.get]) (by simp) rfl (by simp)) ⟨0, by simp, by simp, by simp, rfl, by simp⟩ ?_
  rintro n T H ⟨i, rfl, hi, rfl, rfl, hj⟩
  simp (maxSteps := 3000000) [go_sem,-List.length_flatten,-List.map_drop,-List.map_take]
  intro _
  refine ⟨fun h1 => ⟨h1, by omega, fun h2 e => h2 (by rw [e]), fun h2 => ?_⟩, fun h1 => eq_gi (by omega) (fun j hl => hj j (by omega))⟩
  refine Kl_next (a.length - (i + 1)) 0 (Nat.le_refl _) ⟨i + 1, rfl, h1, rfl, rfl, fun j hl => ?_⟩ (by simp [Tm.get, nxt h1 ha]) (by simp) rfl (by simp) (by omega)
  rcases Nat.lt_or_ge j i with h3 | h3
  ·exact hj j h3
  ·have : j = i := by omega
   subst this
   exact h2
theorem c79_ok : cFn Tryz.prog an0 Tryz.f79 = some c79 := by kernel_rfl
theorem at_PF (ks : List (List Int)) (k : List Int) : PF Tryz.prog 79 [intss ks, ints k] (i64 (fstAt (fun x => decide (x = k)) ks)) := by
 refine PFk 9 hm Tryz.func79 c79_ok (Nat.le_of_ble_eq_true rfl) (by simp) (by simp) ?_
 simp (maxSteps := 3000000) [go_sem,-List.length_flatten,-List.map_drop,-List.map_take, c79]
 refine run_loop (fun n T H => ∃ i : Nat, n = ks.length - i ∧ i ≤ ks.length ∧ T = [(5, i64 i), (0, intss ks), (1, ints k)] ∧ H = [] ∧ ∀ j : Nat, j < i → ¬ gi ks j = k) ks.length [(5, i64 0), (0, intss ks), (1, ints k)] []
  (Wk.tell 0 (Nat.le_refl _) (by simp [Tm.get]) (by simp) rfl (by simp)) ⟨0, by simp, by simp, by simp, rfl, by simp⟩ ?_
 rintro n T H ⟨i, rfl, hi, rfl, rfl, hj⟩
 simp (maxSteps := 3000000) [go_sem,-List.length_flatten,-List.map_drop,-List.map_take]
 intro ha
 refine ⟨fun h1 => ⟨h1, ?_⟩, fun h1 => ?_⟩
 ·refine PF.call (ints_PF (gi ks i) k) 9 (by simp [lePs]) ?_
  simp (maxSteps := 3000000) [go_sem,-List.length_flatten,-List.map_drop,-List.map_take, Kc]
  refine ⟨fun h2 => (fstAt_some h1 (by simpa using h2) (fun j hl => by simpa using hj j hl)).symm, fun h2 => ?_⟩
  refine Kl_next (ks.length - (i + 1)) 0 (Nat.le_refl _) ⟨i + 1, rfl, h1, rfl, rfl, fun j hl => ?_⟩ (by simp [Tm.get, nxt h1 ha]) (by simp) rfl (by simp) (by omega)
  rcases Nat.lt_or_ge j i with h3 | h3
  ·exact hj j h3
  ·have : j = i := by omega
   subst this
   exact h2
 ·exact (fstAt_none (fun j hl => by simpa using hj j (by omega))).symm
theorem c61_ok : cFn Tryz.prog an0 Tryz.f61 = some c61 := by kernel_rfl
theorem find_PF (l : List Sg) (s : ByteArray) : PF Tryz.prog 61 [sigs l, .str s] (i64 (fstAt (fun x => decide (x.name = s)) l)) := by
 refine PFk 9 hm Tryz.func61 c61_ok (Nat.le_of_ble_eq_true rfl) (by simp) (by simp) ?_
 simp (maxSteps := 3000000) [go_sem,-List.length_flatten,-List.map_drop,-List.map_take, c61]
 refine run_loop (fun n T H => ∃ i : Nat, n = l.length - i ∧ i ≤ l.length ∧ T = [(5, i64 i), (0, sigs l), (1, .str s)] ∧ H = [] ∧ ∀ j : Nat, j < i → ¬ (gi l j).name = s) l.length [(5, i64 0), (0, sigs l), (1, .str s)] []
  (Wk.tell 0 (Nat.le_refl _) (by simp [Tm.get]) (by simp) rfl (by simp)) ⟨0, by simp, by simp, by simp, rfl, by simp⟩ ?_
 rintro n T H ⟨i, rfl, hi, rfl, rfl, hj⟩
 simp (maxSteps := 3000000) [go_sem,-List.length_flatten,-List.map_drop,-List.map_take]
 intro ha
 refine ⟨fun h1 => ⟨h1, fun h2 => (fstAt_some h1 (by simpa using h2) (fun j hl => by simpa using hj j hl)).symm, fun h2 => ?_⟩, fun h1 => ?_⟩
 ·refine Kl_next (l.length - (i + 1)) 0 (Nat.le_refl _) ⟨i + 1, rfl, h1, rfl, rfl, fun j hl => ?_⟩ (by simp [Tm.get, nxt h1 ha]) (by simp) rfl (by simp) (by omega)
  rcases Nat.lt_or_ge j i with h3 | h3
  ·exact hj j h3
  ·have : j = i := by omega
   subst this
   exact h2
 ·exact (fstAt_none (fun j hl => by simpa using hj j (by omega))).symm
theorem c80_ok : cFn Tryz.prog an0 Tryz.f80 = some c80 := by kernel_rfl
theorem small_PF (c : Int) : PF Tryz.prog 80 [.int .u8 c] (.bool (decide (97 ≤ c) && decide (c ≤ 122))) := by
 refine PFk 9 hm Tryz.func80 c80_ok (Nat.le_of_ble_eq_true rfl) (by simp) (by simp) ?_
 simp (maxSteps := 3000000) [go_sem,-List.length_flatten,-List.map_drop,-List.map_take, c80]
 omega
theorem c67_ok : cFn Tryz.prog an0 Tryz.f67 = some c67 := by kernel_rfl
theorem big_PF (c : Int) : PF Tryz.prog 67 [.int .u8 c] (.bool (decide (65 ≤ c) && decide (c ≤ 90))) := by
 refine PFk 9 hm Tryz.func67 c67_ok (Nat.le_of_ble_eq_true rfl) (by simp) (by simp) ?_
 simp (maxSteps := 3000000) [go_sem,-List.length_flatten,-List.map_drop,-List.map_take, c67]
 omega
theorem c60_ok : cFn Tryz.prog an0 Tryz.f60 = some c60 := by kernel_rfl
theorem args_PF (s : ByteArray) (hs : s.size ≤ maxA) : PF Tryz.prog 60 [.str s] (.bool (argsOk s)) := by
 refine PFk 9 hm Tryz.func60 c60_ok (Nat.le_of_ble_eq_true rfl) (by simp) (by simp) ?_
 simp (maxSteps := 3000000) [go_sem,-List.length_flatten,-List.map_drop,-List.map_take, c60]
 refine run_count s.size 3 [(0, .str s)] [] (fun i => ∀ j : Nat, j < i → argOk (byte s j)) (Wk.tell 0 (Nat.le_refl _) (by simp [Tm.get]) (by simp) rfl (by simp)) (fun j hj => by omega) ?_
 intro i hi hj
 simp (maxSteps := 3000000) [go_sem,-List.length_flatten,-List.map_drop,-List.map_take]
 intro _
 have next : ∀ h : i < s.size, argOk (byte s i) → ∀ j : Nat, j < i + 1 → argOk (byte s j) := fun h hb j hl => by
  rcases Nat.lt_or_ge j i with h3 | h3
  ·exact hj j h3
  ·have : j = i := by omega
   subst this
   exact hb
 repeat' (first | assumption | with_reducible apply And.intro | with_reducible intro _)
 all_goals first
  | exact Kn_next 0 (Nat.le_refl _) (by omega) (next (by assumption) (by unfold argOk; omega)) (by simp [Tm.get, nxt (show i < s.size by assumption) hs]) (by simp) rfl (by simp)
  | skip
 ·rename_i h1 h2 h3 h4
  have : ¬ ∀ i : Nat, i < s.size → argOk (byte s i) := fun h => by have := h i h1; unfold argOk at this; omega
  simp [argsOk, this]
 ·rename_i h1
  have : ∀ i : Nat, i < s.size → argOk (byte s i) := fun j hl => hj j (by omega)
  have h8 : decide ((s.size : Int) ≤ 8) = decide (s.size ≤ 8) := by
   congr 1
   apply propext
   omega
  rw [h8]
  simp [argsOk]
  exact fun _ => this
theorem c66_ok : cFn Tryz.prog an0 Tryz.f66 = some c66 := by kernel_rfl
theorem name_PF (s : ByteArray) : PF Tryz.prog 66 [.str s] (.bool (nameOk s)) := by
 refine PFk 9 hm Tryz.func66 c66_ok (Nat.le_of_ble_eq_true rfl) (by simp) (by simp) ?_
 simp (maxSteps := 3000000) [go_sem,-List.length_flatten,-List.map_drop,-List.map_take, c66]
 intro _
 refine ⟨fun h1 => ?_, fun h1 _ => ⟨fun h2 => ?_, fun h2 => ?_⟩⟩
 ·simp [nameOk]; omega
 ·simp [nameOk]; omega
 ·refine run_count s.size 3 [(0, .str s)] [] (fun i => ∀ j : Nat, j < i → letter (byte s j) ∨ 0 < j ∧ figure (byte s j)) (Wk.tell 0 (Nat.le_refl _) (by simp [Tm.get]) (by simp) rfl (by simp)) (fun j hj => by omega) ?_
  intro i hi hj
  have next : ∀ h : i < s.size, (letter (byte s i) ∨ 0 < i ∧ figure (byte s i)) → ∀ j : Nat, j < i + 1 → letter (byte s j) ∨ 0 < j ∧ figure (byte s j) := fun h hb j hl => by
   rcases Nat.lt_or_ge j i with h3 | h3
   ·exact hj j h3
   ·have : j = i := by omega
    subst this
    exact hb
  simp (maxSteps := 3000000) [go_sem,-List.length_flatten,-List.map_drop,-List.map_take]
  intro _
  repeat' (first | assumption | with_reducible apply And.intro | with_reducible intro _ | refine PF.call (small_PF (byte s i)) 9 (by simp [lePs]) ?_)
  all_goals try simp (maxSteps := 3000000) [go_sem,-List.length_flatten,-List.map_drop,-List.map_take, Kc]
  repeat' (first | assumption | with_reducible apply And.intro | with_reducible intro _ | refine PF.call (big_PF (byte s i)) 9 (by simp [lePs]) ?_)
  all_goals try simp (maxSteps := 3000000) [go_sem,-List.length_flatten,-List.map_drop,-List.map_take, Kc]
  repeat' (first | assumption | with_reducible apply And.intro | with_reducible intro _)
  all_goals first
   | exact Kn_next 0 (Nat.le_refl _) (by omega) (next (by assumption) (by unfold letter figure; omega)) (by simp [Tm.get, nxt (show i < s.size by assumption) (show s.size ≤ maxA by unfold maxA; omega)]) (by simp) rfl (by simp)
   | exact nameBad (show i < s.size by assumption) (by unfold letter figure; omega)
   | skip
  exact nameGood (by omega) (by omega) (fun j hl => hj j (by omega))
theorem c59_ok : cFn Tryz.prog an0 Tryz.f59 = some c59 := by kernel_rfl
theorem con_PF (s : ByteArray) : PF Tryz.prog 59 [.str s] (.bool (conOk s)) := by
 refine PFk 9 hm Tryz.func59 c59_ok (Nat.le_of_ble_eq_true rfl) (by simp) (by simp) ?_
 simp (maxSteps := 3000000) [go_sem,-List.length_flatten,-List.map_drop,-List.map_take, c59]
 refine PF.call (name_PF s) 9 (by simp [lePs]) ?_
 simp (maxSteps := 3000000) [go_sem,-List.length_flatten,-List.map_drop,-List.map_take, Kc]
 refine ⟨fun h => ⟨nameSize h, ?_⟩, fun h => by simp [conOk, h]⟩
 refine PF.call (small_PF (byte s 0)) 9 (by simp [lePs]) ?_
 simp (maxSteps := 3000000) [go_sem,-List.length_flatten,-List.map_drop,-List.map_take, Kc]
 simp [conOk, h]
end Go.AM

namespace Go.AM
open Go.Proofs
set_option maxRecDepth 100000
set_option linter.unusedVariables false
set_option linter.unusedSimpArgs false
attribute [local go_sem] Function.comp_def argsT Opd.ev Tm.get put ares mapMo ares1 snilP bldParts bslParts putAt AV.cells AV.one astore aload loadCs callArgs abin abinInt aapp elems appMore appNone preLen aFa aFld apart aExt aPick aNot aLens aEqa cellsK fitsA LK.fitsA leavesA leafA nilD aNilc aCint aCid alive alen alenOk Rle lePs len_flat
def sigOk (l : List Sg) (i : Nat) : Prop := conOk (gi l i).name = true ∧ argsOk (gi l i).args = true ∧ (i : Int) ≤ fstAt (fun x => decide (x.name = (gi l i).name)) l
instance (l : List Sg) (i : Nat) : Decidable (sigOk l i) := inferInstanceAs (Decidable (_ ∧ _))
def sigRight (l : List Sg) : Bool := decide (∀ i : Nat, i < l.length → sigOk l i) && decide (l.length ≤ 64)
theorem sigBad {l : List Sg} {i : Nat} (h : i < l.length) (hn : ¬ sigOk l i) : sigRight l = false := by
 have : ¬ ∀ i : Nat, i < l.length → sigOk l i := fun hh => hn (hh i h)
 simp [sigRight, this]
theorem c26_ok : cFn Tryz.prog an0 Tryz.f26 = some c26 := by kernel_rfl
theorem sigRight_PF (l : List Sg) (hs : ∀ i : Nat, i < l.length → (gi l i).args.size ≤ maxA) : PF Tryz.prog 26 [sigs l] (.bool (sigRight l)) := by
 refine PFk 9 hm Tryz.func26 c26_ok (Nat.le_of_ble_eq_true rfl) (by simp) (by simp) ?_
 simp (maxSteps := 3000000) [go_sem,-List.length_flatten,-List.map_drop,-List.map_take, c26]
 refine run_count l.length 3 [(0, sigs l)] [] (fun i => ∀ j : Nat, j < i → sigOk l j) (Wk.tell 0 (Nat.le_refl _) (by simp [Tm.get]) (by simp) rfl (by simp)) (fun j hj => by omega) ?_
 intro i hi hj
 have next : ∀ h : i < l.length, sigOk l i → ∀ j : Nat, j < i + 1 → sigOk l j := fun h hb j hl => by
  rcases Nat.lt_or_ge j i with h3 | h3
  ·exact hj j h3
  ·have : j = i := by omega
   subst this
   exact hb
 simp (maxSteps := 3000000) [go_sem,-List.length_flatten,-List.map_drop,-List.map_take]
 intro ha
 refine ⟨fun h1 => ⟨h1, ?_⟩, fun h1 _ => ?_⟩
 ·refine PF.call (con_PF (gi l i).name) 9 (by simp [lePs]) ?_
  simp (maxSteps := 3000000) [go_sem,-List.length_flatten,-List.map_drop,-List.map_take, Kc]
  refine ⟨fun h2 => ⟨h1, ?_⟩, fun h2 => sigBad h1 (fun h => by simp [sigOk, h2] at h)⟩
  refine PF.call (args_PF (gi l i).args (hs i h1)) 9 (by simp [lePs]) ?_
  simp (maxSteps := 3000000) [go_sem,-List.length_flatten,-List.map_drop,-List.map_take, Kc]
  refine ⟨fun h3 => sigBad h1 (fun h => by simp [sigOk, h3] at h), fun h3 => ⟨h1, ?_⟩⟩
  refine PF.call (find_PF l (gi l i).name) 9 (by simp [lePs]) ?_
  simp (maxSteps := 3000000) [go_sem,-List.length_flatten,-List.map_drop,-List.map_take, Kc]
  refine ⟨fun h4 => sigBad h1 (fun h => by have := h.2.2; omega), fun h4 => ?_⟩
  exact Kn_next 0 (Nat.le_refl _) (by omega) (next h1 ⟨h2, h3, h4⟩) (by simp [Tm.get, nxt h1 ha]) (by simp) rfl (by simp)
 ·have h8 : decide ((l.length : Int) ≤ 64) = decide (l.length ≤ 64) := by
   congr 1
   apply propext
   omega
  have : ∀ i : Nat, i < l.length → sigOk l i := fun j hl => hj j (by omega)
  rw [h8]
  simp [sigRight]
  exact fun _ => this
theorem c41_ok : cFn Tryz.prog an0 Tryz.f41 = some c41 := by kernel_rfl
theorem termAt_in {a : Kd} {id : Int} (h0 : 0 ≤ id) (h1 : id < a.keys.length) : termAt a id = termOf (gi a.keys id) := by
 have : ¬ (id < 0 ∨ id ≥ a.keys.length) := by omega
 unfold termAt
 rw [if_neg this]
theorem rof_PF (a : Kd) (id : Int) : PF Tryz.prog 41 [.agg a.cs, i64 id] (.tuple [.agg (termAt a id).1.cs, .bool (termAt a id).2]) := by
 refine PFk 9 hm Tryz.func41 c41_ok (Nat.le_of_ble_eq_true rfl) (by simp) (by simp) ?_
 simp (maxSteps := 3000000) [go_sem,-List.length_flatten,-List.map_drop,-List.map_take, c41]
 refine ⟨fun h0 => by simp [termAt, h0], fun h0 _ => ⟨fun h1 => by simp [termAt, h1], fun h1 => ⟨⟨h0, h1⟩, fun _ => ⟨fun h2 => ?_, fun h2 => ⟨⟨h0, h1⟩, by omega, by omega, by omega, by omega, ?_⟩⟩⟩⟩⟩
 ·rw [termAt_in h0 h1]
  have : (gi a.keys id).length < 3 := by omega
  simp [termOf, this]
 ·rw [termAt_in h0 h1]
  have : ¬ (gi a.keys id).length < 3 := by omega
  simp [termOf, this]
/-- What may stand among so many terms. -/
def mayBe (l : List Sg) (many : Int) (t : Tm0) : Bool :=
 decide (∀ i : Nat, i < t.args.length → 0 ≤ gi t.args i ∧ gi t.args i < many) &&
 (if t.kind = 0 ∨ t.kind = 1 then decide (t.sym = 0 ∧ t.part = 0 ∧ t.args.length = 0)
 else if t.kind = 2 then decide (0 ≤ t.sym ∧ t.part = 0 ∧ t.args.length = 0)
 else if t.kind = 3 then decide ((0 ≤ t.sym ∧ t.sym < l.length) ∧ t.part = 0 ∧ t.args.length = (gi l t.sym).args.size)
 else if t.kind = 4 ∨ t.kind = 5 then decide (t.sym = 0 ∧ t.part = 0 ∧ t.args.length = 2)
 else if t.kind = 6 then decide ((0 ≤ t.sym ∧ t.sym < l.length) ∧ 0 ≤ t.part ∧ t.part < (gi l t.sym).args.size ∧ t.args.length = 1)
 else false)
theorem mayBe_all {l : List Sg} {many : Int} {t : Tm0} (h : ∀ i : Nat, i < t.args.length → 0 ≤ gi t.args i ∧ gi t.args i < many) : mayBe l many t =
 (if t.kind = 0 ∨ t.kind = 1 then decide (t.sym = 0 ∧ t.part = 0 ∧ t.args.length = 0)
 else if t.kind = 2 then decide (0 ≤ t.sym ∧ t.part = 0 ∧ t.args.length = 0)
 else if t.kind = 3 then decide ((0 ≤ t.sym ∧ t.sym < l.length) ∧ t.part = 0 ∧ t.args.length = (gi l t.sym).args.size)
 else if t.kind = 4 ∨ t.kind = 5 then decide (t.sym = 0 ∧ t.part = 0 ∧ t.args.length = 2)
 else if t.kind = 6 then decide ((0 ≤ t.sym ∧ t.sym < l.length) ∧ 0 ≤ t.part ∧ t.part < (gi l t.sym).args.size ∧ t.args.length = 1)
 else false) := by
 unfold mayBe
 rw [decide_eq_true h, Bool.true_and]
theorem c54_ok : cFn Tryz.prog an0 Tryz.f54 = some c54 := by kernel_rfl
set_option maxHeartbeats 8000000 in
theorem may_PF (l : List Sg) (many : Int) (t : Tm0) (hl : t.args.length ≤ maxA) : PF Tryz.prog 54 [sigs l, i64 many, .agg t.cs] (.bool (mayBe l many t)) := by
 refine PFk 9 hm Tryz.func54 c54_ok (Nat.le_of_ble_eq_true rfl) (by simp) (by simp) ?_
 simp (maxSteps := 3000000) [go_sem,-List.length_flatten,-List.map_drop,-List.map_take, c54]
 refine run_count t.args.length 7 [(5, .ptr 0 0 0), (0, sigs l), (1, i64 many)] [.cells 0 t.cs] (fun i => ∀ j : Nat, j < i → 0 ≤ gi t.args j ∧ gi t.args j < many) (Wk.tell 1 (by simp) (by simp [Tm.get]) (by simp) rfl (by simp [RLB])) (fun j hj => by omega) ?_
 intro i hi hj
 have next : i < t.args.length → 0 ≤ gi t.args i ∧ gi t.args i < many → ∀ j : Nat, j < i + 1 → 0 ≤ gi t.args j ∧ gi t.args j < many := fun h hb j hl => by
  rcases Nat.lt_or_ge j i with h3 | h3
  ·exact hj j h3
  ·have : j = i := by omega
   subst this
   exact hb
 have bad : i < t.args.length → ¬ (0 ≤ gi t.args i ∧ gi t.args i < many) → mayBe l many t = false := fun h hb => by
  have : ¬ ∀ i : Nat, i < t.args.length → 0 ≤ gi t.args i ∧ gi t.args i < many := fun hh => hb (hh i h)
  simp only [mayBe, this, decide_false, Bool.false_and]
 simp (maxSteps := 3000000) [go_sem,-List.length_flatten,-List.map_drop,-List.map_take]
 intro _
 refine ⟨fun h1 => ⟨h1, fun h2 => bad h1 (by omega), fun h2 => ⟨h1, fun h3 => bad h1 (by omega), fun h3 => ?_⟩⟩, fun h1 => ?_⟩
 ·exact Kn_next 1 (by omega) (by omega) (next h1 ⟨h2, h3⟩) (by simp [Tm.get, nxt h1 hl]) (by simp) rfl (by simp [RLB])
 ·have hall : ∀ i : Nat, i < t.args.length → 0 ≤ gi t.args i ∧ gi t.args i < many := fun j hl => hj j (by omega)
  have hm0 := mayBe_all (l := l) hall
  rw [hm0]
  have hn : (t.args = []) = (t.args.length = 0) := by simp
  simp only [hn]
  clear hm0 bad next hall hj hn hi h1
  repeat' (first | with_reducible apply And.intro | with_reducible intro _)
  all_goals first
   | omega
   | (simp [*]; done)
   | (simp [*]; omega)
   | skip
end Go.AM

namespace Go.AM
open Go.Proofs
set_option maxRecDepth 100000
set_option linter.unusedVariables false
set_option linter.unusedSimpArgs false
attribute [local go_sem] Function.comp_def argsT Opd.ev Tm.get put ares mapMo ares1 snilP bldParts bslParts putAt AV.cells AV.one astore aload loadCs callArgs abin abinInt aapp elems appMore appNone preLen aFa aFld apart aExt aPick aNot aLens aEqa cellsK fitsA LK.fitsA leavesA leafA nilD aNilc aCint aCid alive alen alenOk Rle lePs len_flat
theorem c81_ok : cFn Tryz.prog an0 Tryz.f81 = some c81 := by kernel_rfl
def sizeFrom (n : Nat) : Nat → Nat → Nat
 | 0, s => s
 | f + 1, s => if s * 3 < n * 4 then sizeFrom n f (s * 2) else s
theorem sizeFrom_done {n s : Nat} (h : ¬ s * 3 < n * 4) : ∀ f, sizeFrom n f s = s
 | 0 => rfl
 | f + 1 => by rw [sizeFrom, if_neg h]
theorem size_PF (n : Nat) (hn : n ≤ 1048576) : PF Tryz.prog 81 [i64 n] (i64 (sizeFrom n 18 8)) := by
 refine PFk 9 hm Tryz.func81 c81_ok (Nat.le_of_ble_eq_true rfl) (by simp) (by simp) ?_
 simp (maxSteps := 3000000) [go_sem,-List.length_flatten,-List.map_drop,-List.map_take, c81]
 refine run_loop (fun m T H => ∃ s : Nat, sizeFrom n m s = sizeFrom n 18 8 ∧ s * 2 ^ m = 8 * 2 ^ 18 ∧ m ≤ 18 ∧ 0 < s ∧ T = [(3, i64 s), (0, i64 n)] ∧ H = []) 18 [(3, i64 8), (0, i64 n)] []
  (Wk.tell 0 (Nat.le_refl _) (by simp [Tm.get]) (by simp) rfl (by simp)) ⟨8, rfl, rfl, Nat.le_refl _, by omega, rfl, rfl⟩ ?_
 rintro m T H ⟨s, h1, h2, h3, h4, rfl, rfl⟩
 have hs : s ≤ 2097152 := by
  have : 1 ≤ 2 ^ m := Nat.one_le_two_pow
  have := Nat.le_mul_of_pos_right s (show 0 < 2 ^ m by omega)
  omega
 have w1 : IntKind.i64.wrap ((s : Int) * 3) = ((s * 3 : Nat) : Int) := by rw [w64 (by omega) (by omega)]; simp
 have w2 : IntKind.i64.wrap ((n : Int) * 4) = ((n * 4 : Nat) : Int) := by rw [w64 (by omega) (by omega)]; simp
 have w3 : IntKind.i64.wrap ((s : Int) * 2) = ((s * 2 : Nat) : Int) := by rw [w64 (by omega) (by omega)]; simp
 simp (maxSteps := 3000000) [go_sem,-List.length_flatten,-List.map_drop,-List.map_take, w1, w2, w3]
 refine ⟨fun h => ?_, fun h => ?_⟩
 ·have h' : s * 3 < n * 4 := by omega
  cases m with
  | zero => simp at h2; omega
  | succ m =>
   refine Kl_next m 0 (Nat.le_refl _) ⟨s * 2, ?_, ?_, by omega, by omega, rfl, rfl⟩ (by simp [Tm.get]) (by simp) rfl (by simp) (by omega)
   ·rw [← h1, sizeFrom, if_pos h']
   ·rw [Nat.pow_succ] at h2
    rw [Nat.mul_assoc, Nat.mul_comm 2, h2]
 ·have h' : ¬ s * 3 < n * 4 := by omega
  rw [← h1, sizeFrom_done h']
/-- One byte of a number, into the sum. -/
def hstep (p : Int × Int) : Int × Int :=
 (IntKind.u32.wrap (IntKind.u32.wrap (((p.1 % 2 ^ IntKind.u32.bits).toNat ^^^ (IntKind.u32.wrap (p.2.tmod 256) % 2 ^ IntKind.u32.bits).toNat : Nat) : Int) * 16777619), IntKind.u64.wrap (p.2.tdiv 256))
def hsteps : Nat → Int × Int → Int × Int
 | 0, p => p
 | n + 1, p => hstep (hsteps n p)
def hashOf (k : List Int) : Int := k.foldl (fun h n => (hsteps 8 (h, IntKind.u64.wrap n)).1) 2166136261
theorem foldl_take {α β : Type} [Inhabited α] (f : β → α → β) (b : β) (l : List α) (i : Nat) (h : i < l.length) : (l.take (i + 1)).foldl f b = f ((l.take i).foldl f b) (gi l i) := by
 rw [List.take_succ_eq_append_getElem h, List.foldl_append]
 simp [gi, List.getD, h]
theorem c82_ok : cFn Tryz.prog an0 Tryz.f82 = some c82 := by kernel_rfl
theorem hash_PF (k : List Int) : PF Tryz.prog 82 [ints k] (.int .u32 (hashOf k)) := by
 refine PFk 9 hm Tryz.func82 c82_ok (Nat.le_of_ble_eq_true rfl) (by simp) (by simp) ?_
 simp (maxSteps := 3000000) [go_sem,-List.length_flatten,-List.map_drop,-List.map_take, c82]
 refine run_loop (fun m T H => ∃ i : Nat, m = k.length - i ∧ i ≤ k.length ∧ T = [(4, i64 i), (3, .int .u32 ((k.take i).foldl (fun h n => (hsteps 8 (h, IntKind.u64.wrap n)).1) 2166136261)), (0, ints k)] ∧ H = []) k.length [(4, i64 0), (3, .int .u32 2166136261), (0, ints k)] []
  (Wk.tell 0 (Nat.le_refl _) (by simp [Tm.get]) (by simp) rfl (by simp)) ⟨0, by simp, by simp, by simp, rfl⟩ ?_
 rintro m T H ⟨i, rfl, hi, rfl, rfl⟩
 generalize hg : (k.take i).foldl (fun h n => (hsteps 8 (h, IntKind.u64.wrap n)).1) 2166136261 = g
 simp (maxSteps := 3000000) [-List.length_flatten, -List.map_drop, -List.map_take, Function.comp_def, argsT, Opd.ev, Tm.get, put, ares, mapMo, ares1, snilP, bldParts, bslParts, putAt, AV.cells, AV.one, astore, aload, loadCs, callArgs, abin, abinInt, aapp, elems, appMore, appNone, preLen, aFa, aFld, apart, aExt, aPick, aNot, aLens, aEqa, cellsK, fitsA, LK.fitsA, leavesA, leafA, nilD, aNilc, aCint, aCid, alive, alen, alenOk, Rle, lePs, len_flat]
 intro ha
 refine ⟨fun h1 => ⟨h1, ?_⟩, fun h1 => ?_⟩
 ·refine run_loop (fun m T H => ∃ j : Nat, m = 8 - j ∧ j ≤ 8 ∧ T = [(6, i64 j), (3, .int .u32 (hsteps j (g, IntKind.u64.wrap (gi k i))).1), (5, .int .u64 (hsteps j (g, IntKind.u64.wrap (gi k i))).2), (4, i64 i), (0, ints k)] ∧ H = []) 8 [(6, i64 0), (3, .int .u32 g), (5, .int .u64 (IntKind.u64.wrap (gi k i))), (4, i64 i), (0, ints k)] []
   (Wk.tell 0 (Nat.le_refl _) (by simp [Tm.get]) (by simp) rfl (by simp)) ⟨0, by simp, by simp, by simp [hsteps], rfl⟩ ?_
  rintro m T H ⟨j, rfl, hj, rfl, rfl⟩
  simp (maxSteps := 3000000) [-List.length_flatten, -List.map_drop, -List.map_take, Function.comp_def, argsT, Opd.ev, Tm.get, put, ares, mapMo, ares1, snilP, bldParts, bslParts, putAt, AV.cells, AV.one, astore, aload, loadCs, callArgs, abin, abinInt, aapp, elems, appMore, appNone, preLen, aFa, aFld, apart, aExt, aPick, aNot, aLens, aEqa, cellsK, fitsA, LK.fitsA, leavesA, leafA, nilD, aNilc, aCint, aCid, alive, alen, alenOk, Rle, lePs, len_flat]
  refine ⟨fun h2 => ?_, fun h2 => ?_⟩
  ·have hw := nxt (i := j) (n := 8) (by omega) (by unfold maxA; omega)
   exact Kl_next (8 - (j + 1)) 0 (Nat.le_refl _) ⟨j + 1, rfl, by omega, rfl, rfl⟩ (by simp [Tm.get, hw, hsteps, hstep]) (by simp) rfl (by simp) (by omega)
  ·have : j = 8 := by omega
   subst this
   refine Kl_next (k.length - (i + 1)) 0 (Nat.le_refl _) ⟨i + 1, rfl, h1, rfl, rfl⟩ ?_ (by simp) rfl (by simp) (by omega)
   have e := foldl_take (fun h n => (hsteps 8 (h, IntKind.u64.wrap n)).1) 2166136261 k i h1
   rw [hg] at e
   rw [e]
   simp [Tm.get, nxt h1 ha]
 ·have : k.take i = k := List.take_of_length_le (by omega)
  rw [← hg, this]
  rfl
def psum (n : Nat) (ks : List (List Int)) : Nat := ks.foldl (fun s k => s + 1 + k.length) n
theorem psum_le : ∀ (ks : List (List Int)) (n : Nat), n ≤ psum n ks
 | [], n => Nat.le_refl n
 | k :: ks, n => by
  have := psum_le ks (n + 1 + k.length)
  simp only [psum, List.foldl_cons] at this ⊢
  omega
theorem psum_take (ks : List (List Int)) (n i : Nat) : psum n (ks.take i) ≤ psum n ks := by
 have h := psum_le (ks.drop i) (psum n (ks.take i))
 have e : psum (psum n (ks.take i)) (ks.drop i) = psum n ks := by
  unfold psum
  rw [← List.foldl_append, List.take_append_drop]
 rwa [e] at h
def few (a : Kd) : Bool := decide (psum a.slots.length a.keys ≤ 2000)
theorem c33_ok : cFn Tryz.prog an0 Tryz.f33 = some c33 := by kernel_rfl
theorem few_PF (a : Kd) : PF Tryz.prog 33 [.agg a.cs] (.bool (few a)) := by
 refine PFk 9 hm Tryz.func33 c33_ok (Nat.le_of_ble_eq_true rfl) (by simp) (by simp) ?_
 simp (maxSteps := 3000000) [go_sem,-List.length_flatten,-List.map_drop,-List.map_take, c33]
 intro hsl
 refine run_loop (fun m T H => ∃ i : Nat, m = a.keys.length - i ∧ i ≤ a.keys.length ∧ psum a.slots.length (a.keys.take i) ≤ 3 * maxA ∧ T = [(4, i64 i), (3, i64 (psum a.slots.length (a.keys.take i))), (1, .ptr 0 0 0)] ∧ H = [.cells 0 a.cs]) a.keys.length [(4, i64 0), (3, i64 a.slots.length), (1, .ptr 0 0 0)] [.cells 0 a.cs]
  (Wk.tell 1 (by omega) (by simp [Tm.get]) (by simp) rfl (by simp [RLB])) ⟨0, by simp, by simp, by simp [psum]; omega, by simp [psum], rfl⟩ ?_
 rintro m T H ⟨i, rfl, hi, hps, rfl, rfl⟩
 have hle := psum_take a.keys a.slots.length i
 have next : ∀ h : i < a.keys.length, psum a.slots.length (a.keys.take (i + 1)) = psum a.slots.length (a.keys.take i) + 1 + (gi a.keys i).length := fun h => by
  unfold psum
  rw [foldl_take _ _ _ _ h]
 generalize hg : psum a.slots.length (a.keys.take i) = g at *
 simp (maxSteps := 3000000) [go_sem,-List.length_flatten,-List.map_drop,-List.map_take]
 intro ha
 refine ⟨fun h1 => ⟨fun h2 => ⟨h1, fun h3 => ?_⟩, fun h2 => ?_⟩, fun h1 => ?_⟩
 ·have hn := next h1
  have w1 : IntKind.i64.wrap (IntKind.i64.wrap ((g : Int) + 1) + ((gi a.keys i).length : Int)) = ((psum a.slots.length (a.keys.take (i + 1)) : Nat) : Int) := by
   unfold maxA at h3
   rw [hn, w64 (n := (g : Int) + 1) (by omega) (by omega), w64 (by omega) (by omega)]
   simp
  exact Kl_next (a.keys.length - (i + 1)) 1 (by omega) ⟨i + 1, rfl, h1, by rw [hn]; unfold maxA at *; omega, rfl, rfl⟩ (by simp [Tm.get, nxt h1 ha, w1]) (by simp) rfl (by simp [RLB]) (by omega)
 ·have h3 : ¬ psum a.slots.length a.keys ≤ 2000 := by omega
  have h4 : ¬ (g : Int) ≤ 2000 := by omega
  simp [few, h3, h4]
 ·have e : a.keys.take i = a.keys := List.take_of_length_le (by omega)
  rw [e] at hg
  unfold few
  rw [hg]
  congr 1
  apply propext
  omega
end Go.AM

namespace Go.AM
open Go.Proofs
set_option maxRecDepth 100000
set_option linter.unusedVariables false
set_option linter.unusedSimpArgs false
attribute [local go_sem] Function.comp_def argsT Opd.ev Tm.get put ares mapMo ares1 snilP bldParts bslParts putAt AV.cells AV.one astore aload loadCs callArgs abin abinInt aapp elems appMore appNone preLen aFa aFld apart aExt aPick aNot aLens aEqa cellsK fitsA LK.fitsA leavesA leafA nilD aNilc aCint aCid alive alen alenOk Rle lePs len_flat
theorem sizeFrom_ok {n : Nat} : ∀ (f s : Nat), n * 4 ≤ s * 2 ^ f * 3 → n * 4 ≤ sizeFrom n f s * 3 ∧ s ≤ sizeFrom n f s ∧ sizeFrom n f s ≤ s * 2 ^ f
 | 0, s, h => by simpa [sizeFrom] using h
 | f + 1, s, h => by
  rw [sizeFrom]
  have e : s * 2 * 2 ^ f = s * 2 ^ (f + 1) := by rw [Nat.pow_succ, Nat.mul_assoc, Nat.mul_comm 2]
  split
  ·have := sizeFrom_ok f (s * 2) (by rw [e]; exact h)
   rw [e] at this
   exact ⟨this.1, by omega, this.2.2⟩
  ·refine ⟨by omega, Nat.le_refl _, ?_⟩
   exact Nat.le_mul_of_pos_right _ (Nat.two_pow_pos _)
theorem size_ok {n : Nat} (hn : n ≤ 1048576) : n < sizeFrom n 18 8 ∧ 8 ≤ sizeFrom n 18 8 ∧ sizeFrom n 18 8 ≤ 2097152 := by
 have := sizeFrom_ok (n := n) 18 8 (by omega)
 omega
theorem u32_range (x : Int) : 0 ≤ IntKind.u32.wrap x ∧ IntKind.u32.wrap x < 4294967296 := by
 have : IntKind.u32.wrap x = x % 4294967296 := by simp [IntKind.wrap, IntKind.bits, IntKind.signed]
 rw [this]
 omega
theorem hash_range (k : List Int) : 0 ≤ hashOf k ∧ hashOf k < 4294967296 := by
 unfold hashOf
 have : ∀ (l : List Int) (h : Int), 0 ≤ h ∧ h < 4294967296 → 0 ≤ l.foldl (fun h n => (hsteps 8 (h, IntKind.u64.wrap n)).1) h ∧ l.foldl (fun h n => (hsteps 8 (h, IntKind.u64.wrap n)).1) h < 4294967296 := by
  intro l
  induction l with
  | nil => intro h hh; exact hh
  | cons n l ih => intro h _; exact ih _ (u32_range _)
 exact this k _ (by omega)
def start (N : Nat) (k : List Int) : Nat := (hashOf k).toNat % N
def layN (ks : List (List Int)) : Nat → List Int
 | 0 => List.replicate (sizeFrom ks.length 18 8) 0
 | i + 1 => (layN ks i).set (probe (layN ks i) (layN ks i).length (start (layN ks i).length (gi ks i))) ((i : Int) + 1)
def lay (ks : List (List Int)) : List Int := layN ks ks.length
theorem layN_len (ks : List (List Int)) : ∀ i, (layN ks i).length = sizeFrom ks.length 18 8
 | 0 => by simp [layN]
 | i + 1 => by simp [layN, layN_len ks i]
theorem probe_zero {o : List Int} {z p : Nat} (hz : z < o.length) (h0 : gi o z = 0) : ∀ (f q : Nat), q < o.length → dist o.length z q ≤ f → probe o f q < o.length ∧ gi o (probe o f q) = 0
 | 0, q, hq, hd => by
  have : q = z := by unfold dist at hd; split at hd <;> omega
  subst this
  exact ⟨hq, h0⟩
 | f + 1, q, hq, hd => by
  rw [probe]
  split
  ·rename_i h; exact ⟨hq, h⟩
  ·rename_i h
   have hne : q ≠ z := fun e => h (by rw [e]; exact h0)
   have := dist_next hz hq hne
   exact probe_zero (p := p) hz h0 f _ (nextAt_lt hq) (by omega)
theorem layN_count {ks : List (List Int)} (hk : ks.length ≤ 1048576) : ∀ i, i ≤ ks.length → (layN ks i).countP (fun x => x != 0) = i
 | 0, _ => by simp [layN, List.countP_replicate]
 | i + 1, h => by
  have ih := layN_count hk i (by omega)
  have hl := layN_len ks i
  have hs := size_ok hk
  obtain ⟨z, hz, h0⟩ := free (o := layN ks i) (by omega)
  have hst : start (layN ks i).length (gi ks i) < (layN ks i).length := Nat.mod_lt _ (by omega)
  obtain ⟨q1, q2⟩ := probe_zero (p := 0) hz h0 (layN ks i).length _ hst (Nat.le_of_lt (dist_lt hz hst))
  rw [layN, count_set q1 q2 (by omega), ih]
theorem c62_ok : cFn Tryz.prog an0 Tryz.f62 = some c62 := by kernel_rfl
theorem lay_PF (ks : List (List Int)) (hk : ks.length ≤ 1048576) : PF Tryz.prog 62 [intss ks] (ints (lay ks)) := by
 refine PFk 9 hm Tryz.func62 c62_ok (Nat.le_of_ble_eq_true rfl) (by simp) (by simp) ?_
 obtain ⟨hs1, hs2, hs3⟩ := size_ok hk
 generalize hN : sizeFrom ks.length 18 8 = N at *
 simp (maxSteps := 3000000) [go_sem,-List.length_flatten,-List.map_drop,-List.map_take, c62]
 intro ha
 refine PF.call (size_PF ks.length hk) 9 (by simp [lePs]) ?_
 rw [hN]
 simp (maxSteps := 3000000) [go_sem,-List.length_flatten,-List.map_drop,-List.map_take, Kc, aMksl]
 refine ⟨⟨by unfold limB; omega, by unfold maxA; omega⟩, ?_⟩
 refine run_loop (fun m T H => ∃ i : Nat, m = ks.length - i ∧ i ≤ ks.length ∧ T = [(4, i64 i), (3, .loc 0 0 0 N 1 false), (0, intss ks)] ∧ H = [.cells 0 ((layN ks i).map fun n => i64 n)]) ks.length [(4, i64 0), (3, .loc 0 0 0 N 1 false), (0, intss ks)] [.cells 0 ((layN ks 0).map fun n => i64 n)]
  (Wk.tell 1 (by omega) (by simp [Tm.get]) (by simp) (by simp [layN, hN]) (by simp [RLB])) ⟨0, by simp, by simp, by simp, rfl⟩ ?_
 rintro m T H ⟨i, rfl, hi, rfl, rfl⟩
 have hl := layN_len ks i
 rw [hN] at hl
 generalize ho : layN ks i = o at *
 simp (maxSteps := 3000000) [go_sem,-List.length_flatten,-List.map_drop,-List.map_take]
 intro _
 refine ⟨fun h1 => ⟨h1, ?_⟩, fun h1 => ?_⟩
 ·refine PF.call (hash_PF (gi ks i)) 9 (by simp [lePs]) ?_
  simp (maxSteps := 3000000) [go_sem,-List.length_flatten,-List.map_drop,-List.map_take, Kc]
  intro hNA
  refine ⟨by omega, ?_⟩
  have hh := hash_range (gi ks i)
  have hst : (IntKind.i64.wrap (hashOf (gi ks i))).tmod (N : Int) = ((start N (gi ks i) : Nat) : Int) := by
   rw [w64 (by omega) (by omega), Int.tmod_eq_emod_of_nonneg hh.1]
   unfold start
   rw [Int.natCast_emod, Int.toNat_of_nonneg hh.1]
  rw [hst]
  have hp0 : start N (gi ks i) < N := Nat.mod_lt _ (by omega)
  generalize hst0 : start N (gi ks i) = p0 at *
  obtain ⟨z, hz, h0⟩ := free (o := o) (by have := layN_count hk i hi; rw [ho] at this; omega)
  refine run_loop (fun m T H => ∃ p : Nat, m = dist N z p ∧ p < N ∧ probe o N p = probe o N p0 ∧ T = [(5, i64 p), (4, i64 i), (3, .loc 0 0 0 N 1 false), (0, intss ks)] ∧ H = [.cells 0 (o.map fun n => i64 n)]) (dist N z p0) [(5, i64 p0), (4, i64 i), (3, .loc 0 0 0 N 1 false), (0, intss ks)] [.cells 0 (o.map fun n => i64 n)]
   (Wk.tell 1 (by omega) (by simp [Tm.get]) (by simp) (by simp) (by simp [RLB])) ⟨p0, rfl, hp0, rfl, rfl, rfl⟩ ?_
  rintro m T H ⟨p, rfl, hp, hpr, rfl, rfl⟩
  simp (maxSteps := 3000000) [go_sem,-List.length_flatten,-List.map_drop,-List.map_take, ↓loadCs_drop (f := fun n : Int => i64 n) (l := o) (show p < o.length by omega)]
  have hw : IntKind.i64.wrap ((p : Int) + 1) = ((p + 1 : Nat) : Int) := nxt (n := N) hp hNA
  have stp : ¬ gi o p = 0 → probe o N (nextAt N p) = probe o N p0 ∧ dist N z (nextAt N p) < dist N z p := fun h => by
   have e := probe_step (o := o) hz h0 (by omega) h
   rw [hl] at e
   have := dist_next (N := N) (z := z) (p := p) (by omega) hp (fun e => h (by rw [e]; exact h0))
   exact ⟨by rw [← e, hpr], by omega⟩
  refine ⟨hp, fun h2 _ => ⟨fun h3 => ?_, fun h3 => ?_⟩, fun h2 => ?_⟩
  ·have e : nextAt N p = 0 := by rw [hw] at h3; unfold nextAt; rw [if_pos (by omega)]
   obtain ⟨k1, k2⟩ := stp h2
   rw [e] at k1 k2
   exact Kl_next (dist N z 0) 1 (by omega) ⟨0, rfl, by omega, k1, rfl, rfl⟩ (by simp [Tm.get]) (by simp) (by simp) (by simp [RLB]) k2
  ·have e : nextAt N p = p + 1 := by rw [hw] at h3; unfold nextAt; rw [if_neg (by omega)]
   obtain ⟨k1, k2⟩ := stp h2
   rw [e] at k1 k2
   exact Kl_next (dist N z (p + 1)) 1 (by omega) ⟨p + 1, rfl, by rw [hw] at h3; omega, k1, rfl, rfl⟩ (by simp [Tm.get, hw]) (by simp) (by simp) (by simp [RLB]) k2
  ·have hw2 := nxt h1 ha
   have e : layN ks (i + 1) = o.set p ((i : Int) + 1) := by
    rw [layN, ho, hl, hst0, ← hpr, probe_stop h2]
   refine ⟨hp, by omega, Kl_next (ks.length - (i + 1)) 1 (by omega) ⟨i + 1, rfl, h1, rfl, rfl⟩ (by simp [Tm.get, hw2]) (by simp) ?_ (by simp [RLB]) (by omega)⟩
   rw [e, hw2, List.map_set]
   simp
 ·have e : i = ks.length := by omega
  subst e
  rw [if_pos (by omega), ← hl, chunk_one]
  have : lay ks = o := ho
  rw [this]
  simp [Function.comp_def]
end Go.AM

namespace Go.AM
open Go.Proofs
set_option maxRecDepth 100000
set_option linter.unusedVariables false
set_option linter.unusedSimpArgs false
attribute [local go_sem] Function.comp_def argsT Opd.ev Tm.get put ares mapMo ares1 snilP bldParts bslParts putAt AV.cells AV.one astore aload loadCs callArgs abin abinInt aapp elems appMore appNone preLen aFa aFld apart aExt aPick aNot aLens aEqa cellsK fitsA LK.fitsA leavesA leafA nilD aNilc aCint aCid alive alen alenOk Rle lePs len_flat
theorem c53_ok : cFn Tryz.prog an0 Tryz.f53 = some c53 := by kernel_rfl
def hashRight (a : Kd) : Bool := decide (∀ i : Nat, i < a.keys.length → fstAt (fun x => decide (x = gi a.keys i)) a.keys = i) && decide (a.slots = lay a.keys)
theorem hashBad {a : Kd} {i : Nat} (h : i < a.keys.length) (hn : ¬ fstAt (fun x => decide (x = gi a.keys i)) a.keys = i) : hashRight a = false := by
 have : ¬ ∀ i : Nat, i < a.keys.length → fstAt (fun x => decide (x = gi a.keys i)) a.keys = i := fun hh => hn (hh i h)
 simp [hashRight, this]
theorem hashRight_PF (a : Kd) (hk : a.keys.length ≤ 1048576) : PF Tryz.prog 53 [.agg a.cs] (.bool (hashRight a)) := by
 refine PFk 9 hm Tryz.func53 c53_ok (Nat.le_of_ble_eq_true rfl) (by simp) (by simp) ?_
 simp (maxSteps := 3000000) [go_sem,-List.length_flatten,-List.map_drop,-List.map_take, c53]
 refine run_count a.keys.length 3 [(1, .ptr 0 0 0)] [.cells 0 a.cs] (fun i => ∀ j : Nat, j < i → fstAt (fun x => decide (x = gi a.keys j)) a.keys = j) (Wk.tell 1 (by omega) (by simp [Tm.get]) (by simp) rfl (by simp [RLB])) (fun j hj => by omega) ?_
 intro i hi hj
 have next : fstAt (fun x => decide (x = gi a.keys i)) a.keys = i → ∀ j : Nat, j < i + 1 → fstAt (fun x => decide (x = gi a.keys j)) a.keys = j := fun hb j hl => by
  rcases Nat.lt_or_ge j i with h3 | h3
  ·exact hj j h3
  ·have : j = i := by omega
   subst this
   exact hb
 simp (maxSteps := 3000000) [go_sem,-List.length_flatten,-List.map_drop,-List.map_take]
 intro ha
 refine ⟨fun h1 => ⟨h1, _, at_PF a.keys (gi a.keys i), ?_⟩, fun h1 => ⟨_, lay_PF a.keys hk, ?_⟩⟩
 ·simp (maxSteps := 3000000) [go_sem,-List.length_flatten,-List.map_drop,-List.map_take, Kc]
  refine ⟨fun h2 => hashBad h1 h2, fun h2 => ?_⟩
  exact Kn_next 1 (by omega) (by omega) (next h2) (by simp [Tm.get, nxt h1 ha]) (by simp) rfl (by simp [RLB])
 ·simp (maxSteps := 3000000) [go_sem,-List.length_flatten,-List.map_drop,-List.map_take, Kc]
  refine ⟨_, ints_PF a.slots (lay a.keys), ?_⟩
  simp (maxSteps := 3000000) [go_sem,-List.length_flatten,-List.map_drop,-List.map_take, Kc]
  have : ∀ i : Nat, i < a.keys.length → fstAt (fun x => decide (x = gi a.keys i)) a.keys = i := fun j hl => hj j (by omega)
  simp only [hashRight, decide_eq_true this, Bool.true_and]
def termOk (l : List Sg) (a : Kd) (i : Nat) : Prop := (termAt a i).2 = true ∧ mayBe l i (termAt a i).1 = true ∧ (i < 2 → (termAt a i).1.kind = i)
instance (l : List Sg) (a : Kd) (i : Nat) : Decidable (termOk l a i) := inferInstanceAs (Decidable (_ ∧ _))
def storeRight (l : List Sg) (a : Kd) : Bool := hashRight a && decide (2 ≤ a.keys.length) && decide (∀ i : Nat, i < a.keys.length → termOk l a i)
theorem storeBad {l : List Sg} {a : Kd} {i : Nat} (h : i < a.keys.length) (hn : ¬ termOk l a i) : storeRight l a = false := by
 have : ¬ ∀ i : Nat, i < a.keys.length → termOk l a i := fun hh => hn (hh i h)
 simp [storeRight, this]
theorem c23_ok : cFn Tryz.prog an0 Tryz.f23 = some c23 := by kernel_rfl
theorem storeRight_PF (l : List Sg) (a : Kd) (hk : a.keys.length ≤ 1048576) (hks : ∀ i : Nat, i < a.keys.length → (gi a.keys i).length ≤ maxA) : PF Tryz.prog 23 [sigs l, .agg a.cs] (.bool (storeRight l a)) := by
 refine PFk 9 hm Tryz.func23 c23_ok (Nat.le_of_ble_eq_true rfl) (by simp) (by simp) ?_
 simp (maxSteps := 3000000) [go_sem,-List.length_flatten,-List.map_drop,-List.map_take, c23]
 refine PF.call (hashRight_PF a hk) 9 (by simp [lePs]) ?_
 simp (maxSteps := 3000000) [go_sem,-List.length_flatten,-List.map_drop,-List.map_take, Kc]
 refine ⟨fun h => by simp [storeRight, h], fun hr ha => ⟨fun h => ?_, fun h2 => ?_⟩⟩
 ·have : ¬ 2 ≤ a.keys.length := by omega
  simp [storeRight, this]
 refine run_count a.keys.length 6 [(3, .ptr 0 0 0), (0, sigs l)] [.cells 0 a.cs] (fun i => ∀ j : Nat, j < i → termOk l a j) (Wk.tell 1 (by omega) (by simp [Tm.get]) (by simp) rfl (by simp [RLB])) (fun j hj => by omega) ?_
 intro i hi hj
 have next : termOk l a i → ∀ j : Nat, j < i + 1 → termOk l a j := fun hb j hl => by
  rcases Nat.lt_or_ge j i with h3 | h3
  ·exact hj j h3
  ·have : j = i := by omega
   subst this
   exact hb
 simp (maxSteps := 3000000) [go_sem,-List.length_flatten,-List.map_drop,-List.map_take]
 intro _
 refine ⟨fun h1 => ?_, fun h1 => ?_⟩
 ·refine PF.call (rof_PF a i) 9 (by simp [lePs]) ?_
  simp (maxSteps := 3000000) [go_sem,-List.length_flatten,-List.map_drop,-List.map_take, Kc]
  refine ⟨fun h3 => storeBad h1 (fun h => by rw [h.1] at h3; cases h3), fun h3 => ?_⟩
  refine PF.call (may_PF l i (termAt a i).1 (by
   rw [termAt_in (by omega) (by omega)]
   unfold termOf
   split
   ·simp
   ·have := hks i h1
    simp
    omega)) 9 (by simp [lePs]) ?_
  simp (maxSteps := 3000000) [go_sem,-List.length_flatten,-List.map_drop,-List.map_take, Kc]
  refine ⟨fun h4 => storeBad h1 (fun h => by rw [h.2.1] at h4; cases h4), fun h4 => ⟨fun h5 => ⟨fun h6 => storeBad h1 (fun h => h6 (h.2.2 (by omega))), fun h6 => ?_⟩, fun h5 => ?_⟩⟩
  ·exact Kn_next 1 (by omega) (by omega) (next ⟨h3, h4, fun _ => h6⟩) (by simp [Tm.get, nxt h1 ha]) (by simp) rfl (by simp [RLB])
  ·exact Kn_next 1 (by omega) (by omega) (next ⟨h3, h4, fun h => by omega⟩) (by simp [Tm.get, nxt h1 ha]) (by simp) rfl (by simp [RLB])
 ·have : ∀ i : Nat, i < a.keys.length → termOk l a i := fun j hl => hj j (by omega)
  have h2' : 2 ≤ a.keys.length := by omega
  simp [storeRight, hr, h2']
  exact this
end Go.AM

namespace Go.AM
open Go.Proofs
set_option maxRecDepth 100000
set_option linter.unusedVariables false
set_option linter.unusedSimpArgs false
attribute [local go_sem] Function.comp_def argsT Opd.ev Tm.get put ares mapMo ares1 snilP bldParts bslParts putAt AV.cells AV.one astore aload loadCs callArgs abin abinInt aapp elems appMore appNone preLen aFa aFld apart aExt aPick aNot aLens aEqa cellsK fitsA LK.fitsA leavesA leafA nilD aNilc aCint aCid alive alen alenOk Rle lePs len_flat
theorem c65_ok : cFn Tryz.prog an0 Tryz.f65 = some c65 := by kernel_rfl
abbrev ltr (a b : Int) : AV := .agg [.int .u8 a, .int .u8 b]
theorem has_PF (a b c : Int) : PF Tryz.prog 65 [ltr a b, .int .u8 c] (.bool (decide (a ≤ c) && decide (c ≤ b))) := by
 refine PFk 9 hm Tryz.func65 c65_ok (Nat.le_of_ble_eq_true rfl) (by simp) (by simp) ?_
 by_cases h : a ≤ c
 ·simp (maxSteps := 3000000) [go_sem,-List.length_flatten,-List.map_drop,-List.map_take, c65, h]
 ·simp (maxSteps := 3000000) [go_sem,-List.length_flatten,-List.map_drop,-List.map_take, c65, h]
theorem c101_ok : cFn Tryz.prog an0 Tryz.f101 = some c101 := by kernel_rfl
theorem lower_PF : PF Tryz.prog 101 [] (ltr 97 122) := by
 refine PFk 9 hm Tryz.func101 c101_ok (Nat.le_of_ble_eq_true rfl) (by simp) (by simp) ?_
 simp (maxSteps := 3000000) [go_sem,-List.length_flatten,-List.map_drop,-List.map_take, c101]
theorem c64_ok : cFn Tryz.prog an0 Tryz.f64 = some c64 := by kernel_rfl
theorem upper_PF : PF Tryz.prog 64 [] (ltr 65 90) := by
 refine PFk 9 hm Tryz.func64 c64_ok (Nat.le_of_ble_eq_true rfl) (by simp) (by simp) ?_
 simp (maxSteps := 3000000) [go_sem,-List.length_flatten,-List.map_drop,-List.map_take, c64]
def innerOk (c : Int) : Bool := decide (letter c ∨ figure c)
theorem c85_ok : cFn Tryz.prog an0 Tryz.f85 = some c85 := by kernel_rfl
theorem inner_PF (c : Int) : PF Tryz.prog 85 [.int .u8 c] (.bool (innerOk c)) := by
 refine PFk 9 hm Tryz.func85 c85_ok (Nat.le_of_ble_eq_true rfl) (by simp) (by simp) ?_
 simp (maxSteps := 3000000) [go_sem,-List.length_flatten,-List.map_drop,-List.map_take, c85]
 refine PF.call lower_PF 9 (by simp [lePs]) ?_
 simp (maxSteps := 3000000) [go_sem,-List.length_flatten,-List.map_drop,-List.map_take, Kc]
 refine PF.call (has_PF 97 122 c) 9 (by simp [lePs]) ?_
 by_cases h1 : 97 ≤ c ∧ c ≤ 122
 ·simp (maxSteps := 3000000) [go_sem,-List.length_flatten,-List.map_drop,-List.map_take, Kc, h1]
  simp [innerOk, letter, h1]
 have e1 : (decide (97 ≤ c) && decide (c ≤ 122)) = false := by rw [← Bool.decide_and]; exact decide_eq_false h1
 simp (maxSteps := 3000000) [go_sem,-List.length_flatten,-List.map_drop,-List.map_take, Kc, e1]
 refine PF.call upper_PF 9 (by simp [lePs]) ?_
 simp (maxSteps := 3000000) [go_sem,-List.length_flatten,-List.map_drop,-List.map_take, Kc]
 refine PF.call (has_PF 65 90 c) 9 (by simp [lePs]) ?_
 by_cases h2 : 65 ≤ c ∧ c ≤ 90
 ·simp (maxSteps := 3000000) [go_sem,-List.length_flatten,-List.map_drop,-List.map_take, Kc, h2]
  simp [innerOk, letter, h2]
 have e2 : (decide (65 ≤ c) && decide (c ≤ 90)) = false := by rw [← Bool.decide_and]; exact decide_eq_false h2
 simp (maxSteps := 3000000) [go_sem,-List.length_flatten,-List.map_drop,-List.map_take, Kc, e2]
 refine PF.call (has_PF 48 57 c) 9 (by simp [lePs]) ?_
 by_cases h3 : 48 ≤ c ∧ c ≤ 57
 ·simp (maxSteps := 3000000) [go_sem,-List.length_flatten,-List.map_drop,-List.map_take, Kc, h3]
  simp [innerOk, figure, h3]
 have e3 : (decide (48 ≤ c) && decide (c ≤ 57)) = false := by rw [← Bool.decide_and]; exact decide_eq_false h3
 simp (maxSteps := 3000000) [go_sem,-List.length_flatten,-List.map_drop,-List.map_take, Kc, e3]
 unfold innerOk letter figure
 refine decide_eq_decide.2 ?_
 omega
theorem c84_ok : cFn Tryz.prog an0 Tryz.f84 = some c84 := by kernel_rfl
theorem notInner_PF (c : Int) : PF Tryz.prog 84 [.int .u8 c] (.bool (!innerOk c)) := by
 refine PFk 9 hm Tryz.func84 c84_ok (Nat.le_of_ble_eq_true rfl) (by simp) (by simp) ?_
 simp (maxSteps := 3000000) [go_sem,-List.length_flatten,-List.map_drop,-List.map_take, c84]
 refine PF.call (inner_PF c) 9 (by simp [lePs]) ?_
 simp (maxSteps := 3000000) [go_sem,-List.length_flatten,-List.map_drop,-List.map_take, Kc]
theorem c100_ok : cFn Tryz.prog an0 Tryz.f100 = some c100 := by kernel_rfl
theorem index47_PF (l : List Int) : PF Tryz.prog 100 [u8s l, .fn (.func 84) [] []] (i64 (fstAt (fun c => !innerOk c) l)) := by
 refine PFk 9 hm Tryz.func100 c100_ok (Nat.le_of_ble_eq_true rfl) (by simp) (by simp) ?_
 simp (maxSteps := 3000000) [go_sem,-List.length_flatten,-List.map_drop,-List.map_take, c100]
 intro ha
 refine run_countK l.length 8 [(7, i64 l.length), (0, u8s l), (1, .fn (.func 84) [] [])] [] (fun i => ∀ j : Nat, j < i → innerOk (gi l j) = true)
  (Wk.tell 0 (by omega) (by simp [Tm.get]) (by simp) rfl (by simp)) (fun j hj => by omega) ?_
 intro i hi hj KK kx kr kn
 by_cases h : i < l.length
 ·simp (maxSteps := 3000000) [go_sem,-List.length_flatten,-List.map_drop,-List.map_take, h]
  refine PF.call (notInner_PF (gi l i)) 9 (by simp [lePs]) ?_
  by_cases hin : innerOk (gi l i) = true
  ·simp (maxSteps := 3000000) [go_sem,-List.length_flatten,-List.map_drop,-List.map_take, Kc, hin]
   refine kn _ _ (Kn_next 0 (by omega) (by omega) (fun j hl => ?_) (by simp [Tm.get, nxt h ha]) (by simp) rfl (by simp))
   rcases Nat.lt_or_ge j i with h3 | h3
   ·exact hj j h3
   ·have : j = i := by omega
    subst this
    exact hin
  ·simp (maxSteps := 3000000) [go_sem,-List.length_flatten,-List.map_drop,-List.map_take, Kc, hin, kr]
   exact (fstAt_some h (by simpa using hin) (fun j hl => by simp [hj j hl])).symm
 ·simp (maxSteps := 3000000) [go_sem,-List.length_flatten,-List.map_drop,-List.map_take, h, kx]
  exact (fstAt_none (fun j hl => by simp [hj j (by omega)])).symm
theorem c83_ok : cFn Tryz.prog an0 Tryz.f83 = some c83 := by kernel_rfl
theorem contains36_PF (l : List Int) : PF Tryz.prog 83 [u8s l, .fn (.func 84) [] []] (.bool (decide (0 ≤ fstAt (fun c => !innerOk c) l))) := by
 refine PFk 9 hm Tryz.func83 c83_ok (Nat.le_of_ble_eq_true rfl) (by simp) (by simp) ?_
 simp (maxSteps := 3000000) [go_sem,-List.length_flatten,-List.map_drop,-List.map_take, c83]
 refine PF.call (index47_PF l) 9 (by simp [lePs]) ?_
 simp (maxSteps := 3000000) [go_sem,-List.length_flatten,-List.map_drop,-List.map_take, Kc]
theorem fstAt_neg {α : Type} [Inhabited α] {p : α → Bool} {l : List α} : (0 ≤ fstAt p l) ↔ ∃ j : Nat, j < l.length ∧ p (gi l j) = true := by
 constructor
 ·intro h
  apply Classical.byContradiction
  intro hn
  have : fstAt p l = -1 := fstAt_none fun j hl => by
   cases hp : p (gi l j) with
   | false => rfl
   | true => exact absurd ⟨j, hl, hp⟩ hn
  omega
 ·rintro ⟨j, hl, hp⟩
  unfold fstAt
  split
  ·omega
  ·rename_i hn
   rw [List.findIdx?_eq_none_iff] at hn
   have := hn (gi l j) (by simp [gi, List.getD, hl])
   rw [hp] at this
   cases this
def namedOk (s : ByteArray) (a b : Int) : Bool := decide (1 ≤ s.size) && (decide (s.size ≤ 20) && ((decide (a ≤ byte s 0) && decide (byte s 0 ≤ b)) && decide (∀ i : Nat, i < s.size → innerOk (byte s i) = true)))
theorem c63_ok : cFn Tryz.prog an0 Tryz.f63 = some c63 := by kernel_rfl
theorem named_PF (s : ByteArray) (a b : Int) : PF Tryz.prog 63 [.str s, .fn (.func 65) [ltr a b] []] (.bool (namedOk s a b)) := by
 refine PFk 9 hm Tryz.func63 c63_ok (Nat.le_of_ble_eq_true rfl) (by simp) (by simp) ?_
 by_cases h0 : s.size = 0
 ·simp (maxSteps := 3000000) [go_sem,-List.length_flatten,-List.map_drop,-List.map_take, c63, h0]
  simp [namedOk, h0]
 have h0' : 0 < s.size := by omega
 have h1 : 1 ≤ s.size := by omega
 by_cases h2 : s.size ≤ 20
 ·have h2' : ¬ (20 : Int) < (s.size : Int) := by omega
  have hA : s.size ≤ maxA := by unfold maxA; omega
  simp (maxSteps := 3000000) [go_sem,-List.length_flatten,-List.map_drop,-List.map_take, c63, h0, h0', h2, h2']
  intro _
  refine PF.call (has_PF a b (byte s 0)) 9 (by simp [lePs]) ?_
  cases hm : (decide (a ≤ byte s 0) && decide (byte s 0 ≤ b)) with
  | false =>
   simp (maxSteps := 3000000) [go_sem,-List.length_flatten,-List.map_drop,-List.map_take, Kc, hm]
   simp only [namedOk, hm, Bool.false_and, Bool.and_false]
  | true =>
   simp (maxSteps := 3000000) [go_sem,-List.length_flatten,-List.map_drop,-List.map_take, Kc, hm, hA]
   refine PF.call (contains36_PF (bl s)) 9 (by simp [lePs]) ?_
   simp (maxSteps := 3000000) [go_sem,-List.length_flatten,-List.map_drop,-List.map_take, Kc]
   have e : (∀ i : Nat, i < s.size → innerOk (byte s i) = true) ↔ ¬ (0 ≤ fstAt (fun c => !innerOk c) (bl s)) := by
    rw [fstAt_neg, bl_len]
    constructor
    ·rintro h ⟨j, hl, hp⟩
     rw [bl_gi, h j hl] at hp
     cases hp
    ·intro h i hi
     cases hin : innerOk (byte s i) with
     | true => rfl
     | false => exact absurd ⟨i, hi, by rw [bl_gi, hin]; rfl⟩ h
   simp only [namedOk, hm, h1, h2, e, decide_true, Bool.true_and]
   generalize fstAt (fun c => !innerOk c) (bl s) = n
   by_cases hn : 0 ≤ n
   ·simp [hn]
   ·simp [hn]
 ·have h2' : (20 : Int) < (s.size : Int) := by omega
  simp (maxSteps := 3000000) [go_sem,-List.length_flatten,-List.map_drop,-List.map_take, c63, h0, h0', h2, h2']
  simp [namedOk, h2]
end Go.AM

namespace Go.AM
open Go.Proofs
set_option maxRecDepth 100000
set_option linter.unusedVariables false
set_option linter.unusedSimpArgs false
attribute [local go_sem] Function.comp_def argsT Opd.ev Tm.get put ares mapMo ares1 snilP bldParts bslParts putAt AV.cells AV.one astore aload loadCs callArgs abin abinInt aapp elems appMore appNone preLen aFa aFld apart aExt aPick aNot aLens aEqa cellsK fitsA LK.fitsA leavesA leafA nilD aNilc aCint aCid alive alen alenOk Rle lePs len_flat
def known (c : Int) : Prop := c = 43 ∨ c = 45
instance (c : Int) : Decidable (known c) := inferInstanceAs (Decidable (_ ∨ _))
theorem c86_ok : cFn Tryz.prog an0 Tryz.f86 = some c86 := by kernel_rfl
theorem isCon_PF (s : ByteArray) : PF Tryz.prog 86 [.str s] (.bool (namedOk s 97 122)) := by
 refine PFk 9 hm Tryz.func86 c86_ok (Nat.le_of_ble_eq_true rfl) (by simp) (by simp) ?_
 simp (maxSteps := 3000000) [go_sem,-List.length_flatten,-List.map_drop,-List.map_take, c86]
 refine PF.call lower_PF 9 (by simp [lePs]) ?_
 simp (maxSteps := 3000000) [go_sem,-List.length_flatten,-List.map_drop,-List.map_take, Kc]
 refine PF.call (named_PF s 97 122) 9 (by simp [lePs]) ?_
 simp (maxSteps := 3000000) [go_sem,-List.length_flatten,-List.map_drop,-List.map_take, Kc]
theorem c30_ok : cFn Tryz.prog an0 Tryz.f30 = some c30 := by kernel_rfl
theorem isVar_PF (s : ByteArray) : PF Tryz.prog 30 [.str s] (.bool (namedOk s 65 90)) := by
 refine PFk 9 hm Tryz.func30 c30_ok (Nat.le_of_ble_eq_true rfl) (by simp) (by simp) ?_
 simp (maxSteps := 3000000) [go_sem,-List.length_flatten,-List.map_drop,-List.map_take, c30]
 refine PF.call upper_PF 9 (by simp [lePs]) ?_
 simp (maxSteps := 3000000) [go_sem,-List.length_flatten,-List.map_drop,-List.map_take, Kc]
 refine PF.call (named_PF s 65 90) 9 (by simp [lePs]) ?_
 simp (maxSteps := 3000000) [go_sem,-List.length_flatten,-List.map_drop,-List.map_take, Kc]
theorem conOk_named (s : ByteArray) : namedOk s 97 122 = conOk s := by
 rw [Bool.eq_iff_iff]
 simp only [namedOk, conOk, nameOk, Bool.and_eq_true, decide_eq_true_eq, innerOk]
 constructor
 ·rintro ⟨h1, h2, ⟨h3, h4⟩, h5⟩
  refine ⟨⟨⟨⟨h1, h2⟩, fun i hi => ?_⟩, h3⟩, h4⟩
  rcases h5 i hi with h | h
  ·exact .inl h
  ·by_cases h0 : i = 0
   ·subst h0
    exact .inl (.inl ⟨h3, h4⟩)
   ·exact .inr ⟨by omega, h⟩
 ·rintro ⟨⟨⟨⟨h1, h2⟩, h5⟩, h3⟩, h4⟩
  refine ⟨h1, h2, ⟨h3, h4⟩, fun i hi => ?_⟩
  rcases h5 i hi with h | h
  ·exact .inl h
  ·exact .inr h.2
theorem c75_ok : cFn Tryz.prog an0 Tryz.f75 = some c75 := by kernel_rfl
theorem find1_FT (s : Sg) (j g : Nat) (name : ByteArray) (H : AHeap) (hH : H[j]? = some (.cells g [.str name])) (hR : ∀ b ∈ H, RLB H.length b) : FT Tryz.prog 75 [.agg [.str s.name, .str s.args], .ptr j g 0] H (fun rv H' => rv = .bool (decide (s.name = name)) ∧ H' = H) := by
 refine FTt hm Tryz.func75 c75_ok (Nat.le_of_ble_eq_true rfl) ?_
 have hj := lt_of_get hH
 have e : (H ++ [ABlk.cells 0 [AV.str s.name, AV.str s.args]])[j]? = some (.cells g [.str name]) := by rw [List.getElem?_append_left hj]; exact hH
 simp (maxSteps := 3000000) [go_sem,-List.length_flatten,-List.map_drop,-List.map_take, c75, e]
 exact hR
theorem c74_ok : cFn Tryz.prog an0 Tryz.f74 = some c74 := by kernel_rfl
theorem index25_FT (l : List Sg) (j g : Nat) (name : ByteArray) (H : AHeap) (hH : H[j]? = some (.cells g [.str name])) (hR : ∀ b ∈ H, RLB H.length b) :
  FT Tryz.prog 74 [sigs l, .fn (.func 75) [] [.ptr j g 0]] H (fun rv H' => rv = i64 (fstAt (fun s => decide (s.name = name)) l) ∧ H' = H) := by
 refine FTk hm Tryz.func74 c74_ok (Nat.le_of_ble_eq_true rfl) ?_
 have hj := lt_of_get hH
 simp (maxSteps := 3000000) [go_sem,-List.length_flatten,-List.map_drop,-List.map_take, c74]
 intro ha
 refine run_countK l.length 8 [(7, i64 l.length), (0, sigs l), (1, .fn (.func 75) [] [.ptr j g 0])] H (fun i => ∀ k : Nat, k < i → (gi l k).name ≠ name)
  (Wk.to H.length (by omega) (by simp [Tm.get]) (by simp [hj]) (by simp) hR) (fun j hj => by omega) ?_
 intro i hi hjj KK kx kr kn
 by_cases h : i < l.length
 ·simp (maxSteps := 3000000) [go_sem,-List.length_flatten,-List.map_drop,-List.map_take, h]
  refine FT.mono (find1_FT (gi l i) j g name H hH hR) ?_
  rintro rv H' ⟨rfl, rfl⟩
  by_cases hin : (gi l i).name = name
  ·simp (maxSteps := 3000000) [go_sem,-List.length_flatten,-List.map_drop,-List.map_take, Kc, hin, kr]
   exact (fstAt_some h (by simpa using hin) (fun k hl => by simpa using hjj k hl)).symm
  ·simp (maxSteps := 3000000) [go_sem,-List.length_flatten,-List.map_drop,-List.map_take, Kc, hin]
   refine kn _ _ ⟨by omega, fun k hl => ?_, Wk.to (List.length H') (by omega) (by simp [Tm.get, nxt h ha]) (by simp [hj]) (by simp) hR⟩
   rcases Nat.lt_or_ge k i with h3 | h3
   ·exact hjj k h3
   ·have : k = i := by omega
    subst this
    exact hin
 ·simp (maxSteps := 3000000) [go_sem,-List.length_flatten,-List.map_drop,-List.map_take, h, kx]
  exact (fstAt_none (fun k hl => by simpa using hjj k (by omega))).symm
theorem c50_ok : cFn Tryz.prog an0 Tryz.f50 = some c50 := by kernel_rfl
theorem sfind_PF (l : List Sg) (name : ByteArray) : PF Tryz.prog 50 [sigs l, .str name] (i64 (fstAt (fun s => decide (s.name = name)) l)) := by
 refine PFk 9 hm Tryz.func50 c50_ok (Nat.le_of_ble_eq_true rfl) (by simp) (by simp) ?_
 simp (maxSteps := 3000000) [go_sem,-List.length_flatten,-List.map_drop,-List.map_take, c50]
 refine FT.mono (index25_FT l 0 0 name _ rfl (by simp [RLB])) ?_
 rintro rv H' ⟨rfl, rfl⟩
 simp (maxSteps := 3000000) [go_sem,-List.length_flatten,-List.map_drop,-List.map_take, Kc]
end Go.AM

namespace Go.AM
open Go.RowKit Go.Shelf Go.Proofs
attribute [local go_sem] Oper.semAt_some
set_option linter.unusedVariables false
set_option linter.unusedSimpArgs false
theorem PF.plain {P : Program} {f : FuncId} {bs : List AV} {X : Nat → Prop} {E : Env} {w : World} {H : AHeap} {k : IntKind} {n : Int} {vals : Array Value} (h : PF P f bs (.int k n)) (hr : HR X E w H) (ha : ArgsR X E w bs vals) :
  Calls P f vals w fun e w' => e = .returned (.int k n) ∧ Ev [] w [] w' := by
 have hr0 : HR (fun B => X B ∨ Own E B) [] w [] := ⟨rfl, fun i j ei ej B h => by simp at h, fun i e B h => by simp at h, fun i e b h => by simp at h, fun B hB => hB.elim (hr.bound B) hr.own_lt⟩
 refine (h.2.2.2 _ [] w vals hr0 ⟨ha.1, fun j hj hj' => (ha.2 j hj hj').frame (h.1 _ (List.getElem_mem _))⟩).mono ?_
 rintro e w' ⟨v, rv, E', H', rfl, rfl, k1, k2, k3⟩
 cases k1
 exact ⟨rfl, k3.os, k3.tape, k3.output, k3.size, k3.keep, fun B ⟨e, he, _⟩ => (by cases he), fun i e h => by simp at h, k3.draw⟩

theorem hmz : Tryz.prog.follows .mixedOrders = true := by kernel_rfl
set_option maxRecDepth 100000 in
set_option maxHeartbeats 4000000 in
theorem round_seq {ka : AV} {h : Int} (hh : PF Tryz.prog 118 [ka] (.int .u32 h)) (h0 : 0 ≤ h) (h1 : h < 4294967296) (n : Nat) (hn : 0 < n) (hn1 : n ≤ 1099511627776) (I : Nat → AHeap → Prop) :
  SeqA Tryz.prog 117 [.rptr [ka], .rptr [.int .i64 n]] n (fun k => [.int .i64 ((h % n + k) % n)]) I := by
 refine ⟨⟨Tryz.f117, Tryz.func117, rfl, by kernel_rfl⟩, ?_⟩
 intro X caps l J Jx W hJ hJx hrd hy hJ0
 obtain ⟨E, H, hr, hi, hca⟩ := hrd 0 W hJ0
 obtain ⟨hs, hca⟩ := hca
 obtain ⟨c1, c2, rfl⟩ : ∃ c1 c2, caps = #[c1, c2] := by
  match caps, hs with
  | ⟨[c1, c2]⟩, _ => exact ⟨c1, c2, rfl⟩
 have v1 := hca 0 (by simp) (by simp)
 have v2 := hca 1 (by simp) (by simp)
 simp only [List.getElem_cons_zero, List.getElem_cons_succ, List.getElem_toArray] at v1 v2
 cases v1 with
 | rptr _ a1 f1 hL1 hc1 hv1 =>
 cases v2 with
 | rptr _ a2 f2 hL2 hc2 hv2 =>
 have hc1 := hc1 0 (by simp)
 have hc2 := hc2 0 (by simp)
 have hv1 := hv1 0 (by simp)
 have hv2 := hv2 0 (by simp)
 simp only [List.getElem_cons_zero, Nat.add_zero] at hc1 hc2 hv1 hv2
 generalize f1 0 = u1 at *
 generalize f2 0 = u2 at *
 cases hv2
 obtain ⟨b1, o1, s1⟩ := a1
 obtain ⟨b2, o2, s2⟩ := a2
 simp only at hc1 hc2
 refine (callsIn_wide (n := 0)).1 (callsIn_of_wp Tryz.func117 rfl trivial ?_ rfl)
 simp only [Tryz.ntmps117, List.size_toArray, List.length_cons, List.length_nil, Nat.reduceAdd, Nat.reduceSub, Array.replicate_succ, Array.replicate_zero, List.push_toArray, List.append_toArray, List.nil_append, List.cons_append]
 have hmx : Tryz.prog.follows .mixedOrders = true := by kernel_rfl
 have hno : ∀ B, ¬ Own [] B := fun B ⟨e, he, _⟩ => by cases he
 have hcall : Calls Tryz.prog 118 #[u1] W.drew fun e w' => e = .returned (.int .u32 h) ∧ Ev [] W.drew [] w' ∧ w'.cell? ⟨b2, o2, none⟩ = some (.int .i64 n) := by
  refine (PF.plain (X := X) (E := E) (H := H) hh (hr.drew _) ⟨rfl, fun j hj hj' => ?_⟩).mono ?_
  ·match j, hj with
   | 0, _ => exact hv1.mono ((Ev.refl E W).drew _)
  ·rintro e w' ⟨rfl, hev⟩
   exact ⟨rfl, hev, hev.cell (w := W.drew) (a := ⟨b2, o2, none⟩) hc2 (hno _)⟩
 have hnn : ¬ (n : Int) = 0 := by omega
 refine wpIn_seq (wpIn_mono (Q := Exit.then (fun a w => a = { tmps := #[.func (.yield l) #[] #[], .pointer (some ⟨b1, o1, none⟩), .pointer (some ⟨b2, o2, none⟩), undef, .int .i64 (h % n), undef, u1, .int .u32 h, .int .i64 h, .int .i64 n, .int .i64 (h % n), undef, undef, undef, undef, undef, undef, undef, undef, undef, undef, undef, undef, undef], defers := [] } ∧ Ev [] W [] w) (fun _ _ _ => False)) ?r0 ?rest)
 case r0 =>
  gi_wp2
  gi_region_with_o (refine ⟨trivial, rfl, ?_⟩; refine (callsIn_wide.2 hcall).mono ?_; rintro e w' ⟨rfl, hev, hc2'⟩)
  all_goals (refine ⟨?_, ((Ev.refl [] W).drew _).trans hev⟩; simp [Act.put])
 case rest =>
  rintro e a w hq
  cases e <;> try exact hq.elim
  obtain ⟨rfl, hev⟩ := hq
  have hj := hJ 0 W w hJ0 hev
  have hcr : ∀ k W', J k W' → W'.cell? ⟨b2, o2, none⟩ = some (.int .i64 n) := by
   intro k W' hJk
   obtain ⟨E, H, _, _, hca⟩ := hrd k W' hJk
   have v2 := hca.2 1 (by simp) (by simp)
   simp only [List.getElem_cons_zero, List.getElem_cons_succ, List.getElem_toArray] at v2
   obtain ⟨f3, hc3, hv3⟩ : ∃ f3 : Nat → Value, (∀ j, j < 1 → W'.cell? ⟨b2, o2 + j, none⟩ = some (f3 j)) ∧ ∀ j (hj : j < 1), VR X E W' ([AV.int .i64 (n : Int)][j]'(by simpa using hj)) (f3 j) := by
    generalize hp : (Value.pointer (some ⟨b2, o2, none⟩)) = p at v2
    cases v2 with
    | rptr _ a3 f3 hL3 hc3 hv3 =>
     injection hp with hp
     injection hp with hp
     injection hp with q1 q2 q3
     exact ⟨f3, by rw [q1, q2]; exact hc3, hv3⟩
   have := hc3 0 (by omega)
   rw [Nat.add_zero] at this
   rw [this]
   have := hv3 0 (by omega)
   simp only [List.getElem_cons_zero] at this
   rw [this.inv_int]
  have hc2 := hcr 0 w hj
  show Code.wpIn _ _ _ _ _ _ _
  gi_wp2
  gi_loopw [12] (fun i wr => ∃ k : Nat, k ≤ n ∧ i = .int .i64 k ∧ J k wr) (fun i _ => n - (intOf i).toNat)
  case atStart => exact ⟨0, Nat.zero_le _, rfl, hj⟩
  case round =>
   obtain ⟨k, hk, rfl, hJs⟩ := hrel
   have hc3 := hcr k wr hJs
   by_cases hlt : k < n
   ·have hlt' : (k : Int) < n := by omega
    obtain ⟨fn, tmps, assign, body, hyy, hR⟩ := hy k wr #[.int .i64 ((h % n + k).tmod n)] hlt hJs ⟨rfl, fun j hj hj' => by
     have e : (h % n + k).tmod n = (h % n + k) % n := Int.tmod_eq_emod_of_nonneg (by have := Int.emod_nonneg h hnn; omega)
     match j, hj with
     | 0, _ => rw [e]; exact .int _ _⟩
    have hw1 : wrap64 (h % n + k) = h % n + k := by
     have := Int.emod_nonneg h hnn
     have := Int.emod_lt_of_pos h (show (0 : Int) < n by omega)
     unfold wrap64; omega
    gi_wp2
    refine ⟨rfl, RoundIn.mono hR ?_⟩
    rintro e W3 (⟨rfl, hJ3⟩ | ⟨rfl, hJx3⟩)
    ·gi_wp2
     go_roundw
     case rel => exact ⟨k + 1, by omega, by simp, hJ3⟩
     case measure => simp [intOf]; omega
    ·gi_wp2
     refine bodyPost_ret (results_none rfl _ _ _) rfl ?_
     exact ⟨⟨_, rfl⟩, .inr hJx3⟩
   ·obtain rfl : k = n := by omega
    gi_wp2
    go_end0
    exact ⟨⟨_, rfl⟩, .inl hJs⟩

set_option maxRecDepth 100000 in
set_option maxHeartbeats 4000000 in
theorem back_seq (i j g g2 len : Nat) (c : Bool) (hlen : len ≤ 1099511627776) (I : Nat → AHeap → Prop)
  (hI : ∀ k H, I k H → ∃ cs, H[i]? = some (.cells g [.loc j g2 0 len 1 c]) ∧ H[j]? = some (.cells g2 cs) ∧ len ≤ cs.length) :
  SeqA Tryz.prog 119 [.ptr i g 0] len (fun k => [.int .i64 ((len : Int) - 1 - k), .any]) I := by
 refine ⟨⟨Tryz.f119, Tryz.func119, rfl, by kernel_rfl⟩, ?_⟩
 intro X caps l J Jx W hJ hJx hrd hy hJ0
 have hfact : ∀ k W, J k W → ∃ (B o : Nat) (a : Option Addr) (c' : Nat), caps = #[.pointer (some ⟨B, o, none⟩)] ∧ W.cell? ⟨B, o, none⟩ = some (.slice a len c') ∧
   (0 < len → ∃ B' o', a = some ⟨B', o', none⟩ ∧ ∀ t, t < len → ∃ v, W.cell? ⟨B', o' + t, none⟩ = some v) := by
  intro k W hJk
  obtain ⟨E, H, hr, hi, hca⟩ := hrd k W hJk
  obtain ⟨cs, hi1, hi2, hi3⟩ := hI k H hi
  obtain ⟨hs, hca⟩ := hca
  obtain ⟨p, rfl⟩ : ∃ p, caps = #[p] := by
   match caps, hs with
   | ⟨[p]⟩, _ => exact ⟨p, rfl⟩
  have v1 := hca 0 (by simp) (by simp)
  simp only [List.getElem_cons_zero, List.getElem_toArray] at v1
  cases v1 with
  | ptr _ _ _ e _ he ho hg h =>
  obtain ⟨h1, h2, h3, h4⟩ := hr.br i e _ he hi1
  obtain ⟨B, hB, rfl⟩ := h h1.symm
  obtain ⟨u, hu1, hu2, _⟩ := hr.cell hi1 he hB 0 (by simp)
  simp only [List.getElem_cons_zero] at hu2
  cases hu2 with
  | loc _ _ _ _ _ _ e2 _ he2 ho2 hg2 hl2 =>
  obtain ⟨h1', h2', h3', h4'⟩ := hr.br j e2 _ he2 hi2
  obtain ⟨a, c', rfl, q1, q2, q3, q4⟩ := hl2 h1'.symm
  refine ⟨B, e.base, a, c', by simp, by simpa using hu1, fun hpos => ?_⟩
  obtain ⟨B', hB', rfl, _⟩ := q4 (by omega)
  refine ⟨B', e2.base, by simp, fun t ht => ?_⟩
  obtain ⟨v, hv, _⟩ := hr.cell hi2 he2 hB' t (by omega)
  exact ⟨v, hv⟩
 obtain ⟨B, o, a0, c0, rfl, hc0, hel0⟩ := hfact 0 W hJ0
 have hfact2 : ∀ k W, J k W → ∃ (a : Option Addr) (c' : Nat), W.cell? ⟨B, o, none⟩ = some (.slice a len c') ∧
   (0 < len → ∃ B' o', a = some ⟨B', o', none⟩ ∧ ∀ t, t < len → ∃ v, W.cell? ⟨B', o' + t, none⟩ = some v) := by
  intro k W hJk
  obtain ⟨B1, o1, a, c', e, h1, h2⟩ := hfact k W hJk
  simp at e
  obtain ⟨rfl, rfl⟩ := e
  exact ⟨a, c', h1, h2⟩
 clear hfact hel0
 refine (callsIn_wide (n := 0)).1 (callsIn_of_wp Tryz.func119 rfl trivial ?_ rfl)
 simp only [Tryz.ntmps119, List.size_toArray, List.length_cons, List.length_nil, Nat.reduceAdd, Nat.reduceSub, Array.replicate_succ, Array.replicate_zero, List.push_toArray, List.append_toArray, List.nil_append, List.cons_append]
 have hw0 : wrap64 ((len : Int) - 1) = len - 1 := by unfold wrap64; omega
 gi_wp2
 gi_loopw [3] (fun i wr => ∃ k : Nat, k ≤ len ∧ i = .int .i64 ((len : Int) - 1 - k) ∧ J k wr) (fun i _ => (intOf i + 1).toNat)
 case atStart => exact ⟨0, Nat.zero_le _, by simp, hJ0⟩
 case round =>
  obtain ⟨k, hk, rfl, hJs⟩ := hrel
  obtain ⟨a, c', hc, hel⟩ := hfact2 k wr hJs
  by_cases hlt : k < len
  ·obtain ⟨B', o', rfl, hel2⟩ := hel (by omega)
   clear hel
   obtain ⟨v, hv⟩ := hel2 (len - 1 - k) (by omega)
   have hge : 0 ≤ (len : Int) - 1 - k := by omega
   have hlt1 : (len : Int) - 1 - k < len := by omega
   have htn : ((len : Int) - 1 - k).toNat = len - 1 - k := by omega
   obtain ⟨fn, tmps, assign, body, hyy, hR⟩ := hy k wr #[.int .i64 ((len : Int) - 1 - k), v] hlt hJs ⟨rfl, fun j hj hj' => by
    match j, hj with
    | 0, _ => exact .int _ _
    | 1, _ => exact .any _⟩
   have hw1 : wrap64 ((len : Int) - 1 - k - 1) = (len : Int) - 1 - (k + 1 : Nat) := by unfold wrap64; omega
   gi_wp2
   refine ⟨rfl, RoundIn.mono hR ?_⟩
   rintro e W3 (⟨rfl, hJ3⟩ | ⟨rfl, hJx3⟩)
   ·gi_wp2
    go_roundw
    case rel => exact ⟨k + 1, by omega, by simp; omega, hJ3⟩
    case measure => simp [intOf]; omega
   ·gi_wp2
    refine bodyPost_ret (results_none rfl _ _ _) rfl ?_
    exact ⟨⟨_, rfl⟩, .inr hJx3⟩
  ·obtain rfl : k = len := by omega
   gi_wp2
   go_end0
   exact ⟨⟨_, rfl⟩, .inl hJs⟩
end Go.AM

namespace Go.AM
open Go.Proofs
set_option maxRecDepth 100000
set_option linter.unusedVariables false
set_option linter.unusedSimpArgs false
attribute [local go_sem] Function.comp_def argsT Opd.ev Tm.get put ares mapMo ares1 snilP bldParts bslParts putAt AV.cells AV.one astore aload loadCs callArgs abin abinInt aapp elems appMore appNone preLen aFa aFld apart aExt aPick aNot aLens aEqa cellsK fitsA LK.fitsA leavesA leafA nilD aNilc aCint aCid alive alen alenOk Rle lePs len_flat
/-! ### Package hash -/
theorem hsteps_snd {m : Int} (h0 : 0 ≤ m) (h1 : m < 18446744073709551616) (g : Int) : ∀ j, (hsteps j (g, m)).2 = m / 256 ^ j
 | 0 => by simp [hsteps]
 | j + 1 => by
  have ih := hsteps_snd h0 h1 g j
  have h3 : 0 ≤ m / 256 ^ j := Int.ediv_nonneg h0 (Int.pow_nonneg (by omega))
  have h4 : m / 256 ^ j ≤ m := Int.ediv_le_self _ h0
  have e : (m / 256 ^ j).tdiv 256 = m / 256 ^ j / 256 := Int.tdiv_eq_ediv_of_nonneg h3
  have h5 : 0 ≤ m / 256 ^ j / 256 := Int.ediv_nonneg h3 (by omega)
  have h6 : m / 256 ^ j / 256 ≤ m / 256 ^ j := Int.ediv_le_self _ h3
  have w : IntKind.u64.wrap (m / 256 ^ j / 256) = m / 256 ^ j / 256 := by
   have : ∀ x : Int, IntKind.u64.wrap x = x % 18446744073709551616 := fun x => by simp [IntKind.wrap, IntKind.bits, IntKind.signed]
   rw [this, Int.emod_eq_of_lt h5 (by omega)]
  simp only [hsteps, hstep, ih, e, w]
  rw [Int.pow_succ, Int.ediv_ediv_of_nonneg (Int.pow_nonneg (by omega))]
theorem u64_range (x : Int) : 0 ≤ IntKind.u64.wrap x ∧ IntKind.u64.wrap x < 18446744073709551616 := by
 have : IntKind.u64.wrap x = x % 18446744073709551616 := by simp [IntKind.wrap, IntKind.bits, IntKind.signed]
 rw [this]
 omega
theorem byte_of (n g : Int) (j : Nat) : IntKind.u8.wrap ((IntKind.u64.wrap n).fdiv (2 ^ (8 * j))) = (hsteps j (g, IntKind.u64.wrap n)).2.tmod 256 := by
 obtain ⟨h0, h1⟩ := u64_range n
 rw [hsteps_snd h0 h1]
 have e : (2 : Int) ^ (8 * j) = 256 ^ j := by rw [Int.pow_mul]; rfl
 have h3 : 0 ≤ IntKind.u64.wrap n / 256 ^ j := Int.ediv_nonneg h0 (Int.pow_nonneg (by omega))
 rw [e, Int.fdiv_eq_ediv_of_nonneg _ (Int.pow_nonneg (by omega)), Int.tmod_eq_emod_of_nonneg h3]
 simp [IntKind.wrap, IntKind.bits, IntKind.signed]
theorem c118_ok : cFn Tryz.prog an0 Tryz.f118 = some c118 := by kernel_rfl
theorem chash_PF (k : List Int) : PF Tryz.prog 118 [ints k] (.int .u32 (hashOf k)) := by
 refine PFk 9 hm Tryz.func118 c118_ok (Nat.le_of_ble_eq_true rfl) (by simp) (by simp) ?_
 simp (maxSteps := 3000000) [go_sem,-List.length_flatten,-List.map_drop,-List.map_take, c118]
 intro ha
 refine run_loop (fun m T H => ∃ i : Nat, m = k.length - i ∧ i ≤ k.length ∧ T = [(9, i64 i), (8, i64 k.length), (7, ints k), (3, .int .u32 ((k.take i).foldl (fun h n => (hsteps 8 (h, IntKind.u64.wrap n)).1) 2166136261)), (0, ints k)] ∧ H = []) k.length [(9, i64 0), (8, i64 k.length), (7, ints k), (3, .int .u32 2166136261), (0, ints k)] []
  (Wk.tell 0 (Nat.le_refl _) (by simp [Tm.get]) (by simp) rfl (by simp)) ⟨0, by simp, by simp, by simp, rfl⟩ ?_
 rintro m T H ⟨i, rfl, hi, rfl, rfl⟩
 generalize hg : (k.take i).foldl (fun h n => (hsteps 8 (h, IntKind.u64.wrap n)).1) 2166136261 = g
 simp (maxSteps := 3000000) [-List.length_flatten, -List.map_drop, -List.map_take, Function.comp_def, argsT, Opd.ev, Tm.get, put, ares, mapMo, ares1, snilP, bldParts, bslParts, putAt, AV.cells, AV.one, astore, aload, loadCs, callArgs, abin, abinInt, aapp, elems, appMore, appNone, preLen, aFa, aFld, apart, aExt, aPick, aNot, aLens, aEqa, cellsK, fitsA, LK.fitsA, leavesA, leafA, nilD, aNilc, aCint, aCid, alive, alen, alenOk, Rle, lePs, len_flat]
 refine ⟨fun h1 => ⟨h1, ?_⟩, fun h1 => ?_⟩
 ·refine run_loop (fun m T H => ∃ j : Nat, m = 8 - j ∧ j ≤ 8 ∧ T = [(6, i64 (8 * j : Nat)), (3, .int .u32 (hsteps j (g, IntKind.u64.wrap (gi k i))).1), (5, i64 (gi k i)), (9, i64 i), (8, i64 k.length), (7, ints k), (0, ints k)] ∧ H = []) 8 [(6, i64 0), (3, .int .u32 g), (5, i64 (gi k i)), (9, i64 i), (8, i64 k.length), (7, ints k), (0, ints k)] []
   (Wk.tell 0 (Nat.le_refl _) (by simp [Tm.get]) (by simp) rfl (by simp)) ⟨0, by simp, by simp, by simp [hsteps], rfl⟩ ?_
  rintro m T H ⟨j, rfl, hj, rfl, rfl⟩
  have hb := byte_of (gi k i) g j
  simp (maxSteps := 3000000) [-List.length_flatten, -List.map_drop, -List.map_take, Function.comp_def, argsT, Opd.ev, Tm.get, put, ares, mapMo, ares1, snilP, bldParts, bslParts, putAt, AV.cells, AV.one, astore, aload, loadCs, callArgs, abin, abinInt, aapp, elems, appMore, appNone, preLen, aFa, aFld, apart, aExt, aPick, aNot, aLens, aEqa, cellsK, fitsA, LK.fitsA, leavesA, leafA, nilD, aNilc, aCint, aCid, alive, alen, alenOk, Rle, lePs, len_flat]
  refine ⟨fun h2 => ⟨by omega, ?_⟩, fun h2 => ?_⟩
  ·have h3 : j < 8 := by omega
   have e1 : min (8 * (j : Int)).toNat IntKind.u64.bits = 8 * j := by simp [IntKind.bits]; omega
   have hw : IntKind.i64.wrap (8 * (j : Int) + 8) = ((8 * (j + 1) : Nat) : Int) := by rw [w64 (by omega) (by omega)]; omega
   refine Kl_next (8 - (j + 1)) 0 (Nat.le_refl _) ⟨j + 1, rfl, by omega, rfl, rfl⟩ ?_ (by simp) rfl (by simp) (by omega)
   simp [Tm.get, hw, hsteps, hstep, e1, hb]
  ·have : j = 8 := by omega
   subst this
   refine Kl_next (k.length - (i + 1)) 0 (Nat.le_refl _) ⟨i + 1, rfl, h1, rfl, rfl⟩ ?_ (by simp) rfl (by simp) (by omega)
   have e := foldl_take (fun h n => (hsteps 8 (h, IntKind.u64.wrap n)).1) 2166136261 k i h1
   rw [hg] at e
   rw [e]
   simp [Tm.get, nxt h1 ha]
 ·have : k.take i = k := List.take_of_length_le (by omega)
  rw [← hg, this]
  rfl
theorem c97_ok : cFn Tryz.prog an0 Tryz.f97 = some c97 := by kernel_rfl
theorem csize_PF (n : Nat) (hn : n ≤ 1048576) : PF Tryz.prog 97 [i64 n] (i64 (sizeFrom n 18 8)) := by
 refine PFk 9 hm Tryz.func97 c97_ok (Nat.le_of_ble_eq_true rfl) (by simp) (by simp) ?_
 simp (maxSteps := 3000000) [go_sem,-List.length_flatten,-List.map_drop,-List.map_take, c97]
 refine run_loop (fun m T H => ∃ s : Nat, sizeFrom n m s = sizeFrom n 18 8 ∧ s * 2 ^ m = 8 * 2 ^ 18 ∧ m ≤ 18 ∧ 0 < s ∧ s % 4 = 0 ∧ T = [(3, i64 s), (0, i64 n)] ∧ H = []) 18 [(3, i64 8), (0, i64 n)] []
  (Wk.tell 0 (Nat.le_refl _) (by simp [Tm.get]) (by simp) rfl (by simp)) ⟨8, rfl, rfl, Nat.le_refl _, by omega, rfl, rfl, rfl⟩ ?_
 rintro m T H ⟨s, h1, h2, h3, h4, h5, rfl, rfl⟩
 have hs : s ≤ 2097152 := by
  have : 1 ≤ 2 ^ m := Nat.one_le_two_pow
  have := Nat.le_mul_of_pos_right s (show 0 < 2 ^ m by omega)
  omega
 have w0 : IntKind.i64.wrap ((s : Int) / 4) = ((s / 4 : Nat) : Int) := by rw [w64 (by omega) (by omega)]; omega
 have w1 : IntKind.i64.wrap (((s / 4 : Nat) : Int) * 3) = ((s / 4 * 3 : Nat) : Int) := by rw [w64 (by omega) (by omega)]; omega
 have w3 : IntKind.i64.wrap ((s : Int) * 2) = ((s * 2 : Nat) : Int) := by rw [w64 (by omega) (by omega)]; omega
 generalize hq : s / 4 = q at *
 simp (maxSteps := 3000000) [go_sem,-List.length_flatten,-List.map_drop,-List.map_take, w0, w1, w3]
 refine ⟨fun h => ?_, fun h => ?_⟩
 ·have h' : s * 3 < n * 4 := by omega
  cases m with
  | zero => simp at h2; omega
  | succ m =>
   refine Kl_next m 0 (Nat.le_refl _) ⟨s * 2, ?_, ?_, by omega, by omega, by omega, rfl, rfl⟩ (by simp [Tm.get, w3]) (by simp) rfl (by simp) (by omega)
   ·rw [← h1, sizeFrom, if_pos h']
   ·rw [Nat.pow_succ] at h2
    rw [Nat.mul_assoc, Nat.mul_comm 2, h2]
 ·have h' : ¬ s * 3 < n * 4 := by omega
  rw [← h1, sizeFrom_done h']
theorem c110_ok : cFn Tryz.prog an0 Tryz.f110 = some c110 := by kernel_rfl
theorem cequal_PF (a b : List Int) : PF Tryz.prog 110 [ints a, ints b] (.bool (decide (a = b))) := by
 refine PFk 9 hm Tryz.func110 c110_ok (Nat.le_of_ble_eq_true rfl) (by simp) (by simp) ?_
 simp (maxSteps := 3000000) [go_sem,-List.length_flatten,-List.map_drop,-List.map_take, c110]
 intro ha hb
 refine ⟨fun h => ?_, fun h => ?_⟩
 ·intro e
  subst e
  simp at h
 ·intro _
  refine run_count a.length 13 [(12, i64 a.length), (0, ints a), (1, ints b)] [] (fun i => ∀ j : Nat, j < i → gi a j = gi b j)
   (Wk.tell 0 (Nat.le_refl _) (by simp [Tm.get]) (by simp) rfl (by simp)) (fun j hj => by omega) ?_
  intro i hi hj
  have next : i < a.length → gi a i = gi b i → ∀ j : Nat, j < i + 1 → gi a j = gi b j := fun h hb j hl => by
   rcases Nat.lt_or_ge j i with h3 | h3
   ·exact hj j h3
   ·have : j = i := by omega
    subst this
    exact hb
  simp (maxSteps := 3000000) [go_sem,-List.length_flatten,-List.map_drop,-List.map_take]
  refine ⟨fun h1 => ⟨h1, by omega, fun h2 e => ?_, fun h2 => ?_⟩, fun h1 => eq_gi (by omega) (fun j hl => hj j (by omega))⟩
  ·subst e
   simp at h2
  ·exact Kn_next 0 (by omega) (by omega) (next h1 h2) (by simp [Tm.get, nxt h1 ha]) (by simp) rfl (by simp)
end Go.AM

namespace Go.AM
open Go.Proofs
set_option maxRecDepth 100000
set_option linter.unusedVariables false
set_option linter.unusedSimpArgs false
attribute [local go_sem] Function.comp_def argsT Opd.ev Tm.get put ares mapMo ares1 snilP bldParts bslParts putAt AV.cells AV.one astore aload loadCs callArgs abin abinInt aapp elems appMore appNone preLen aFa aFld apart aExt aPick aNot aLens aEqa cellsK fitsA LK.fitsA leavesA leafA nilD aNilc aCint aCid alive alen alenOk Rle lePs len_flat
def c109 : AFn := ⟨6,.seq (.reg false [⟨some 2,.box (.tmp 0),none⟩,⟨some 3,.box (.tmp 1),none⟩,⟨some 4,.mov (.lit .nilFunc),none⟩]) (.seq (.reg false [⟨some 5,.mkfn (.func 117) [] [.tmp 2,.tmp 3],none⟩,⟨some 4,.mov (.tmp 5),none⟩]) .ret),[.tmp 4]⟩

theorem c109_ok : cFn Tryz.prog an0 Tryz.f109 = some c109 := by kernel_rfl
theorem round_PF (k : List Int) (n : Int) : PF Tryz.prog 109 [ints k, i64 n] (.fn (.func 117) [] [.rptr [ints k], .rptr [i64 n]]) := by
 refine PFk 9 hm Tryz.func109 c109_ok (Nat.le_of_ble_eq_true rfl) (by simp) (by simp) ?_
 simp (maxSteps := 3000000) [go_sem,-List.length_flatten,-List.map_drop,-List.map_take, c109]
theorem nextAt_mod {N s r : Nat} (hN : 0 < N) : nextAt N ((s + r) % N) = (s + (r + 1)) % N := by
 have h := Nat.mod_lt (s + r) hN
 have e : (s + (r + 1)) % N = ((s + r) % N + 1) % N := by rw [← Nat.add_assoc, Nat.add_mod (s + r) 1]; simp
 rw [e]
 unfold nextAt
 split
 ·rename_i h1; rw [h1, Nat.mod_self]
 ·rename_i h1
  have h2 : ((s + r) % N + 1) % N = (s + r) % N + 1 := Nat.mod_eq_of_lt (by omega)
  rw [h2]
theorem probe_at {o : List Int} {z s : Nat} (hz : z < o.length) (h0 : gi o z = 0) (hs : s < o.length) : ∀ r, (∀ r' : Nat, r' < r → gi o (((s + r') % o.length : Nat) : Int) ≠ 0) → probe o o.length s = probe o o.length ((s + r) % o.length)
 | 0, _ => by rw [Nat.add_zero, Nat.mod_eq_of_lt hs]
 | r + 1, h => by
  rw [probe_at hz h0 hs r (fun r' hr => h r' (by omega)), ← nextAt_mod (by omega)]
  exact probe_step hz h0 (Nat.mod_lt _ (by omega)) (h r (by omega))
theorem some_round {N z s : Nat} (hz : z < N) (hs : s < N) : ∃ r, r < N ∧ (s + r) % N = z := by
 refine ⟨dist N z s, dist_lt hz hs, ?_⟩
 unfold dist
 split
 ·rw [show s + (z - s) = z by omega, Nat.mod_eq_of_lt hz]
 ·rw [show s + (z + N - s) = z + N by omega, Nat.add_mod_right, Nat.mod_eq_of_lt hz]
theorem slot_of (k : List Int) (N r : Nat) (hN : 0 < N) : (hashOf k % (N : Int) + r) % N = (((start N k + r) % N : Nat) : Int) := by
 have h := (hash_range k).1
 unfold start
 have e : hashOf k = ((hashOf k).toNat : Int) := by omega
 rw [e]
 simp
theorem c99_ok : cFn Tryz.prog an0 Tryz.f99 = some c99 := by kernel_rfl
theorem place_FT (o k : List Int) (n : Nat) (hn : n ≤ 1048576) (c : Bool) (j g : Nat) (H : AHeap) (hH : H[j]? = some (.cells g (i64s o))) (hR : ∀ b ∈ H, RLB H.length b) {z : Nat} (hz : z < o.length) (h0 : gi o z = 0) (ho : o.length ≤ 2097152) :
  FT Tryz.prog 99 [.loc j g 0 o.length 1 c, ints k, i64 n] H (fun rv H' => rv = .tuple [] ∧ H' = H.set j (.cells g (i64s (o.set (probe o o.length (start o.length k)) ((n : Int) + 1)))) ++ [.cells 0 [.loc j g 0 o.length 1 c], .cells 0 [i64 n]]) := by
 refine FTk hm Tryz.func99 c99_ok (Nat.le_of_ble_eq_true rfl) ?_
 have hj := lt_of_get hH
 have hH2 : (H ++ [.cells 0 [.loc j g 0 o.length 1 c], .cells 0 [i64 n]])[j]? = some (.cells g (i64s o)) := by rw [List.getElem?_append_left hj]; exact hH
 have hs : start o.length k < o.length := Nat.mod_lt _ (by omega)
 have hpos : 0 < o.length := by omega
 generalize hQ : (fun (rv : AV) (H' : AHeap) => rv = AV.tuple [] ∧ H' = H.set j (.cells g (i64s (o.set (probe o o.length (start o.length k)) ((n : Int) + 1)))) ++ [.cells 0 [.loc j g 0 o.length 1 c], .cells 0 [i64 n]]) = Q
 simp (maxSteps := 3000000) [go_sem,-List.length_flatten,-List.map_drop,-List.map_take, c99, hH2]
 intro _
 refine PF.call (round_PF k o.length) 9 (by simp [lePs]) ?_
 simp (maxSteps := 3000000) [go_sem,-List.length_flatten,-List.map_drop,-List.map_take, Kc, hH2]
 refine run_range 117 [.rptr [ints k], .rptr [i64 o.length]] o.length (fun r => [i64 ((hashOf k % (o.length : Int) + r) % o.length)]) (fun r H' => H' = H ++ [.cells 0 [.loc j g 0 o.length 1 c], .cells 0 [i64 n]] ∧ ∀ r' : Nat, r' < r → gi o (((start o.length k + r') % o.length : Nat) : Int) ≠ 0) (H.length + 2) (by omega) (by simp [hj]; omega) (by simp) rfl
  (round_seq (chash_PF k) (hash_range k).1 (hash_range k).2 o.length hpos (by omega) _) (fun r hr => ⟨rfl, rfl⟩) ⟨rfl, fun r' h => by omega⟩ ?_ ?_
 ·rintro r H' hr ⟨rfl, hne⟩
  rw [slot_of k _ r hpos]
  generalize hp : (start o.length k + r) % o.length = p
  have hpl : p < o.length := by rw [← hp]; exact Nat.mod_lt _ hpos
  have hop : o[p]? = some (gi o (p : Int)) := by simp [gi, List.getD, hpl]
  have h1p : 1 ≤ o.length - p := by omega
  have hset : (H ++ [ABlk.cells 0 [.loc j g 0 o.length 1 c], ABlk.cells 0 [i64 n]]).set j (.cells g ((i64s o).set p (.int .i64 ((n : Int) + 1)))) = H.set j (.cells g (i64s (o.set p ((n : Int) + 1)))) ++ [.cells 0 [.loc j g 0 o.length 1 c], .cells 0 [i64 n]] := by rw [List.set_append_left _ _ hj]; simp [i64s, List.map_set]
  have hog : o[p]'hpl = gi o (p : Int) := by simp [gi, List.getD, hpl]
  have hwn : IntKind.i64.wrap ((n : Int) + 1) = (n : Int) + 1 := w64 (by omega) (by omega)
  by_cases h : gi o (p : Int) = 0
  ·have h' : o[p]'hpl = 0 := by rw [hog]; exact h
   simp (maxSteps := 3000000) [go_sem,-List.length_flatten,-List.map_drop,-List.map_take, hH2, putps, hop, h', hpl, h1p, hwn]
   refine ⟨by omega, ?_⟩
   rw [hset, ← hQ]
   rw [probe_at hz h0 hs r hne, hp, probe_stop h]
   exact ⟨rfl, rfl⟩
  ·have h' : ¬ o[p]'hpl = 0 := by rw [hog]; exact h
   simp (maxSteps := 3000000) [go_sem,-List.length_flatten,-List.map_drop,-List.map_take, hH2, putps, hop, h', hpl, h1p]
   refine Kr_next (And.intro rfl fun r' hr' => ?_)
   rcases Nat.lt_or_ge r' r with h3 | h3
   ·exact hne r' h3
   ·have : r' = r := by omega
    subst this
    have e : ((start o.length k : Int) + (r' : Int)) % (o.length : Int) = (p : Int) := by rw [← hp]; simp
    rw [e]
    exact h
 ·rintro H' ⟨rfl, hne⟩
  obtain ⟨r, hr, e⟩ := some_round hz hs
  exact absurd (by rw [e]; exact h0) (hne r hr)
end Go.AM

namespace Go.AM
open Go.Proofs
set_option maxRecDepth 100000
set_option linter.unusedVariables false
set_option linter.unusedSimpArgs false
attribute [local go_sem] Function.comp_def argsT Opd.ev Tm.get put ares mapMo ares1 snilP bldParts bslParts putAt AV.cells AV.one astore aload loadCs callArgs abin abinInt aapp elems appMore appNone preLen aFa aFld apart aExt aPick aNot aLens aEqa cellsK fitsA LK.fitsA leavesA leafA nilD aNilc aCint aCid alive alen alenOk Rle lePs len_flat
/-- The search for a key, from a round on. -/
def findR (sl : List Int) (ks : List (List Int)) (key : List Int) (s : Nat) : Nat → Nat → Int
 | 0, _ => -1
 | f + 1, r => if gi sl (((s + r) % sl.length : Nat) : Int) - 1 < 0 ∨ gi ks (gi sl (((s + r) % sl.length : Nat) : Int) - 1) = key then gi sl (((s + r) % sl.length : Nat) : Int) - 1 else findR sl ks key s f (r + 1)
theorem c95_ok : cFn Tryz.prog an0 Tryz.f95 = some c95 := by kernel_rfl
theorem cfind_PF (a : Kd) (key : List Int) (hN : a.slots.length ≤ 1099511627776) (hk : a.keys.length ≤ 1048576) (hv : ∀ j : Nat, j < a.slots.length → 0 ≤ gi a.slots j ∧ gi a.slots j ≤ a.keys.length) :
  PF Tryz.prog 95 [.agg a.cs, ints key] (i64 (findR a.slots a.keys key (start a.slots.length key) a.slots.length 0)) := by
 refine PFk 9 hm Tryz.func95 c95_ok (Nat.le_of_ble_eq_true rfl) (by simp) (by simp) ?_
 generalize hQ : Rle 9 (i64 (findR a.slots a.keys key (start a.slots.length key) a.slots.length 0)) = Q
 simp (maxSteps := 3000000) [go_sem,-List.length_flatten,-List.map_drop,-List.map_take, c95]
 intro ha
 refine ⟨fun e => ?_, fun hne _ => ?_⟩
 ·rw [← hQ, e]
  simp [findR, Rle, frz, leP]
 have hpos : 0 < a.slots.length := List.length_pos_iff.2 hne
 refine PF.call (round_PF key a.slots.length) 9 (by simp [lePs]) ?_
 simp (maxSteps := 3000000) [go_sem,-List.length_flatten,-List.map_drop,-List.map_take, Kc]
 generalize hB : [ABlk.cells 0 a.cs, ABlk.cells 0 [ints key], ABlk.cells 0 [AV.int .i64 0]] = H0
 refine run_range 117 [.rptr [ints key], .rptr [i64 a.slots.length]] a.slots.length (fun r => [i64 ((hashOf key % (a.slots.length : Int) + r) % a.slots.length)])
  (fun r H' => H' = H0 ∧ findR a.slots a.keys key (start a.slots.length key) a.slots.length 0 = findR a.slots a.keys key (start a.slots.length key) (a.slots.length - r) r) 3 (by omega) (by simp) (by simp) rfl
  (round_seq (chash_PF key) (hash_range key).1 (hash_range key).2 a.slots.length hpos (by omega) _) (fun r hr => ⟨rfl, rfl⟩) ⟨rfl, rfl⟩ ?_ ?_
 ·rintro r H' hr ⟨rfl, hf⟩
  rw [slot_of key _ r hpos]
  rw [show a.slots.length - r = (a.slots.length - (r + 1)) + 1 by omega, findR] at hf
  generalize hp : (start a.slots.length key + r) % a.slots.length = p at *
  have hpl : p < a.slots.length := by rw [← hp]; exact Nat.mod_lt _ hpos
  obtain ⟨v1, v2⟩ := hv p hpl
  generalize hvv : gi a.slots (p : Int) = v at *
  have hwv : IntKind.i64.wrap (gi a.slots (p : Int) - 1) = v - 1 := by rw [hvv]; exact w64 (by omega) (by omega)
  subst hB
  by_cases h0 : v - 1 < 0
  ·rw [if_pos (.inl h0)] at hf
   simp (maxSteps := 3000000) [go_sem,-List.length_flatten,-List.map_drop,-List.map_take, putps, hwv, h0, hpl]
   rw [← hQ, hf]
   simp [Rle, frz, leP]
  ·have h0' : 0 ≤ v - 1 := by omega
   simp (maxSteps := 3000000) [go_sem,-List.length_flatten,-List.map_drop,-List.map_take, putps, hwv, h0, h0', hpl]
   refine ⟨by omega, _, cequal_PF (gi a.keys (v - 1)) key, ?_⟩
   by_cases he : gi a.keys (v - 1) = key
   ·rw [if_pos (.inr he)] at hf
    simp (maxSteps := 3000000) [go_sem,-List.length_flatten,-List.map_drop,-List.map_take, Kc, he]
    rw [← hQ, hf]
    simp [Rle, frz, leP]
   ·rw [if_neg (fun h => h.elim h0 he)] at hf
    simp (maxSteps := 3000000) [go_sem,-List.length_flatten,-List.map_drop,-List.map_take, Kc, he]
    exact Kr_next (And.intro rfl hf)
 ·rintro H' ⟨rfl, hf⟩
  rw [Nat.sub_self, findR] at hf
  subst hB
  simp (maxSteps := 3000000) [go_sem,-List.length_flatten,-List.map_drop,-List.map_take]
  rw [← hQ, hf]
  simp [Rle, frz, leP]
end Go.AM

namespace Go.AM
open Go.Proofs
set_option maxRecDepth 100000
set_option linter.unusedVariables false
set_option linter.unusedSimpArgs false
attribute [local go_sem] Function.comp_def argsT Opd.ev Tm.get put ares mapMo ares1 snilP bldParts bslParts putAt AV.cells AV.one astore aload loadCs callArgs abin abinInt aapp elems appMore appNone preLen aFa aFld apart aExt aPick aNot aLens aEqa cellsK fitsA LK.fitsA leavesA leafA nilD aNilc aCint aCid alive alen alenOk Rle lePs len_flat
theorem c98_ok : cFn Tryz.prog an0 Tryz.f98 = some c98 := by kernel_rfl
theorem clay_PF (ks : List (List Int)) (hk : ks.length ≤ 1048576) : PF Tryz.prog 98 [intss ks] (ints (lay ks)) := by
 refine PFk 9 hm Tryz.func98 c98_ok (Nat.le_of_ble_eq_true rfl) (by simp) (by simp) ?_
 obtain ⟨z1, z2, z3⟩ := size_ok hk
 generalize hQ : Rle 9 (ints (lay ks)) = Q
 simp (maxSteps := 3000000) [go_sem,-List.length_flatten,-List.map_drop,-List.map_take, c98]
 intro ha
 refine PF.call (csize_PF ks.length hk) 9 (by simp [lePs]) ?_
 generalize hN : sizeFrom ks.length 18 8 = N at *
 simp (maxSteps := 3000000) [go_sem,-List.length_flatten,-List.map_drop,-List.map_take, Kc, aMksl]
 refine ⟨⟨by unfold limB; omega, by unfold maxA; omega⟩, ?_⟩
 intro _
 refine run_loopK (fun m T H => ∃ i : Nat, m = ks.length - i ∧ i ≤ ks.length ∧ T = [(12, i64 i), (11, i64 ks.length), (10, intss ks), (3, .loc 0 0 0 N 1 false), (0, intss ks)] ∧ H = [.cells 0 (i64s (layN ks i))]) ks.length [(12, i64 0), (11, i64 ks.length), (10, intss ks), (3, .loc 0 0 0 N 1 false), (0, intss ks)] [.cells 0 (i64s (layN ks 0))]
  (Wk.tell 1 (by omega) (by simp [Tm.get]) (by simp) (by simp [layN, hN]) (by simp [RLB])) ⟨0, by simp, by simp, by simp, rfl⟩ ?_
 rintro m T H ⟨i, rfl, hi, rfl, rfl⟩ KK kx kr kn
 have hl := layN_len ks i
 rw [hN] at hl
 by_cases h : i < ks.length
 ·obtain ⟨z, hz, h0⟩ := free (o := layN ks i) (by have := layN_count hk i hi; omega)
  simp (maxSteps := 3000000) [go_sem,-List.length_flatten,-List.map_drop,-List.map_take, h]
  have hpl := place_FT (layN ks i) (gi ks i) i (by omega) false 0 0 [.cells 0 (i64s (layN ks i))] rfl (by simp [RLB]) hz h0 (by omega)
  rw [hl] at hpl
  refine FT.mono hpl ?_
  rintro rv H' ⟨rfl, rfl⟩
  simp (maxSteps := 3000000) [go_sem,-List.length_flatten,-List.map_drop,-List.map_take, Kc]
  refine kn _ _ (Kl_next (ks.length - (i + 1)) 1 (by omega) ⟨i + 1, rfl, h, rfl, rfl⟩ (by simp [Tm.get, nxt h ha]) (by simp) ?_ (by simp [RLB]) (by omega))
  simp [layN, hl]
 ·have e : i = ks.length := by omega
  subst e
  simp (maxSteps := 3000000) [go_sem,-List.length_flatten,-List.map_drop,-List.map_take, h, kx]
  rw [← hQ]
  have hlay : lay ks = layN ks ks.length := rfl
  rw [hlay]
  generalize layN ks ks.length = o at *
  simp (maxSteps := 3000000) [go_sem,-List.length_flatten,-List.map_drop,-List.map_take]
  rw [if_pos (by omega), ← hl, chunk_one]
  simp [Function.comp_def]
end Go.AM

namespace Go.AM
open Go.Proofs
set_option maxRecDepth 100000
set_option linter.unusedVariables false
set_option linter.unusedSimpArgs false
attribute [local go_sem] Function.comp_def argsT Opd.ev Tm.get put ares mapMo ares1 snilP bldParts bslParts putAt AV.cells AV.one astore aload loadCs callArgs abin abinInt aapp elems appMore appNone preLen aFa aFld apart aExt aPick aNot aLens aEqa cellsK fitsA LK.fitsA leavesA leafA nilD aNilc aCint aCid alive alen alenOk Rle lePs len_flat
/-! ### The table finds what it holds -/
theorem giSet {o : List Int} {p q : Nat} {v : Int} (hp : p < o.length) : gi (o.set p v) (q : Int) = if p = q then v else gi o (q : Int) := by
 simp only [gi, List.getD, Int.toNat_natCast, Int.natCast_nonneg, if_true]
 rw [List.getElem?_set]
 split
 ·rename_i h; subst h; simp [hp]
 ·rfl
theorem least_of {P : Nat → Prop} : ∀ n, P n → ∃ r, r ≤ n ∧ P r ∧ ∀ m, m < r → ¬ P m := by
 intro n
 induction n using Nat.strongRecOn with
 | _ n ih =>
  intro h
  by_cases hq : ∃ m, m < n ∧ P m
  ·obtain ⟨m, hm, hp⟩ := hq
   obtain ⟨r, h1, h2, h3⟩ := ih m hm hp
   exact ⟨r, by omega, h2, h3⟩
  ·exact ⟨n, Nat.le_refl _, h, fun m hm hp => hq ⟨m, hm, hp⟩⟩
theorem mod_lt' {a N : Nat} (h : 0 < N) : a % N < N := Nat.mod_lt _ h
theorem layN_range {ks : List (List Int)} (hk : ks.length ≤ 1048576) : ∀ i, i ≤ ks.length → ∀ p : Nat, p < sizeFrom ks.length 18 8 → 0 ≤ gi (layN ks i) p ∧ gi (layN ks i) p ≤ i
 | 0, _, p, hp => by
  have : gi (layN ks 0) (p : Int) = 0 := by simp [layN, gi, List.getD, hp]
  omega
 | i + 1, hi, p, hp => by
  have ih := layN_range hk i (by omega) p hp
  obtain ⟨z1, z2, z3⟩ := size_ok hk
  have hl := layN_len ks i
  obtain ⟨z, hz, h0⟩ := free (o := layN ks i) (by have := layN_count hk i (by omega); omega)
  obtain ⟨q1, _⟩ := probe_zero (p := 0) hz h0 (layN ks i).length (start (layN ks i).length (gi ks i)) (mod_lt' (by omega)) (Nat.le_of_lt (dist_lt hz (mod_lt' (by omega))))
  rw [layN, giSet q1]
  split <;> omega
/-- The way to a key that is there. -/
theorem layN_way {ks : List (List Int)} (hk : ks.length ≤ 1048576) : ∀ i, i ≤ ks.length → ∀ m : Nat, m < i → ∃ r, r < sizeFrom ks.length 18 8 ∧
  gi (layN ks i) (((start (sizeFrom ks.length 18 8) (gi ks m) + r) % sizeFrom ks.length 18 8 : Nat) : Int) = (m : Int) + 1 ∧
  ∀ r' : Nat, r' < r → gi (layN ks i) (((start (sizeFrom ks.length 18 8) (gi ks m) + r') % sizeFrom ks.length 18 8 : Nat) : Int) ≠ 0
 | 0, _, m, hm => by omega
 | i + 1, hi, m, hm => by
  obtain ⟨z1, z2, z3⟩ := size_ok hk
  have hl := layN_len ks i
  have hw := layN_way hk i (by omega) m
  generalize hN : sizeFrom ks.length 18 8 = N at *
  have hcnt := layN_count hk i (by omega)
  have e1 : layN ks (i + 1) = (layN ks i).set (probe (layN ks i) N (start N (gi ks i))) ((i : Int) + 1) := by rw [layN, hl]
  rw [e1]
  generalize layN ks i = o at *
  obtain ⟨z, hz, h0⟩ := free (o := o) (by omega)
  have hs : start N (gi ks i) < N := mod_lt' (by omega)
  obtain ⟨q1, q2⟩ := probe_zero (p := 0) hz h0 N (start N (gi ks i)) (by omega) (by rw [hl]; exact Nat.le_of_lt (dist_lt (by omega) hs))
  generalize hp : probe o N (start N (gi ks i)) = p at *
  by_cases hmi : m = i
  ·subst hmi
   -- the first free slot on the way
   have hex : ∃ r, r < N ∧ gi o (((start N (gi ks m) + r) % N : Nat) : Int) = 0 ∧ ∀ r' : Nat, r' < r → gi o (((start N (gi ks m) + r') % N : Nat) : Int) ≠ 0 := by
    obtain ⟨r0, g1, g2⟩ := some_round (N := N) (z := z) (s := start N (gi ks m)) (by omega) hs
    obtain ⟨r, k1, k2, k3⟩ := least_of (P := fun r => gi o (((start N (gi ks m) + r) % N : Nat) : Int) = 0) r0 (by rw [g2]; exact h0)
    exact ⟨r, by omega, k2, k3⟩
   obtain ⟨r, g1, g2, g3⟩ := hex
   have hpe : (start N (gi ks m) + r) % N = p := by
    have := probe_at hz h0 (s := start N (gi ks m)) (by omega) r (by rw [hl]; exact g3)
    rw [hl, hp, probe_stop g2] at this
    exact this.symm
   refine ⟨r, g1, ?_, fun r' h' => ?_⟩
   ·rw [giSet q1, if_pos hpe.symm]
   ·rw [giSet q1]
    split
    ·omega
    ·exact g3 r' h'
  ·obtain ⟨r, g1, g2, g3⟩ := hw (by omega)
   refine ⟨r, g1, ?_, fun r' h' => ?_⟩
   ·rw [giSet q1, if_neg (fun e => by rw [e, g2] at q2; omega)]
    exact g2
   ·rw [giSet q1]
    split
    ·omega
    ·exact g3 r' h'
theorem findR_none {sl : List Int} {ks : List (List Int)} {key : List Int} {s : Nat} (hN : 0 < sl.length) (hv : ∀ j : Nat, j < sl.length → 0 ≤ gi sl j ∧ gi sl j ≤ ks.length) (hne : ∀ w : Nat, w < ks.length → gi ks w ≠ key) : ∀ f r, findR sl ks key s f r = -1
 | 0, r => rfl
 | f + 1, r => by
  rw [findR]
  obtain ⟨v1, v2⟩ := hv ((s + r) % sl.length) (mod_lt' hN)
  split
  ·rename_i h
   rcases h with h | h
   ·omega
   ·rcases Int.lt_or_le (gi sl (((s + r) % sl.length : Nat) : Int) - 1) 0 with h3 | h3
    ·omega
    ·exfalso
     have := hne (gi sl (((s + r) % sl.length : Nat) : Int) - 1).toNat (by omega)
     rw [Int.toNat_of_nonneg h3] at this
     exact this h
  ·exact findR_none hN hv hne f (r + 1)
theorem findR_some {sl : List Int} {ks : List (List Int)} {key : List Int} {s m R : Nat} (hN : 0 < sl.length) (hv : ∀ j : Nat, j < sl.length → 0 ≤ gi sl j ∧ gi sl j ≤ ks.length) (hm : gi ks m = key) (hne : ∀ w : Nat, w < ks.length → w ≠ m → gi ks w ≠ key)
  (hR : gi sl (((s + R) % sl.length : Nat) : Int) = (m : Int) + 1) (hpre : ∀ r' : Nat, r' < R → gi sl (((s + r') % sl.length : Nat) : Int) ≠ 0) : ∀ f r, r ≤ R → R < r + f → findR sl ks key s f r = m
 | 0, r, h1, h2 => by omega
 | f + 1, r, h1, h2 => by
  rw [findR]
  obtain ⟨v1, v2⟩ := hv ((s + r) % sl.length) (mod_lt' hN)
  rcases Nat.lt_or_ge r R with h3 | h3
  ·have h4 := hpre r h3
   split
   ·rename_i h
    rcases h with h | h
    ·omega
    ·rcases Nat.decEq (gi sl (((s + r) % sl.length : Nat) : Int) - 1).toNat m with h5 | h5
     ·exfalso
      have := hne (gi sl (((s + r) % sl.length : Nat) : Int) - 1).toNat (by omega) h5
      rw [Int.toNat_of_nonneg (by omega)] at this
      exact this h
     ·omega
   ·exact findR_some hN hv hm hne hR hpre f (r + 1) (by omega) (by omega)
  ·have : r = R := by omega
   subst this
   rw [if_pos (.inr (by rw [hR]; simpa using hm)), hR]
   omega
end Go.AM

namespace Go.AM
open Go.Proofs
set_option maxRecDepth 100000
set_option linter.unusedVariables false
set_option linter.unusedSimpArgs false
attribute [local go_sem] Function.comp_def argsT Opd.ev Tm.get put ares mapMo ares1 snilP bldParts bslParts putAt AV.cells AV.one astore aload loadCs callArgs abin abinInt aapp elems appMore appNone preLen aFa aFld apart aExt aPick aNot aLens aEqa cellsK fitsA LK.fitsA leavesA leafA nilD aNilc aCint aCid alive alen alenOk Rle lePs len_flat
theorem right_parts {a : Kd} (h : hashRight a = true) : (∀ i : Nat, i < a.keys.length → fstAt (fun x => decide (x = gi a.keys i)) a.keys = i) ∧ a.slots = lay a.keys := by
 unfold hashRight at h
 simp only [Bool.and_eq_true, decide_eq_true_eq] at h
 exact h
theorem right_inj {a : Kd} (h : hashRight a = true) {m w : Nat} (hm : m < a.keys.length) (hw : w < a.keys.length) (e : gi a.keys w = gi a.keys m) : w = m := by
 have h1 := (right_parts h).1 m hm
 have h2 := (right_parts h).1 w hw
 rw [e] at h2
 omega
theorem cfindR_PF {a : Kd} (hr : hashRight a = true) (hk : a.keys.length ≤ 1048576) (key : List Int) : PF Tryz.prog 95 [.agg a.cs, ints key] (i64 (fstAt (fun x => decide (x = key)) a.keys)) := by
 obtain ⟨h1, h2⟩ := right_parts hr
 obtain ⟨z1, z2, z3⟩ := size_ok hk
 have hl : a.slots.length = sizeFrom a.keys.length 18 8 := by rw [h2]; exact layN_len a.keys a.keys.length
 have hv : ∀ j : Nat, j < a.slots.length → 0 ≤ gi a.slots j ∧ gi a.slots j ≤ a.keys.length := fun j hj => by
  rw [h2]
  exact layN_range hk a.keys.length (Nat.le_refl _) j (by omega)
 have := cfind_PF a key (by omega) hk hv
 have e : findR a.slots a.keys key (start a.slots.length key) a.slots.length 0 = fstAt (fun x => decide (x = key)) a.keys := by
  by_cases hex : ∃ m : Nat, m < a.keys.length ∧ gi a.keys m = key
  ·obtain ⟨m, hm, rfl⟩ := hex
   obtain ⟨r, g1, g2, g3⟩ := layN_way hk a.keys.length (Nat.le_refl _) m hm
   rw [h1 m hm]
   refine findR_some (by omega) hv rfl (fun w hw hne e => hne (right_inj hr hm hw e)) (R := r) ?_ ?_ _ 0 (Nat.zero_le _) (by omega)
   ·rw [h2] at hl ⊢
    rw [hl]
    exact g2
   ·rw [h2] at hl ⊢
    rw [hl]
    exact g3
  ·rw [findR_none (by omega) hv (fun w hw e => hex ⟨w, hw, e⟩), fstAt_none (fun j hj => by simpa using fun e => hex ⟨j, hj, e⟩)]
 rw [e] at this
 exact this
end Go.AM

namespace Go.AM
open Go.Proofs
set_option maxRecDepth 100000
set_option linter.unusedVariables false
set_option linter.unusedSimpArgs false
attribute [local go_sem] Function.comp_def argsT Opd.ev Tm.get put ares mapMo ares1 snilP bldParts bslParts putAt AV.cells AV.one astore aload loadCs callArgs abin abinInt aapp elems appMore appNone preLen aFa aFld apart aExt aPick aNot aLens aEqa cellsK fitsA LK.fitsA leavesA leafA nilD aNilc aCint aCid alive alen alenOk Rle lePs len_flat
def c77b : AFn := ⟨50, .seq (.reg false [⟨some 2, .box (.tmp 0), none⟩, ⟨some 4, .alloc [.nilS, .nilS], none⟩, ⟨some 5, .mov (.lit (.int .i64 0)), none⟩, ⟨some 6, .mov (.lit (.bool false)), none⟩]) (.seq (.reg false [⟨some 8, .load 2 true (.tmp 2), none⟩, ⟨some 9, .mov (.tmp 1), none⟩, ⟨some 10, .call (.lit (.fn (.func 95) [] [])) [.tmp 8, .tmp 9], none⟩, ⟨some 7, .mov (.tmp 10), none⟩]) (.seq (.seq (.reg false [⟨some 11, .mov (.tmp 7), none⟩, ⟨some 12, .bin .geq (.tmp 11) (.lit (.int .i64 0)), none⟩]) (.cond (.tmp 12) (.seq (.reg false [⟨some 13, .load 2 true (.tmp 2), none⟩, ⟨some 14, .mov (.tmp 7), none⟩, ⟨none, .store 2 (.tmp 4) (.tmp 13), none⟩, ⟨some 5, .mov (.tmp 14), none⟩, ⟨some 6, .mov (.lit (.bool false)), none⟩]) .ret) .skip)) (.seq (.reg false [⟨some 15, .fa 0 (.tmp 2), none⟩, ⟨some 16, .load 1 false (.tmp 15), none⟩, ⟨some 17, .len (.tmp 16), none⟩, ⟨some 7, .mov (.tmp 17), none⟩]) (.seq (.reg false [⟨some 18, .fa 0 (.tmp 2), none⟩, ⟨some 19, .load 1 false (.tmp 18), none⟩, ⟨some 20, .call (.lit (.fn (.func 96) [] [])) [.tmp 19], none⟩, ⟨some 21, .mov (.tmp 1), none⟩, ⟨some 22, .call (.lit (.fn (.func 48) [] [])) [.tmp 21], none⟩, ⟨some 23, .bslice 1 1 [.nilS] [(0, .tmp 22)], none⟩, ⟨some 24, .app 1 24 (.tmp 20) (.tmp 23), none⟩, ⟨some 25, .fa 0 (.tmp 2), none⟩, ⟨none, .store 1 (.tmp 25) (.tmp 24), none⟩]) (.seq (.seq (.seq .mark (.reg true [⟨some 26, .mov (.tmp 7), none⟩, ⟨some 27, .bin .add (.tmp 26) (.lit (.int .i64 1)), none⟩, ⟨some 28, .call (.lit (.fn (.func 97) [] [])) [.tmp 27], none⟩, ⟨some 29, .fa 1 (.tmp 2), none⟩, ⟨some 30, .load 1 false (.tmp 29), none⟩, ⟨some 31, .len (.tmp 30), none⟩, ⟨some 32, .bin .neq (.tmp 28) (.tmp 31), none⟩])) (.cond (.tmp 32) (.seq (.reg false [⟨some 33, .fa 0 (.tmp 2), none⟩, ⟨some 34, .load 1 false (.tmp 33), none⟩, ⟨some 35, .call (.lit (.fn (.func 98) [] [])) [.tmp 34], none⟩, ⟨some 36, .fa 1 (.tmp 2), none⟩, ⟨none, .store 1 (.tmp 36) (.tmp 35), none⟩]) (.seq (.reg false [⟨some 37, .load 2 true (.tmp 2), none⟩, ⟨some 38, .mov (.tmp 7), none⟩, ⟨none, .store 2 (.tmp 4) (.tmp 37), none⟩, ⟨some 5, .mov (.tmp 38), none⟩, ⟨some 6, .mov (.lit (.bool true)), none⟩]) .ret)) .skip)) (.seq (.reg false [⟨some 39, .fa 1 (.tmp 2), none⟩, ⟨some 40, .load 1 false (.tmp 39), none⟩, ⟨some 41, .call (.lit (.fn (.func 48) [] [])) [.tmp 40], none⟩, ⟨some 42, .fa 1 (.tmp 2), none⟩, ⟨none, .store 1 (.tmp 42) (.tmp 41), none⟩]) (.seq (.reg false [⟨some 43, .fa 1 (.tmp 2), none⟩, ⟨some 44, .load 1 false (.tmp 43), none⟩, ⟨some 45, .mov (.tmp 1), none⟩, ⟨some 46, .mov (.tmp 7), none⟩, ⟨some 47, .call (.lit (.fn (.func 99) [] [])) [.tmp 44, .tmp 45, .tmp 46], none⟩]) (.seq (.reg false [⟨some 48, .load 2 true (.tmp 2), none⟩, ⟨some 49, .mov (.tmp 7), none⟩, ⟨none, .store 2 (.tmp 4) (.tmp 48), none⟩, ⟨some 5, .mov (.tmp 49), none⟩, ⟨some 6, .mov (.lit (.bool true)), none⟩]) .ret)))))))), [.cell 4 2 true, .tmp 5, .tmp 6]⟩

abbrev intssC (l : List (List Int)) : AV := .rows true 1 (l.map fun k => [ints k])
theorem c96_ok : cFn Tryz.prog an0 Tryz.f96 = some c96 := by kernel_rfl
theorem clip96_PF (l : List (List Int)) : PF Tryz.prog 96 [intss l] (intssC l) := by
 refine PFk 9 hm Tryz.func96 c96_ok (Nat.le_of_ble_eq_true rfl) (by simp) (by simp) ?_
 simp (maxSteps := 3000000) [go_sem,-List.length_flatten,-List.map_drop,-List.map_take, c96, aSlc]
 intro _
 have h : (0 : Int) ≤ l.length ∧ (l.length : Int) ≤ l.length := by omega
 have e : List.take l.length (List.map (fun k => [ints k]) l) = List.map (fun k => [ints k]) l := List.take_of_length_le (by simp)
 simp (maxSteps := 3000000) [go_sem,-List.length_flatten,-List.map_drop,-List.map_take, aint, h, e]
def an77 : An := ⟨[], [6]⟩
theorem c77_ok : cFn Tryz.prog an77 Tryz.f77 = some c77b := by kernel_rfl
theorem clone48F (l : List Int) (h0 : l ≠ []) (hA : l.length ≤ 100000000) (H : AHeap) : FT Tryz.prog 48 [ints l] H (fun rv H' => rv = .loc H.length 0 0 l.length 1 false ∧ H' = H ++ [.cells 0 (i64s l)]) := by
 have hm1 : l.length ≤ maxA := by unfold maxA; omega
 have hfl : ∀ l : List Int, (List.map (fun n => [AV.int IntKind.i64 n]) l).flatten = i64s l := by
  intro l
  induction l with
  | nil => rfl
  | cons x l ih => simp [ih]
 refine FTk hm Tryz.func48 c48_ok (Nat.le_of_ble_eq_true rfl) ?_
 simp (maxSteps := 3000000) [go_sem,-List.length_flatten,-List.map_drop,-List.map_take, c48, h0, hm1, hfl]
theorem giApp {α : Type} [Inhabited α] {l m : List α} {i : Nat} (h : i < l.length) : gi (l ++ m) (i : Int) = gi l (i : Int) := by
 simp [gi, List.getD, List.getElem?_append_left h]
theorem giEnd {α : Type} [Inhabited α] {l : List α} {x : α} : gi (l ++ [x]) ((l.length : Nat) : Int) = x := by
 simp [gi, List.getD]
theorem layN_app {ks : List (List Int)} {k : List Int} (hS : sizeFrom (ks.length + 1) 18 8 = sizeFrom ks.length 18 8) : ∀ i, i ≤ ks.length → layN (ks ++ [k]) i = layN ks i
 | 0, _ => by simp only [layN, List.length_append, List.length_cons, List.length_nil, Nat.zero_add, hS]
 | i + 1, h => by
  rw [layN, layN, layN_app hS i (by omega), giApp (by omega)]
theorem lay_app {ks : List (List Int)} {k : List Int} (hS : sizeFrom (ks.length + 1) 18 8 = sizeFrom ks.length 18 8) : lay (ks ++ [k]) = (lay ks).set (probe (lay ks) (lay ks).length (start (lay ks).length k)) ((ks.length : Int) + 1) := by
 unfold lay
 rw [show (ks ++ [k]).length = ks.length + 1 by simp, layN, layN_app hS _ (Nat.le_refl _), giEnd]
def putK (a : Kd) (key : List Int) : Kd × Int × Bool := if 0 ≤ fstAt (fun x => decide (x = key)) a.keys then (a, fstAt (fun x => decide (x = key)) a.keys, false) else (⟨a.keys ++ [key], lay (a.keys ++ [key])⟩, a.keys.length, true)
theorem put_PF {a : Kd} (hr : hashRight a = true) (hk : a.keys.length < 1048576) (key : List Int) : PF Tryz.prog 77 [.agg a.cs, ints key] (.tuple [.agg (putK a key).1.cs, i64 (putK a key).2.1, .bool (putK a key).2.2]) := by
 refine PFk 9 hm Tryz.func77 c77_ok (Nat.le_of_ble_eq_true rfl) (by simp) (by simp) ?_
 generalize hQ : Rle 9 (.tuple [.agg (putK a key).1.cs, i64 (putK a key).2.1, .bool (putK a key).2.2]) = Q
 simp (maxSteps := 3000000) [go_sem,-List.length_flatten,-List.map_drop,-List.map_take, c77b]
 refine PF.call (cfindR_PF hr (by omega) key) 9 (by simp [lePs]) ?_
 by_cases hf : 0 ≤ fstAt (fun x => decide (x = key)) a.keys
 ·simp (maxSteps := 3000000) [go_sem,-List.length_flatten,-List.map_drop,-List.map_take, Kc, hf]
  rw [← hQ]
  simp only [putK, if_pos hf]
  simp (maxSteps := 3000000) [go_sem,-List.length_flatten,-List.map_drop,-List.map_take]
 ·simp (maxSteps := 3000000) [go_sem,-List.length_flatten,-List.map_drop,-List.map_take, Kc, hf]
  intro ha
  refine PF.call (clip96_PF a.keys) 9 (by simp [lePs]) ?_
  simp (maxSteps := 3000000) [go_sem,-List.length_flatten,-List.map_drop,-List.map_take, Kc]
  refine PF.call (clone_PF key) 9 (by simp [lePs]) ?_
  have hw : IntKind.i64.wrap ((a.keys.length : Int) + 1) = ((a.keys.length + 1 : Nat) : Int) := by rw [w64 (by omega) (by omega)]; omega
  simp (maxSteps := 3000000) [go_sem,-List.length_flatten,-List.map_drop,-List.map_take, Kc, hw]
  intro _ _
  refine ⟨by unfold maxA; omega, ?_⟩
  have hch : chunk 1 ((List.map (fun k => [ints k]) a.keys).flatten ++ [ints key]) (a.keys.length + 1) = (a.keys ++ [key]).map fun k => [ints k] := by
   have e : (List.map (fun k => [ints k]) a.keys).flatten ++ [ints key] = ((a.keys ++ [key]).map fun k => [ints k]).flatten := by simp
   rw [e]
   have := chunk_flat (sz := 1) (f := fun k : List Int => [ints k]) (l := a.keys ++ [key]) (by simp)
   simpa using this
  have hsum : (List.map (List.length ∘ fun k : List Int => [ints k]) a.keys).sum = a.keys.length := by
   generalize a.keys = l
   induction l with
   | nil => rfl
   | cons x l ih => simp only [List.map_cons, List.sum_cons, ih, Function.comp_apply, List.length_cons, List.length_nil]; omega
  refine run_markT [(0, .agg a.cs), (1, ints key), (2, .ptr 0 0 0), (4, .ptr 1 0 0), (7, i64 a.keys.length)] [.cells 0 [intss (a.keys ++ [key]), ints a.slots], .cells 0 [.nilS, .nilS]]
   (((Wk.sub (T' := [(0, .agg a.cs), (1, ints key), (2, .ptr 0 0 0), (4, .ptr 1 0 0), (7, i64 a.keys.length)]) (by simp [Tm.get])).trans (Wk.fz 2 9 rfl)).trans (Wk.tell 2 (by omega) (by simp [Tm.get, fzT, fz]) (by simp) (by simp [fzB, fz, hch, hsum]) ⟨by simp [RLB]; rintro x (⟨k, _, rfl⟩ | rfl) y hy <;> (simp at hy; subst hy; simp), by simp [RLB], trivial⟩)) ?_
  have hcs := csize_PF (a.keys.length + 1) (by omega)
  have hlk := layN_len (a.keys ++ [key])
  have hl0 : a.slots.length = sizeFrom a.keys.length 18 8 := by rw [(right_parts hr).2]; exact layN_len a.keys a.keys.length
  rw [show (a.keys ++ [key]).length = a.keys.length + 1 by simp] at hlk
  generalize hS : sizeFrom (a.keys.length + 1) 18 8 = S at *
  generalize hks : a.keys ++ [key] = ks2 at *
  simp (maxSteps := 3000000) [go_sem,-List.length_flatten,-List.map_drop,-List.map_take, hw]
  refine ⟨_, hcs, ?_⟩
  by_cases he : S = a.slots.length
  ·simp (maxSteps := 3000000) [go_sem,-List.length_flatten,-List.map_drop,-List.map_take, Kc, he]
   intro _
   have hz8 := size_ok (n := a.keys.length) (by omega)
   have hs0 : a.slots ≠ [] := fun e => by rw [e] at hl0; simp at hl0; omega
   refine (clone48F a.slots hs0 (by omega) _).mono ?_
   rintro _ _ ⟨rfl, rfl⟩
   simp (maxSteps := 3000000) [go_sem,-List.length_flatten,-List.map_drop,-List.map_take, Kc]
   have hcnt := layN_count (ks := a.keys) (by omega) a.keys.length (Nat.le_refl _)
   have hlay : a.slots = layN a.keys a.keys.length := (right_parts hr).2
   obtain ⟨z, hz, h0⟩ := free (o := a.slots) (by rw [hlay] at hl0 ⊢; omega)
   refine FT.mono (place_FT a.slots key a.keys.length (by omega) false 2 0 _ rfl (by simp [RLB]) hz h0 (by omega)) ?_
   rintro _ _ ⟨rfl, rfl⟩
   simp (maxSteps := 3000000) [go_sem,-List.length_flatten,-List.map_drop,-List.map_take, Kc]
   have hla : lay (a.keys ++ [key]) = a.slots.set (probe a.slots a.slots.length (start a.slots.length key)) ((a.keys.length : Int) + 1) := by
    rw [(right_parts hr).2, ← lay_app (by rw [hS, he, hl0])]
   rw [hks] at hla
   have hlen2 : (a.slots.set (probe a.slots a.slots.length (start a.slots.length key)) ((a.keys.length : Int) + 1)).length = a.slots.length := by simp
   have hms : (List.map (fun n => AV.int IntKind.i64 n) a.slots).set (probe a.slots a.slots.length (start a.slots.length key)) (AV.int IntKind.i64 ((a.keys.length : Int) + 1)) = i64s (a.slots.set (probe a.slots a.slots.length (start a.slots.length key)) ((a.keys.length : Int) + 1)) := by simp [List.map_set]
   rw [hms, ← hQ]
   simp only [putK, if_neg hf, hks, hla]
   generalize a.slots.set (probe a.slots a.slots.length (start a.slots.length key)) ((a.keys.length : Int) + 1) = o at *
   simp (maxSteps := 3000000) [go_sem,-List.length_flatten,-List.map_drop,-List.map_take]
   rw [← hlen2, chunk_one]
   simp [Function.comp_def]
  ·have he' : ¬ (S : Int) = (a.slots.length : Int) := by omega
   simp (maxSteps := 3000000) [go_sem,-List.length_flatten,-List.map_drop,-List.map_take, Kc, he']
   intro _
   have hk2 : ks2.length ≤ 1048576 := by rw [← hks]; simp; omega
   refine PF.call (clay_PF ks2 hk2) 9 (by simp [lePs]) ?_
   simp (maxSteps := 3000000) [go_sem,-List.length_flatten,-List.map_drop,-List.map_take, Kc]
   rw [← hQ]
   simp only [putK, if_neg hf, hks]
   simp (maxSteps := 3000000) [go_sem,-List.length_flatten,-List.map_drop,-List.map_take]
end Go.AM

namespace Go.AM
open Go.Proofs
set_option maxRecDepth 100000
set_option linter.unusedVariables false
set_option linter.unusedSimpArgs false
attribute [local go_sem] Function.comp_def argsT Opd.ev Tm.get put ares mapMo ares1 snilP bldParts bslParts putAt AV.cells AV.one astore aload loadCs callArgs abin abinInt aapp elems appMore appNone preLen aFa aFld apart aExt aPick aNot aLens aEqa cellsK fitsA LK.fitsA leavesA leafA nilD aNilc aCint aCid alive alen alenOk Rle lePs len_flat
def keyT (t : Tm0) : List Int := [t.kind, t.sym, t.part] ++ t.args
theorem c78_ok : cFn Tryz.prog an0 Tryz.f78 = some c78 := by kernel_rfl
theorem key_PF (t : Tm0) (h : t.args.length ≤ 1048576) : PF Tryz.prog 78 [.agg t.cs] (ints (keyT t)) := by
 refine PFk 9 hm Tryz.func78 c78_ok (Nat.le_of_ble_eq_true rfl) (by simp) (by simp) ?_
 have hm2 : t.args.length + 3 ≤ maxA := by unfold maxA; omega
 simp (maxSteps := 3000000) [go_sem,-List.length_flatten,-List.map_drop,-List.map_take, c78, hm2]
 intro _ _
 split
 ·rename_i e
  simp [keyT, e]
 ·refine ⟨by unfold maxA at *; omega, ?_⟩
  have hfl : ∀ l : List Int, (List.map (fun n => [AV.int IntKind.i64 n]) l).flatten = i64s l := by
   intro l
   induction l with
   | nil => rfl
   | cons x l ih => simp [ih]
  have hk : (i64 t.kind :: i64 t.sym :: i64 t.part :: (List.map (fun n => [AV.int IntKind.i64 n]) t.args).flatten) = i64s (keyT t) := by rw [hfl]; simp [keyT]
  have hl : 3 + t.args.length = (keyT t).length := by simp [keyT]; omega
  rw [if_pos (by omega), hk, hl, chunk_one]
  simp [Function.comp_def]
end Go.AM
