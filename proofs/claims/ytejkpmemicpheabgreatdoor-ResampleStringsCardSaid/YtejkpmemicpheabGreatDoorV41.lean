/- Towards ResampleStrings of seat YtejkpmemicpheabGreatDoor: it returns true for every input. Made out of the proof's own texts, merged. -/
import Derived.Test.YtejkpmemicpheabGreatDoorProg
import Derived.KernelRfl
import Derived.Test.YtejkpmemicpheabGreatDoorB4
set_option linter.unusedSimpArgs false
set_option linter.unnecessarySimpa false
set_option linter.unusedVariables false
set_option linter.unusedSectionVars false
set_option maxRecDepth 100000
namespace Go.Lq
open Go
theorem mo : Go.Proofs.Tryz.prog.follows .mixedOrders = true := by kernel_rfl
def R4 : RFunc :=
  ⟨(.seq (.ops [⟨some 3,.box (.tmp 0),none⟩,⟨some 4,.box (.tmp 1),none⟩,⟨some 6,.mov (.const (.bool false)),none⟩]) (.seq (.seq (.ops [⟨some 21,.call (.func 14) [],none⟩,⟨some 22,.not (.tmp 21),none⟩]) (.cond (.tmp 22) (.seq (.ops [⟨some 6,.mov (.const (.bool false)),none⟩]) .ret) .skip)) (.seq (.seq (.ops [⟨some 23,.fieldAddr 5 (.tmp 3),none⟩,⟨some 24,.loadN 1 (.tmp 23),none⟩,⟨some 25,.call (.func 15) [.tmp 24],none⟩,⟨some 26,.not (.tmp 25),none⟩,⟨some 27,.mov (.tmp 26),none⟩,⟨some 28,.loadN 2 (.tmp 4),some (27,false)⟩,⟨some 29,.call (.func 16) [.tmp 28],some (27,false)⟩,⟨some 30,.not (.tmp 29),some (27,false)⟩,⟨some 31,.pick (.tmp 27) (.const (.bool true)) (.tmp 30),none⟩,⟨some 32,.mov (.tmp 31),none⟩,⟨some 33,.mov (.tmp 2),some (32,false)⟩,⟨some 34,.lenS (.tmp 33),some (32,false)⟩,⟨some 35,.cmp .gtr (.tmp 34) (.const (.int .i64 600)),some (32,false)⟩,⟨some 36,.pick (.tmp 32) (.const (.bool true)) (.tmp 35),none⟩]) (.cond (.tmp 36) (.seq (.ops [⟨some 6,.mov (.const (.bool true)),none⟩]) .ret) .skip)) (.seq (.draw [(⟨some 37,.loadN 6 (.tmp 3),none⟩,false),(⟨some 38,.call (.func 18) [.tmp 37],none⟩,false),(⟨some 39,.call (.func 17) [.tmp 38],none⟩,false),(⟨some 40,.loadN 2 (.tmp 4),none⟩,false),(⟨some 41,.call (.func 20) [.tmp 40],none⟩,false),(⟨some 42,.call (.func 19) [.tmp 41],none⟩,false),(⟨some 7,.mov (.tmp 39),none⟩,false),(⟨some 8,.mov (.tmp 42),none⟩,false)]) (.seq (.ops [⟨some 44,.mov (.tmp 2),none⟩,⟨some 45,.call (.func 21) [.tmp 44],none⟩,⟨some 43,.mov (.tmp 45),none⟩,⟨some 46,.extract (.tmp 43) 0,none⟩,⟨some 47,.extract (.tmp 43) 1,none⟩,⟨some 9,.new [.int .i64 0,.int .i64 0,.int .i64 0,.int .i64 0,.int .i64 0,.slice none 0 0],none⟩,⟨none,.store 6 (.tmp 9) (.tmp 46),none⟩,⟨some 10,.mov (.tmp 47),none⟩]) (.seq (.ops [⟨some 49,.mov (.tmp 2),none⟩,⟨some 50,.call (.func 22) [.tmp 49],none⟩,⟨some 48,.mov (.tmp 50),none⟩,⟨some 51,.extract (.tmp 48) 0,none⟩,⟨some 52,.extract (.tmp 48) 1,none⟩,⟨some 11,.new [.slice none 0 0,.int .i64 0],none⟩,⟨none,.store 2 (.tmp 11) (.tmp 51),none⟩,⟨some 12,.mov (.tmp 52),none⟩]) (.seq (.ops [⟨some 54,.mov (.tmp 2),none⟩,⟨some 55,.call (.func 23) [.tmp 54],none⟩,⟨some 53,.mov (.tmp 55),none⟩,⟨some 56,.extract (.tmp 53) 0,none⟩,⟨some 57,.extract (.tmp 53) 1,none⟩,⟨some 13,.new [.int .i64 0,.int .i64 0,.int .i64 0,.int .i64 0,.int .i64 0,.slice none 0 0],none⟩,⟨none,.store 6 (.tmp 13) (.tmp 56),none⟩,⟨some 14,.mov (.tmp 57),none⟩]) (.seq (.ops [⟨some 59,.mov (.tmp 2),none⟩,⟨some 60,.call (.func 24) [.tmp 59],none⟩,⟨some 58,.mov (.tmp 60),none⟩,⟨some 61,.extract (.tmp 58) 0,none⟩,⟨some 62,.extract (.tmp 58) 1,none⟩,⟨some 15,.new [.slice none 0 0,.int .i64 0],none⟩,⟨none,.store 2 (.tmp 15) (.tmp 61),none⟩,⟨some 16,.mov (.tmp 62),none⟩]) (.seq (.seq (.ops [⟨some 63,.mov (.tmp 7),none⟩,⟨some 64,.loadN 6 (.tmp 3),none⟩,⟨some 65,.call (.func 25) [.tmp 64],none⟩,⟨some 66,.strOp .neq (.tmp 63) (.tmp 65),none⟩,⟨some 67,.mov (.tmp 66),none⟩,⟨some 68,.mov (.tmp 8),some (67,false)⟩,⟨some 69,.loadN 2 (.tmp 4),some (67,false)⟩,⟨some 70,.call (.func 26) [.tmp 69],some (67,false)⟩,⟨some 71,.strOp .neq (.tmp 68) (.tmp 70),some (67,false)⟩,⟨some 72,.pick (.tmp 67) (.const (.bool true)) (.tmp 71),none⟩,⟨some 73,.mov (.tmp 72),none⟩,⟨some 74,.mov (.tmp 10),some (73,false)⟩,⟨some 75,.mov (.tmp 14),some (73,false)⟩,⟨some 76,.cmp .neq (.tmp 74) (.tmp 75),some (73,false)⟩,⟨some 77,.pick (.tmp 73) (.const (.bool true)) (.tmp 76),none⟩,⟨some 78,.mov (.tmp 77),none⟩,⟨some 79,.loadN 6 (.tmp 9),some (78,false)⟩,⟨some 80,.loadN 6 (.tmp 13),some (78,false)⟩,⟨some 81,.call (.func 27) [.tmp 79,.tmp 80],some (78,false)⟩,⟨some 82,.not (.tmp 81),some (78,false)⟩,⟨some 83,.pick (.tmp 78) (.const (.bool true)) (.tmp 82),none⟩,⟨some 84,.mov (.tmp 83),none⟩,⟨some 85,.mov (.tmp 12),some (84,false)⟩,⟨some 86,.mov (.tmp 16),some (84,false)⟩,⟨some 87,.cmp .neq (.tmp 85) (.tmp 86),some (84,false)⟩,⟨some 88,.pick (.tmp 84) (.const (.bool true)) (.tmp 87),none⟩,⟨some 89,.mov (.tmp 88),none⟩,⟨some 90,.loadN 2 (.tmp 11),some (89,false)⟩,⟨some 91,.loadN 2 (.tmp 15),some (89,false)⟩,⟨some 92,.call (.func 28) [.tmp 90,.tmp 91],some (89,false)⟩,⟨some 93,.not (.tmp 92),some (89,false)⟩,⟨some 94,.pick (.tmp 89) (.const (.bool true)) (.tmp 93),none⟩]) (.cond (.tmp 94) (.seq (.ops [⟨some 6,.mov (.const (.bool false)),none⟩]) .ret) .skip)) (.seq (.seq (.ops [⟨some 95,.loadN 6 (.tmp 3),none⟩,⟨some 96,.call (.func 29) [.tmp 95],none⟩,⟨some 97,.cmp .eql (.tmp 96) (.const (.int .i64 0)),none⟩]) (.cond (.tmp 97) (.seq (.ops [⟨some 99,.mov (.tmp 7),none⟩,⟨some 100,.call (.func 21) [.tmp 99],none⟩,⟨some 98,.mov (.tmp 100),none⟩,⟨some 101,.extract (.tmp 98) 0,none⟩,⟨some 102,.extract (.tmp 98) 1,none⟩,⟨some 17,.new [.int .i64 0,.int .i64 0,.int .i64 0,.int .i64 0,.int .i64 0,.slice none 0 0],none⟩,⟨none,.store 6 (.tmp 17) (.tmp 101),none⟩,⟨some 18,.mov (.tmp 102),none⟩]) (.seq (.ops [⟨some 103,.mov (.tmp 18),none⟩,⟨some 104,.cmp .neq (.tmp 103) (.const (.int .i64 0)),none⟩,⟨some 105,.mov (.tmp 104),none⟩,⟨some 106,.loadN 6 (.tmp 17),some (105,false)⟩,⟨some 107,.loadN 6 (.tmp 3),some (105,false)⟩,⟨some 108,.call (.func 27) [.tmp 106,.tmp 107],some (105,false)⟩,⟨some 109,.not (.tmp 108),some (105,false)⟩,⟨some 110,.pick (.tmp 105) (.const (.bool true)) (.tmp 109),none⟩]) (.cond (.tmp 110) (.seq (.ops [⟨some 6,.mov (.const (.bool false)),none⟩]) .ret) .skip))) .skip)) (.seq (.seq (.ops [⟨some 111,.loadN 2 (.tmp 4),none⟩,⟨some 112,.call (.func 30) [.tmp 111],none⟩,⟨some 113,.cmp .neq (.tmp 112) (.const (.int .i64 0)),none⟩]) (.cond (.tmp 113) (.seq (.ops [⟨some 6,.mov (.const (.bool true)),none⟩]) .ret) .skip)) (.seq (.ops [⟨some 115,.mov (.tmp 8),none⟩,⟨some 116,.call (.func 22) [.tmp 115],none⟩,⟨some 114,.mov (.tmp 116),none⟩,⟨some 117,.extract (.tmp 114) 0,none⟩,⟨some 118,.extract (.tmp 114) 1,none⟩,⟨some 19,.new [.slice none 0 0,.int .i64 0],none⟩,⟨none,.store 2 (.tmp 19) (.tmp 117),none⟩,⟨some 20,.mov (.tmp 118),none⟩]) (.seq (.ops [⟨some 119,.mov (.tmp 20),none⟩,⟨some 120,.cmp .eql (.tmp 119) (.const (.int .i64 0)),none⟩,⟨some 121,.mov (.tmp 120),none⟩,⟨some 122,.loadN 2 (.tmp 19),some (121,true)⟩,⟨some 123,.loadN 2 (.tmp 4),some (121,true)⟩,⟨some 124,.call (.func 28) [.tmp 122,.tmp 123],some (121,true)⟩,⟨some 125,.pick (.tmp 121) (.tmp 124) (.const (.bool false)),none⟩,⟨some 6,.mov (.tmp 125),none⟩]) .ret))))))))))))),126,[.tmp 6]⟩
theorem c4 : compileFn Go.Proofs.Tryz.prog Go.Proofs.Tryz.f4 = some R4 := by kernel_rfl
theorem n4 : R4.ntmps = 126 := rfl
theorem a4 {args : List Value} {H : AHeap} {Q : Value → AHeap → Prop} (h : AWP Go.Proofs.Tryz.prog none R4.code (Fin R4 Q) (args ++ List.replicate (R4.ntmps - args.length) undef) H) : ACall Go.Proofs.Tryz.prog 4 args H Q := acall_intro mo Go.Proofs.Tryz.func4 c4 h
def R8 : RFunc :=
  ⟨(.seq (.ops [⟨some 2,.mov (.const (.slice none 0 0)),none⟩]) (.seq (.ops [⟨some 3,.buildSlice 1 0 [] [],none⟩,⟨some 4,.mov (.tmp 0),none⟩,⟨some 5,.append 1 8 (.tmp 3) (.tmp 4),none⟩,⟨some 2,.mov (.tmp 5),none⟩]) .ret)),6,[.tmp 2]⟩
theorem c8 : compileFn Go.Proofs.Tryz.prog Go.Proofs.Tryz.f8 = some R8 := by kernel_rfl
theorem n8 : R8.ntmps = 6 := rfl
theorem a8 {args : List Value} {H : AHeap} {Q : Value → AHeap → Prop} (h : AWP Go.Proofs.Tryz.prog none R8.code (Fin R8 Q) (args ++ List.replicate (R8.ntmps - args.length) undef) H) : ACall Go.Proofs.Tryz.prog 8 args H Q := acall_intro mo Go.Proofs.Tryz.func8 c8 h
def R12 : RFunc :=
  ⟨(.seq (.ops [⟨some 4,.mov (.const (.bool false)),none⟩]) (.seq (.seq (.ops [⟨some 6,.mov (.tmp 0),none⟩,⟨some 7,.len (.tmp 6),none⟩,⟨some 8,.mov (.tmp 1),none⟩,⟨some 9,.len (.tmp 8),none⟩,⟨some 10,.cmp .neq (.tmp 7) (.tmp 9),none⟩]) (.cond (.tmp 10) (.seq (.ops [⟨some 4,.mov (.const (.bool false)),none⟩]) .ret) .skip)) (.seq (.seq (.ops [⟨some 5,.mov (.const (.int .i64 0)),none⟩]) (.block 0 (.loop (.seq (.seq (.ops [⟨some 11,.mov (.tmp 5),none⟩,⟨some 12,.mov (.tmp 0),none⟩,⟨some 13,.len (.tmp 12),none⟩,⟨some 14,.cmp .lss (.tmp 11) (.tmp 13),none⟩]) (.cond (.tmp 14) .skip (.exit 0))) (.seq (.block 1 (.seq (.draw [(⟨some 17,.mov (.tmp 0),none⟩,false),(⟨some 18,.mov (.tmp 5),none⟩,false),(⟨some 19,.idxAddr 1 (.tmp 17) (.tmp 18),none⟩,false),(⟨some 20,.load (.tmp 19),none⟩,false),(⟨some 21,.mov (.tmp 1),none⟩,false),(⟨some 22,.mov (.tmp 5),none⟩,false),(⟨some 23,.idxAddr 1 (.tmp 21) (.tmp 22),none⟩,false),(⟨some 24,.load (.tmp 23),none⟩,false),(⟨some 25,.cmp .neq (.tmp 20) (.tmp 24),none⟩,false)]) (.cond (.tmp 25) (.seq (.ops [⟨some 4,.mov (.const (.bool false)),none⟩]) .ret) .skip))) (.ops [⟨some 15,.mov (.tmp 5),none⟩,⟨some 16,.arith .add (.tmp 15) (.const (.int .i64 1)),none⟩,⟨some 5,.mov (.tmp 16),none⟩])))))) (.seq (.ops [⟨some 4,.mov (.const (.bool true)),none⟩]) .ret)))),26,[.tmp 4]⟩
theorem c12 : compileFn Go.Proofs.Tryz.prog Go.Proofs.Tryz.f12 = some R12 := by kernel_rfl
theorem n12 : R12.ntmps = 26 := rfl
theorem a12 {args : List Value} {H : AHeap} {Q : Value → AHeap → Prop} (h : AWP Go.Proofs.Tryz.prog none R12.code (Fin R12 Q) (args ++ List.replicate (R12.ntmps - args.length) undef) H) : ACall Go.Proofs.Tryz.prog 12 args H Q := acall_intro mo Go.Proofs.Tryz.func12 c12 h
def R14 : RFunc :=
  ⟨(.seq (.ops [⟨some 0,.mov (.const (.bool false)),none⟩]) (.seq (.ops [⟨some 11,.call (.func 49) [],none⟩,⟨some 12,.call (.func 48) [.const (.int .i64 3),.tmp 11,.const (.int .i64 96)],none⟩,⟨some 10,.mov (.tmp 12),none⟩,⟨some 13,.extract (.tmp 10) 0,none⟩,⟨some 14,.extract (.tmp 10) 1,none⟩,⟨some 15,.extract (.tmp 10) 2,none⟩,⟨some 1,.mov (.tmp 13),none⟩,⟨some 2,.mov (.tmp 14),none⟩,⟨some 3,.mov (.tmp 15),none⟩]) (.seq (.ops [⟨some 17,.call (.func 51) [],none⟩,⟨some 18,.build [.int .i64 0,.int .i64 0,.int .i64 0,.int .i64 0,.int .i64 0,.slice none 0 0] [(0,(1,(.const (.int .i64 1)))),(1,(1,(.const (.int .i64 1)))),(4,(1,(.const (.int .i64 5)))),(5,(1,(.tmp 17)))],none⟩,⟨some 19,.call (.func 49) [],none⟩,⟨some 20,.call (.func 50) [.tmp 18,.tmp 19],none⟩,⟨some 16,.mov (.tmp 20),none⟩,⟨some 21,.extract (.tmp 16) 0,none⟩,⟨some 22,.extract (.tmp 16) 1,none⟩,⟨some 4,.mov (.tmp 21),none⟩,⟨some 5,.mov (.tmp 22),none⟩]) (.seq (.ops [⟨some 24,.call (.func 52) [.const (.int .i64 3)],none⟩,⟨some 23,.mov (.tmp 24),none⟩,⟨some 25,.extract (.tmp 23) 0,none⟩,⟨some 26,.extract (.tmp 23) 1,none⟩,⟨some 6,.new [.int .i64 0,.int .i64 0],none⟩,⟨none,.store 2 (.tmp 6) (.tmp 25),none⟩,⟨some 7,.mov (.tmp 26),none⟩]) (.seq (.ops [⟨some 28,.build [.int .i64 0,.int .i64 0,.int .i64 0] [(0,(1,(.const (.int .i64 1)))),(2,(1,(.const (.int .i64 2))))],none⟩,⟨some 29,.call (.func 53) [.tmp 28,.const (.int .i64 100)],none⟩,⟨some 27,.mov (.tmp 29),none⟩,⟨some 30,.extract (.tmp 27) 0,none⟩,⟨some 31,.extract (.tmp 27) 1,none⟩,⟨some 8,.mov (.tmp 30),none⟩,⟨some 9,.mov (.tmp 31),none⟩]) (.seq (.ops [⟨some 32,.mov (.tmp 3),none⟩,⟨some 33,.cmp .eql (.tmp 32) (.const (.int .i64 0)),none⟩,⟨some 34,.mov (.tmp 33),none⟩,⟨some 35,.mov (.tmp 1),some (34,true)⟩,⟨some 36,.cmp .eql (.tmp 35) (.const (.int .i64 22609920)),some (34,true)⟩,⟨some 37,.pick (.tmp 34) (.tmp 36) (.const (.bool false)),none⟩,⟨some 38,.mov (.tmp 37),none⟩,⟨some 39,.mov (.tmp 2),some (38,true)⟩,⟨some 40,.cmp .eql (.tmp 39) (.const (.int .i64 1572864)),some (38,true)⟩,⟨some 41,.pick (.tmp 38) (.tmp 40) (.const (.bool false)),none⟩,⟨some 42,.mov (.tmp 41),none⟩,⟨some 43,.mov (.tmp 5),some (42,true)⟩,⟨some 44,.cmp .eql (.tmp 43) (.const (.int .i64 0)),some (42,true)⟩,⟨some 45,.pick (.tmp 42) (.tmp 44) (.const (.bool false)),none⟩,⟨some 46,.mov (.tmp 45),none⟩,⟨some 47,.mov (.tmp 4),some (46,true)⟩,⟨some 48,.buildSlice 1 9 [.int .i64 0,.int .i64 0,.int .i64 0,.int .i64 0,.int .i64 0,.int .i64 0,.int .i64 0,.int .i64 0,.int .i64 0] [(0,(1,(.const (.int .i64 0)))),(1,(1,(.const (.int .i64 5)))),(2,(1,(.const (.int .i64 10)))),(3,(1,(.const (.int .i64 15)))),(4,(1,(.const (.int .i64 20)))),(5,(1,(.const (.int .i64 25)))),(6,(1,(.const (.int .i64 30)))),(7,(1,(.const (.int .i64 35)))),(8,(1,(.const (.int .i64 40))))],some (46,true)⟩,⟨some 49,.call (.func 12) [.tmp 47,.tmp 48],some (46,true)⟩,⟨some 50,.pick (.tmp 46) (.tmp 49) (.const (.bool false)),none⟩,⟨some 51,.mov (.tmp 50),none⟩,⟨some 52,.mov (.tmp 7),some (51,true)⟩,⟨some 53,.cmp .eql (.tmp 52) (.const (.int .i64 0)),some (51,true)⟩,⟨some 54,.pick (.tmp 51) (.tmp 53) (.const (.bool false)),none⟩,⟨some 55,.mov (.tmp 54),none⟩,⟨some 56,.loadN 2 (.tmp 6),some (55,true)⟩,⟨some 57,.build [.int .i64 0,.int .i64 0] [(0,(1,(.const (.int .i64 3)))),(1,(1,(.const (.int .i64 128))))],some (55,true)⟩,⟨some 58,.eqAgg false [(0,false),(1,false)] (.tmp 56) (.tmp 57),some (55,true)⟩,⟨some 59,.pick (.tmp 55) (.tmp 58) (.const (.bool false)),none⟩,⟨some 60,.mov (.tmp 59),none⟩,⟨some 61,.mov (.tmp 9),some (60,true)⟩,⟨some 62,.cmp .eql (.tmp 61) (.const (.int .i64 0)),some (60,true)⟩,⟨some 63,.pick (.tmp 60) (.tmp 62) (.const (.bool false)),none⟩,⟨some 64,.mov (.tmp 63),none⟩,⟨some 65,.mov (.tmp 8),some (64,true)⟩,⟨some 66,.cmp .eql (.tmp 65) (.const (.int .i64 200)),some (64,true)⟩,⟨some 67,.pick (.tmp 64) (.tmp 66) (.const (.bool false)),none⟩,⟨some 0,.mov (.tmp 67),none⟩]) .ret)))))),68,[.tmp 0]⟩
theorem c14 : compileFn Go.Proofs.Tryz.prog Go.Proofs.Tryz.f14 = some R14 := by kernel_rfl
theorem a14 {args : List Value} {H : AHeap} {Q : Value → AHeap → Prop} (h : AWP Go.Proofs.Tryz.prog none R14.code (Fin R14 Q) (args ++ List.replicate (R14.ntmps - args.length) undef) H) : ACall Go.Proofs.Tryz.prog 14 args H Q := acall_intro mo Go.Proofs.Tryz.func14 c14 h
def R15 : RFunc :=
  ⟨(.seq (.ops [⟨some 1,.box (.tmp 0),none⟩,⟨some 2,.mov (.const (.bool false)),none⟩]) (.seq (.ops [⟨some 3,.fieldAddr 0 (.tmp 1),none⟩,⟨some 4,.load (.tmp 3),none⟩,⟨some 5,.len (.tmp 4),none⟩,⟨some 6,.cmp .leq (.tmp 5) (.const (.int .i64 22)),none⟩,⟨some 2,.mov (.tmp 6),none⟩]) .ret)),7,[.tmp 2]⟩
theorem c15 : compileFn Go.Proofs.Tryz.prog Go.Proofs.Tryz.f15 = some R15 := by kernel_rfl
theorem n15 : R15.ntmps = 7 := rfl
theorem a15 {args : List Value} {H : AHeap} {Q : Value → AHeap → Prop} (h : AWP Go.Proofs.Tryz.prog none R15.code (Fin R15 Q) (args ++ List.replicate (R15.ntmps - args.length) undef) H) : ACall Go.Proofs.Tryz.prog 15 args H Q := acall_intro mo Go.Proofs.Tryz.func15 c15 h
def R16 : RFunc :=
  ⟨(.seq (.ops [⟨some 1,.box (.tmp 0),none⟩,⟨some 2,.mov (.const (.bool false)),none⟩]) (.seq (.ops [⟨some 3,.fieldAddr 0 (.tmp 1),none⟩,⟨some 4,.load (.tmp 3),none⟩,⟨some 5,.len (.tmp 4),none⟩,⟨some 6,.cmp .leq (.tmp 5) (.const (.int .i64 10)),none⟩,⟨some 2,.mov (.tmp 6),none⟩]) .ret)),7,[.tmp 2]⟩
theorem c16 : compileFn Go.Proofs.Tryz.prog Go.Proofs.Tryz.f16 = some R16 := by kernel_rfl
theorem n16 : R16.ntmps = 7 := rfl
theorem a16 {args : List Value} {H : AHeap} {Q : Value → AHeap → Prop} (h : AWP Go.Proofs.Tryz.prog none R16.code (Fin R16 Q) (args ++ List.replicate (R16.ntmps - args.length) undef) H) : ACall Go.Proofs.Tryz.prog 16 args H Q := acall_intro mo Go.Proofs.Tryz.func16 c16 h
def R17 : RFunc :=
  ⟨(.seq (.ops [⟨some 1,.box (.tmp 0),none⟩,⟨some 2,.mov (.const (.string ⟨#[]⟩)),none⟩]) (.seq (.seq (.ops [⟨some 3,.fieldAddr 0 (.tmp 1),none⟩,⟨some 4,.load (.tmp 3),none⟩]) (.block 0 (.seq (.ops [⟨some 6,.cmp .eql (.tmp 4) (.const (.int .i64 0)),none⟩,⟨some 5,.mov (.tmp 6),none⟩]) (.cond (.tmp 5) (.seq (.draw [(⟨some 7,.fieldAddr 0 (.tmp 1),none⟩,false),(⟨some 8,.load (.tmp 7),none⟩,false),(⟨some 9,.idxAddrA 2 1 (.global 0) (.tmp 8),none⟩,false),(⟨some 10,.load (.tmp 9),none⟩,false),(⟨some 11,.strOp .add (.tmp 10) (.const (.string ⟨#[32]⟩)),none⟩,false),(⟨some 12,.fieldAddr 1 (.tmp 1),none⟩,false),(⟨some 13,.load (.tmp 12),none⟩,false),(⟨some 14,.fieldAddr 2 (.tmp 1),none⟩,false),(⟨some 15,.load (.tmp 14),none⟩,false),(⟨some 16,.fieldAddr 3 (.tmp 1),none⟩,false),(⟨some 17,.load (.tmp 16),none⟩,false),(⟨some 18,.buildSlice 1 3 [.int .i64 0,.int .i64 0,.int .i64 0] [(0,(1,(.tmp 13))),(1,(1,(.tmp 15))),(2,(1,(.tmp 17)))],none⟩,false),(⟨some 19,.call (.func 54) [.tmp 18],none⟩,false),(⟨some 20,.strOp .add (.tmp 11) (.tmp 19),none⟩,false),(⟨some 2,.mov (.tmp 20),none⟩,false)]) .ret) (.seq (.ops [⟨some 22,.cmp .eql (.tmp 4) (.const (.int .i64 1)),none⟩,⟨some 21,.mov (.tmp 22),none⟩]) (.cond (.tmp 21) (.seq (.draw [(⟨some 23,.fieldAddr 0 (.tmp 1),none⟩,false),(⟨some 24,.load (.tmp 23),none⟩,false),(⟨some 25,.idxAddrA 2 1 (.global 0) (.tmp 24),none⟩,false),(⟨some 26,.load (.tmp 25),none⟩,false),(⟨some 27,.strOp .add (.tmp 26) (.const (.string ⟨#[32]⟩)),none⟩,false),(⟨some 28,.fieldAddr 1 (.tmp 1),none⟩,false),(⟨some 29,.load (.tmp 28),none⟩,false),(⟨some 30,.fieldAddr 4 (.tmp 1),none⟩,false),(⟨some 31,.load (.tmp 30),none⟩,false),(⟨some 32,.buildSlice 1 2 [.int .i64 0,.int .i64 0] [(0,(1,(.tmp 29))),(1,(1,(.tmp 31)))],none⟩,false),(⟨some 33,.call (.func 54) [.tmp 32],none⟩,false),(⟨some 34,.strOp .add (.tmp 27) (.tmp 33),none⟩,false),(⟨some 35,.strOp .add (.tmp 34) (.const (.string ⟨#[32]⟩)),none⟩,false),(⟨some 36,.fieldAddr 5 (.tmp 1),none⟩,false),(⟨some 37,.loadN 1 (.tmp 36),none⟩,false),(⟨some 38,.call (.func 55) [.tmp 37],none⟩,false),(⟨some 39,.strOp .add (.tmp 35) (.tmp 38),none⟩,false),(⟨some 2,.mov (.tmp 39),none⟩,false)]) .ret) .skip)))))) (.seq (.ops [⟨some 2,.mov (.const (.string ⟨#[]⟩)),none⟩]) .ret))),40,[.tmp 2]⟩
theorem c17 : compileFn Go.Proofs.Tryz.prog Go.Proofs.Tryz.f17 = some R17 := by kernel_rfl
theorem n17 : R17.ntmps = 40 := rfl
theorem a17 {args : List Value} {H : AHeap} {Q : Value → AHeap → Prop} (h : AWP Go.Proofs.Tryz.prog none R17.code (Fin R17 Q) (args ++ List.replicate (R17.ntmps - args.length) undef) H) : ACall Go.Proofs.Tryz.prog 17 args H Q := acall_intro mo Go.Proofs.Tryz.func17 c17 h
def R18 : RFunc :=
  ⟨(.seq (.ops [⟨some 1,.box (.tmp 0),none⟩,⟨some 2,.new [.int .i64 0,.int .i64 0,.int .i64 0,.int .i64 0,.int .i64 0,.slice none 0 0],none⟩]) (.seq (.ops [⟨some 3,.fieldAddr 5 (.tmp 1),none⟩,⟨some 4,.loadN 1 (.tmp 3),none⟩,⟨some 5,.call (.func 56) [.tmp 4],none⟩,⟨some 6,.fieldAddr 5 (.tmp 1),none⟩,⟨none,.store 1 (.tmp 6) (.tmp 5),none⟩]) (.seq (.ops [⟨some 7,.loadN 6 (.tmp 1),none⟩,⟨none,.store 6 (.tmp 2) (.tmp 7),none⟩]) .ret))),8,[(.loadN 6 2)]⟩
theorem c18 : compileFn Go.Proofs.Tryz.prog Go.Proofs.Tryz.f18 = some R18 := by kernel_rfl
theorem n18 : R18.ntmps = 8 := rfl
theorem a18 {args : List Value} {H : AHeap} {Q : Value → AHeap → Prop} (h : AWP Go.Proofs.Tryz.prog none R18.code (Fin R18 Q) (args ++ List.replicate (R18.ntmps - args.length) undef) H) : ACall Go.Proofs.Tryz.prog 18 args H Q := acall_intro mo Go.Proofs.Tryz.func18 c18 h
def R19 : RFunc :=
  ⟨(.seq (.ops [⟨some 1,.box (.tmp 0),none⟩,⟨some 2,.mov (.const (.string ⟨#[]⟩)),none⟩]) (.seq (.ops [⟨some 3,.fieldAddr 1 (.tmp 1),none⟩,⟨some 4,.load (.tmp 3),none⟩,⟨some 5,.buildSlice 1 1 [.int .i64 0] [(0,(1,(.tmp 4)))],none⟩,⟨some 6,.fieldAddr 0 (.tmp 1),none⟩,⟨some 7,.load (.tmp 6),none⟩,⟨some 8,.append 1 8 (.tmp 5) (.tmp 7),none⟩,⟨some 9,.call (.func 54) [.tmp 8],none⟩,⟨some 2,.mov (.tmp 9),none⟩]) .ret)),10,[.tmp 2]⟩
theorem c19 : compileFn Go.Proofs.Tryz.prog Go.Proofs.Tryz.f19 = some R19 := by kernel_rfl
theorem n19 : R19.ntmps = 10 := rfl
theorem a19 {args : List Value} {H : AHeap} {Q : Value → AHeap → Prop} (h : AWP Go.Proofs.Tryz.prog none R19.code (Fin R19 Q) (args ++ List.replicate (R19.ntmps - args.length) undef) H) : ACall Go.Proofs.Tryz.prog 19 args H Q := acall_intro mo Go.Proofs.Tryz.func19 c19 h
def R20 : RFunc :=
  ⟨(.seq (.ops [⟨some 1,.box (.tmp 0),none⟩,⟨some 2,.new [.slice none 0 0,.int .i64 0],none⟩]) (.seq (.draw [(⟨some 3,.fieldAddr 0 (.tmp 1),none⟩,false),(⟨some 4,.load (.tmp 3),none⟩,false),(⟨some 5,.call (.func 8) [.tmp 4],none⟩,false),(⟨some 6,.fieldAddr 1 (.tmp 1),none⟩,false),(⟨some 7,.load (.tmp 6),none⟩,false),(⟨some 8,.build [.slice none 0 0,.int .i64 0] [(0,(1,(.tmp 5))),(1,(1,(.tmp 7)))],none⟩,false),(⟨none,.store 2 (.tmp 2) (.tmp 8),none⟩,false)]) .ret)),9,[(.loadN 2 2)]⟩
theorem c20 : compileFn Go.Proofs.Tryz.prog Go.Proofs.Tryz.f20 = some R20 := by kernel_rfl
theorem n20 : R20.ntmps = 9 := rfl
theorem a20 {args : List Value} {H : AHeap} {Q : Value → AHeap → Prop} (h : AWP Go.Proofs.Tryz.prog none R20.code (Fin R20 Q) (args ++ List.replicate (R20.ntmps - args.length) undef) H) : ACall Go.Proofs.Tryz.prog 20 args H Q := acall_intro mo Go.Proofs.Tryz.func20 c20 h
def R21 : RFunc :=
  ⟨(.seq (.ops [⟨some 2,.new [.int .i64 0,.int .i64 0,.int .i64 0,.int .i64 0,.int .i64 0,.slice none 0 0],none⟩,⟨some 3,.mov (.const (.int .i64 0)),none⟩]) (.seq (.seq (.ops [⟨some 11,.mov (.tmp 0),none⟩,⟨some 12,.lenS (.tmp 11),none⟩,⟨some 13,.cmp .gtr (.tmp 12) (.const (.int .i64 60000)),none⟩]) (.cond (.tmp 13) (.seq (.ops [⟨some 14,.build [.int .i64 0,.int .i64 0,.int .i64 0,.int .i64 0,.int .i64 0,.slice none 0 0] [],none⟩,⟨none,.store 6 (.tmp 2) (.tmp 14),none⟩,⟨some 3,.mov (.const (.int .i64 8)),none⟩]) .ret) .skip)) (.seq (.ops [⟨some 4,.new [.int .i64 0,.int .i64 0,.int .i64 0,.int .i64 0,.int .i64 0,.slice none 0 0],none⟩]) (.seq (.ops [⟨some 5,.mov (.const (.int .i64 0)),none⟩]) (.seq (.ops [⟨some 16,.mov (.tmp 0),none⟩,⟨some 17,.call (.func 57) [(.tmp 16),(.const (.string ⟨#[32]⟩))],none⟩,⟨some 15,.mov (.tmp 17),none⟩,⟨some 18,.extract (.tmp 15) 0,none⟩,⟨some 19,.extract (.tmp 15) 1,none⟩,⟨some 20,.extract (.tmp 15) 2,none⟩,⟨some 6,.mov (.tmp 18),none⟩,⟨some 7,.mov (.tmp 19),none⟩,⟨some 8,.mov (.tmp 20),none⟩]) (.seq (.seq (.ops [⟨some 21,.arrS 2 (.global 0),none⟩,⟨some 22,.mov (.tmp 6),none⟩,⟨some 23,.call (.func 58) [.tmp 21,.tmp 22],none⟩,⟨some 24,.fieldAddr 0 (.tmp 4),none⟩,⟨none,.store 1 (.tmp 24) (.tmp 23),none⟩]) (.seq (.ops [⟨some 25,.fieldAddr 0 (.tmp 4),none⟩,⟨some 26,.load (.tmp 25),none⟩]) (.block 0 (.seq (.ops [⟨some 28,.cmp .eql (.tmp 26) (.const (.int .i64 0)),none⟩,⟨some 27,.mov (.tmp 28),none⟩]) (.cond (.tmp 27) (.seq (.ops [⟨some 29,.mov (.tmp 7),none⟩,⟨some 30,.call (.func 60) [(.tmp 29),(.const (.string ⟨#[32]⟩))],none⟩,⟨some 31,.buildSlice 1 3 [.int .i64 0,.int .i64 0,.int .i64 0] [(0,(1,(.const (.int .i64 4)))),(1,(1,(.const (.int .i64 4)))),(2,(1,(.const (.int .i64 4))))],none⟩,⟨some 32,.fieldAddr 1 (.tmp 4),none⟩,⟨some 33,.fieldAddr 2 (.tmp 4),none⟩,⟨some 34,.fieldAddr 3 (.tmp 4),none⟩,⟨some 35,.buildSlice 1 3 [(.pointer none),(.pointer none),(.pointer none)] [(0,(1,(.tmp 32))),(1,(1,(.tmp 33))),(2,(1,(.tmp 34)))],none⟩,⟨some 36,.call (.func 59) [.tmp 30,.tmp 31,.tmp 35],none⟩,⟨some 9,.mov (.tmp 36),none⟩]) (.ops [⟨some 37,.mov (.tmp 9),none⟩,⟨some 38,.call (.func 61) [.tmp 37,.const (.int .i64 7)],none⟩,⟨some 5,.mov (.tmp 38),none⟩])) (.seq (.ops [⟨some 40,.cmp .eql (.tmp 26) (.const (.int .i64 1)),none⟩,⟨some 39,.mov (.tmp 40),none⟩]) (.cond (.tmp 39) (.seq (.ops [⟨some 41,.mov (.tmp 7),none⟩,⟨some 42,.call (.func 62) [(.tmp 41),(.const (.string ⟨#[32]⟩)),(.const (.int .i64 3))],none⟩,⟨some 10,.mov (.tmp 42),none⟩]) (.seq (.seq (.ops [⟨some 43,.mov (.tmp 10),none⟩,⟨some 44,.len (.tmp 43),none⟩,⟨some 45,.cmp .neq (.tmp 44) (.const (.int .i64 3)),none⟩,⟨some 46,.mov (.tmp 45),none⟩,⟨some 47,.mov (.tmp 10),some (46,false)⟩,⟨some 48,.slice 1 (.tmp 47) none (some (.const (.int .i64 2))) none,some (46,false)⟩,⟨some 49,.buildSlice 1 2 [.int .i64 0,.int .i64 0] [(0,(1,(.const (.int .i64 4)))),(1,(1,(.const (.int .i64 13))))],some (46,false)⟩,⟨some 50,.fieldAddr 1 (.tmp 4),some (46,false)⟩,⟨some 51,.fieldAddr 4 (.tmp 4),some (46,false)⟩,⟨some 52,.buildSlice 1 2 [(.pointer none),(.pointer none)] [(0,(1,(.tmp 50))),(1,(1,(.tmp 51)))],some (46,false)⟩,⟨some 53,.call (.func 59) [.tmp 48,.tmp 49,.tmp 52],some (46,false)⟩,⟨some 54,.not (.tmp 53),some (46,false)⟩,⟨some 55,.pick (.tmp 46) (.const (.bool true)) (.tmp 54),none⟩]) (.cond (.tmp 55) (.seq (.ops [⟨some 56,.build [.int .i64 0,.int .i64 0,.int .i64 0,.int .i64 0,.int .i64 0,.slice none 0 0] [],none⟩,⟨none,.store 6 (.tmp 2) (.tmp 56),none⟩,⟨some 3,.mov (.const (.int .i64 7)),none⟩]) .ret) .skip)) (.ops [⟨some 58,.mov (.tmp 10),none⟩,⟨some 59,.idxAddr 1 (.tmp 58) (.const (.int .i64 2)),none⟩,⟨some 60,.load (.tmp 59),none⟩,⟨some 61,.call (.func 63) [.tmp 60],none⟩,⟨some 57,.mov (.tmp 61),none⟩,⟨some 62,.extract (.tmp 57) 0,none⟩,⟨some 63,.extract (.tmp 57) 1,none⟩,⟨some 64,.fieldAddr 5 (.tmp 4),none⟩,⟨none,.store 1 (.tmp 64) (.tmp 62),none⟩,⟨some 5,.mov (.tmp 63),none⟩]))) (.ops [⟨some 5,.mov (.const (.int .i64 7)),none⟩])))))))) (.seq (.seq (.ops [⟨some 65,.mov (.tmp 5),none⟩,⟨some 66,.cmp .eql (.tmp 65) (.const (.int .i64 0)),none⟩]) (.cond (.tmp 66) (.ops [⟨some 67,.loadN 6 (.tmp 4),none⟩,⟨some 68,.call (.func 64) [.tmp 67],none⟩,⟨some 5,.mov (.tmp 68),none⟩]) .skip)) (.seq (.seq (.ops [⟨some 69,.mov (.tmp 5),none⟩,⟨some 70,.cmp .neq (.tmp 69) (.const (.int .i64 0)),none⟩]) (.cond (.tmp 70) (.seq (.ops [⟨some 71,.build [.int .i64 0,.int .i64 0,.int .i64 0,.int .i64 0,.int .i64 0,.slice none 0 0] [],none⟩,⟨some 72,.mov (.tmp 5),none⟩,⟨none,.store 6 (.tmp 2) (.tmp 71),none⟩,⟨some 3,.mov (.tmp 72),none⟩]) .ret) .skip)) (.seq (.ops [⟨some 73,.loadN 6 (.tmp 4),none⟩,⟨none,.store 6 (.tmp 2) (.tmp 73),none⟩,⟨some 3,.mov (.const (.int .i64 0)),none⟩]) .ret))))))))),74,[(.loadN 6 2),(.tmp 3)]⟩
theorem c21 : compileFn Go.Proofs.Tryz.prog Go.Proofs.Tryz.f21 = some R21 := by kernel_rfl
theorem n21 : R21.ntmps = 74 := rfl
theorem a21 {args : List Value} {H : AHeap} {Q : Value → AHeap → Prop} (h : AWP Go.Proofs.Tryz.prog none R21.code (Fin R21 Q) (args ++ List.replicate (R21.ntmps - args.length) undef) H) : ACall Go.Proofs.Tryz.prog 21 args H Q := acall_intro mo Go.Proofs.Tryz.func21 c21 h
def R22 : RFunc :=
  ⟨(.seq (.ops [⟨some 2,.new [.slice none 0 0,.int .i64 0],none⟩,⟨some 3,.mov (.const (.int .i64 0)),none⟩]) (.seq (.ops [⟨some 4,.new [.slice none 0 0,.int .i64 0],none⟩]) (.seq (.seq (.ops [⟨some 10,.mov (.tmp 0),none⟩,⟨some 11,.call (.func 60) [(.tmp 10),(.const (.string ⟨#[32]⟩))],none⟩,⟨some 12,.len (.tmp 11),none⟩,⟨some 13,.mov (.const (.int .i64 0)),none⟩]) (.block 0 (.loop (.seq (.ops [⟨some 14,.cmp .lss (.tmp 13) (.tmp 12),none⟩]) (.seq (.cond (.tmp 14) .skip (.exit 0)) (.seq (.block 1 (.seq (.ops [⟨some 15,.mov (.tmp 13),none⟩,⟨some 16,.idxAddr 1 (.tmp 11) (.tmp 13),none⟩,⟨some 17,.load (.tmp 16),none⟩,⟨some 5,.mov (.tmp 15),none⟩,⟨some 6,.mov (.tmp 17),none⟩]) (.seq (.ops [⟨some 19,.mov (.tmp 6),none⟩,⟨some 20,.call (.func 65) [.tmp 19,.const (.int .i64 4)],none⟩,⟨some 18,.mov (.tmp 20),none⟩,⟨some 21,.extract (.tmp 18) 0,none⟩,⟨some 22,.extract (.tmp 18) 1,none⟩,⟨some 7,.mov (.tmp 21),none⟩,⟨some 8,.mov (.tmp 22),none⟩]) (.seq (.seq (.ops [⟨some 23,.mov (.tmp 8),none⟩,⟨some 24,.not (.tmp 23),none⟩,⟨some 25,.mov (.tmp 24),none⟩,⟨some 26,.mov (.tmp 5),some (25,false)⟩,⟨some 27,.cmp .eql (.tmp 26) (.const (.int .i64 0)),some (25,false)⟩,⟨some 28,.mov (.tmp 27),some (25,false)⟩,⟨some 29,.mov (.tmp 7),some (28,true)⟩,⟨some 30,.cmp .lss (.tmp 29) (.const (.int .i64 0)),some (28,true)⟩,⟨some 31,.pick (.tmp 28) (.tmp 30) (.const (.bool false)),some (25,false)⟩,⟨some 32,.pick (.tmp 25) (.const (.bool true)) (.tmp 31),none⟩]) (.cond (.tmp 32) (.seq (.ops [⟨some 33,.build [.slice none 0 0,.int .i64 0] [],none⟩,⟨none,.store 2 (.tmp 2) (.tmp 33),none⟩,⟨some 3,.mov (.const (.int .i64 7)),none⟩]) .ret) .skip)) (.seq (.seq (.ops [⟨some 34,.mov (.tmp 5),none⟩,⟨some 35,.cmp .eql (.tmp 34) (.const (.int .i64 0)),none⟩]) (.cond (.tmp 35) (.seq (.ops [⟨some 36,.mov (.tmp 7),none⟩,⟨some 37,.fieldAddr 1 (.tmp 4),none⟩,⟨none,.store 1 (.tmp 37) (.tmp 36),none⟩]) (.exit 1)) .skip)) (.ops [⟨some 38,.fieldAddr 0 (.tmp 4),none⟩,⟨some 39,.load (.tmp 38),none⟩,⟨some 40,.mov (.tmp 7),none⟩,⟨some 41,.buildSlice 1 1 [.int .i64 0] [(0,(1,(.tmp 40)))],none⟩,⟨some 42,.append 1 8 (.tmp 39) (.tmp 41),none⟩,⟨some 43,.fieldAddr 0 (.tmp 4),none⟩,⟨none,.store 1 (.tmp 43) (.tmp 42),none⟩])))))) (.ops [⟨some 44,.arith .add (.tmp 13) (.const (.int .i64 1)),none⟩,⟨some 13,.mov (.tmp 44),none⟩]))))))) (.seq (.seq (.ops [⟨some 45,.loadN 2 (.tmp 4),none⟩,⟨some 46,.call (.func 66) [.tmp 45],none⟩,⟨some 9,.mov (.tmp 46),none⟩]) (.seq (.ops [⟨some 47,.mov (.tmp 9),none⟩,⟨some 48,.cmp .neq (.tmp 47) (.const (.int .i64 0)),none⟩]) (.cond (.tmp 48) (.seq (.ops [⟨some 49,.build [.slice none 0 0,.int .i64 0] [],none⟩,⟨some 50,.mov (.tmp 9),none⟩,⟨none,.store 2 (.tmp 2) (.tmp 49),none⟩,⟨some 3,.mov (.tmp 50),none⟩]) .ret) .skip))) (.seq (.ops [⟨some 51,.loadN 2 (.tmp 4),none⟩,⟨none,.store 2 (.tmp 2) (.tmp 51),none⟩,⟨some 3,.mov (.const (.int .i64 0)),none⟩]) .ret))))),52,[(.loadN 2 2),(.tmp 3)]⟩
theorem c22 : compileFn Go.Proofs.Tryz.prog Go.Proofs.Tryz.f22 = some R22 := by kernel_rfl
theorem n22 : R22.ntmps = 52 := rfl
theorem a22 {args : List Value} {H : AHeap} {Q : Value → AHeap → Prop} (h : AWP Go.Proofs.Tryz.prog none R22.code (Fin R22 Q) (args ++ List.replicate (R22.ntmps - args.length) undef) H) : ACall Go.Proofs.Tryz.prog 22 args H Q := acall_intro mo Go.Proofs.Tryz.func22 c22 h
def R23 : RFunc :=
  ⟨(.seq (.ops [⟨some 2,.new [.int .i64 0,.int .i64 0,.int .i64 0,.int .i64 0,.int .i64 0,.slice none 0 0],none⟩,⟨some 3,.mov (.const (.int .i64 0)),none⟩]) (.seq (.ops [⟨some 20,.build [.int .i64 0,.int .i64 0,.int .i64 0,.int .i64 0,.int .i64 0,.slice none 0 0] [],none⟩,⟨some 4,.new [.int .i64 0,.int .i64 0,.int .i64 0,.int .i64 0,.int .i64 0,.slice none 0 0],none⟩,⟨none,.store 6 (.tmp 4) (.tmp 20),none⟩]) (.seq (.seq (.ops [⟨some 21,.mov (.tmp 0),none⟩,⟨some 22,.lenS (.tmp 21),none⟩,⟨some 23,.cmp .gtr (.tmp 22) (.const (.int .i64 60000)),none⟩]) (.cond (.tmp 23) (.seq (.ops [⟨some 24,.loadN 6 (.tmp 4),none⟩,⟨none,.store 6 (.tmp 2) (.tmp 24),none⟩,⟨some 3,.mov (.const (.int .i64 8)),none⟩]) .ret) .skip)) (.seq (.ops [⟨some 25,.mov (.tmp 0),none⟩,⟨some 26,.call (.func 44) [.tmp 25,.const (.int .u8 32)],none⟩,⟨some 5,.mov (.tmp 26),none⟩]) (.seq (.ops [⟨some 27,.build [.int .i64 0,.int .i64 0,.int .i64 0,.int .i64 0,.int .i64 0,.slice none 0 0] [],none⟩,⟨some 6,.new [.int .i64 0,.int .i64 0,.int .i64 0,.int .i64 0,.int .i64 0,.slice none 0 0],none⟩,⟨none,.store 6 (.tmp 6) (.tmp 27),none⟩]) (.seq (.seq (.ops [⟨some 28,.mov (.tmp 5),none⟩,⟨some 29,.idxAddr 1 (.tmp 28) (.const (.int .i64 0)),none⟩,⟨some 30,.load (.tmp 29),none⟩,⟨some 31,.strOp .eql (.tmp 30) (.const (.string ⟨#[114,97,116,105,111]⟩)),none⟩,⟨some 32,.mov (.tmp 31),none⟩,⟨some 33,.mov (.tmp 5),some (32,true)⟩,⟨some 34,.len (.tmp 33),some (32,true)⟩,⟨some 35,.cmp .eql (.tmp 34) (.const (.int .i64 4)),some (32,true)⟩,⟨some 36,.pick (.tmp 32) (.tmp 35) (.const (.bool false)),none⟩]) (.cond (.tmp 36) (.seq (.ops [⟨some 7,.new [.int .i64 0,.int .i64 0,.int .i64 0,.int .i64 0],none⟩]) (.seq (.seq (.ops [⟨some 8,.mov (.const (.int .i64 1)),none⟩]) (.block 0 (.loop (.seq (.seq (.ops [⟨some 37,.mov (.tmp 8),none⟩,⟨some 38,.cmp .lss (.tmp 37) (.const (.int .i64 4)),none⟩]) (.cond (.tmp 38) .skip (.exit 0))) (.seq (.block 1 (.seq (.ops [⟨some 42,.mov (.tmp 5),none⟩,⟨some 43,.mov (.tmp 8),none⟩,⟨some 44,.idxAddr 1 (.tmp 42) (.tmp 43),none⟩,⟨some 45,.load (.tmp 44),none⟩,⟨some 46,.call (.func 67) [.tmp 45,.const (.int .i64 4)],none⟩,⟨some 41,.mov (.tmp 46),none⟩,⟨some 47,.extract (.tmp 41) 0,none⟩,⟨some 48,.extract (.tmp 41) 1,none⟩,⟨some 9,.mov (.tmp 47),none⟩,⟨some 10,.mov (.tmp 48),none⟩]) (.seq (.seq (.ops [⟨some 49,.mov (.tmp 10),none⟩,⟨some 50,.not (.tmp 49),none⟩]) (.cond (.tmp 50) (.seq (.ops [⟨some 51,.loadN 6 (.tmp 4),none⟩,⟨none,.store 6 (.tmp 2) (.tmp 51),none⟩,⟨some 3,.mov (.const (.int .i64 7)),none⟩]) .ret) .skip)) (.ops [⟨some 52,.mov (.tmp 8),none⟩,⟨some 53,.mov (.tmp 9),none⟩,⟨some 54,.idxAddrA 4 1 (.tmp 7) (.tmp 52),none⟩,⟨none,.store 1 (.tmp 54) (.tmp 53),none⟩])))) (.ops [⟨some 39,.mov (.tmp 8),none⟩,⟨some 40,.arith .add (.tmp 39) (.const (.int .i64 1)),none⟩,⟨some 8,.mov (.tmp 40),none⟩])))))) (.ops [⟨some 55,.idxAddrA 4 1 (.tmp 7) (.const (.int .i64 1)),none⟩,⟨some 56,.load (.tmp 55),none⟩,⟨some 57,.idxAddrA 4 1 (.tmp 7) (.const (.int .i64 2)),none⟩,⟨some 58,.load (.tmp 57),none⟩,⟨some 59,.idxAddrA 4 1 (.tmp 7) (.const (.int .i64 3)),none⟩,⟨some 60,.load (.tmp 59),none⟩,⟨some 61,.build [.int .i64 0,.int .i64 0,.int .i64 0,.int .i64 0,.int .i64 0,.slice none 0 0] [(0,(1,(.const (.int .i64 0)))),(1,(1,(.tmp 56))),(2,(1,(.tmp 58))),(3,(1,(.tmp 60)))],none⟩,⟨none,.store 6 (.tmp 6) (.tmp 61),none⟩]))) (.seq (.ops [⟨some 62,.mov (.tmp 5),none⟩,⟨some 63,.idxAddr 1 (.tmp 62) (.const (.int .i64 0)),none⟩,⟨some 64,.load (.tmp 63),none⟩,⟨some 65,.strOp .eql (.tmp 64) (.const (.string ⟨#[109,97,112]⟩)),none⟩,⟨some 66,.mov (.tmp 65),none⟩,⟨some 67,.mov (.tmp 5),some (66,true)⟩,⟨some 68,.len (.tmp 67),some (66,true)⟩,⟨some 69,.cmp .geq (.tmp 68) (.const (.int .i64 4)),some (66,true)⟩,⟨some 70,.pick (.tmp 66) (.tmp 69) (.const (.bool false)),none⟩]) (.cond (.tmp 70) (.seq (.ops [⟨some 72,.mov (.tmp 5),none⟩,⟨some 73,.idxAddr 1 (.tmp 72) (.const (.int .i64 1)),none⟩,⟨some 74,.load (.tmp 73),none⟩,⟨some 75,.call (.func 67) [.tmp 74,.const (.int .i64 4)],none⟩,⟨some 71,.mov (.tmp 75),none⟩,⟨some 76,.extract (.tmp 71) 0,none⟩,⟨some 77,.extract (.tmp 71) 1,none⟩,⟨some 11,.mov (.tmp 76),none⟩,⟨some 12,.mov (.tmp 77),none⟩]) (.seq (.ops [⟨some 79,.mov (.tmp 5),none⟩,⟨some 80,.idxAddr 1 (.tmp 79) (.const (.int .i64 2)),none⟩,⟨some 81,.load (.tmp 80),none⟩,⟨some 82,.call (.func 67) [.tmp 81,.const (.int .i64 13)],none⟩,⟨some 78,.mov (.tmp 82),none⟩,⟨some 83,.extract (.tmp 78) 0,none⟩,⟨some 84,.extract (.tmp 78) 1,none⟩,⟨some 13,.mov (.tmp 83),none⟩,⟨some 14,.mov (.tmp 84),none⟩]) (.seq (.seq (.ops [⟨some 85,.mov (.tmp 12),none⟩,⟨some 86,.not (.tmp 85),none⟩,⟨some 87,.mov (.tmp 86),none⟩,⟨some 88,.mov (.tmp 14),some (87,false)⟩,⟨some 89,.not (.tmp 88),some (87,false)⟩,⟨some 90,.pick (.tmp 87) (.const (.bool true)) (.tmp 89),none⟩]) (.cond (.tmp 90) (.seq (.ops [⟨some 91,.loadN 6 (.tmp 4),none⟩,⟨none,.store 6 (.tmp 2) (.tmp 91),none⟩,⟨some 3,.mov (.const (.int .i64 7)),none⟩]) .ret) .skip)) (.seq (.ops [⟨some 92,.mov (.tmp 5),none⟩,⟨some 93,.idxAddr 1 (.tmp 92) (.const (.int .i64 3)),none⟩,⟨some 94,.load (.tmp 93),none⟩,⟨some 15,.mov (.tmp 94),none⟩]) (.seq (.seq (.ops [⟨some 16,.mov (.const (.int .i64 4)),none⟩]) (.block 2 (.loop (.seq (.seq (.ops [⟨some 95,.mov (.tmp 16),none⟩,⟨some 96,.mov (.tmp 5),none⟩,⟨some 97,.len (.tmp 96),none⟩,⟨some 98,.cmp .lss (.tmp 95) (.tmp 97),none⟩]) (.cond (.tmp 98) .skip (.exit 2))) (.seq (.block 3 (.ops [⟨some 101,.mov (.tmp 15),none⟩,⟨some 102,.strOp .add (.tmp 101) (.const (.string ⟨#[32]⟩)),none⟩,⟨some 103,.mov (.tmp 5),none⟩,⟨some 104,.mov (.tmp 16),none⟩,⟨some 105,.idxAddr 1 (.tmp 103) (.tmp 104),none⟩,⟨some 106,.load (.tmp 105),none⟩,⟨some 107,.strOp .add (.tmp 102) (.tmp 106),none⟩,⟨some 15,.mov (.tmp 107),none⟩])) (.ops [⟨some 99,.mov (.tmp 16),none⟩,⟨some 100,.arith .add (.tmp 99) (.const (.int .i64 1)),none⟩,⟨some 16,.mov (.tmp 100),none⟩])))))) (.seq (.ops [⟨some 109,.mov (.tmp 15),none⟩,⟨some 110,.call (.func 68) [.tmp 109],none⟩,⟨some 108,.mov (.tmp 110),none⟩,⟨some 111,.extract (.tmp 108) 0,none⟩,⟨some 112,.extract (.tmp 108) 1,none⟩,⟨some 17,.new [.slice none 0 0],none⟩,⟨none,.store 1 (.tmp 17) (.tmp 111),none⟩,⟨some 18,.mov (.tmp 112),none⟩]) (.seq (.seq (.ops [⟨some 113,.mov (.tmp 18),none⟩,⟨some 114,.cmp .neq (.tmp 113) (.const (.int .i64 0)),none⟩]) (.cond (.tmp 114) (.seq (.ops [⟨some 115,.loadN 6 (.tmp 4),none⟩,⟨some 116,.mov (.tmp 18),none⟩,⟨none,.store 6 (.tmp 2) (.tmp 115),none⟩,⟨some 3,.mov (.tmp 116),none⟩]) .ret) .skip)) (.ops [⟨some 117,.mov (.tmp 11),none⟩,⟨some 118,.mov (.tmp 13),none⟩,⟨some 119,.loadN 1 (.tmp 17),none⟩,⟨some 120,.build [.int .i64 0,.int .i64 0,.int .i64 0,.int .i64 0,.int .i64 0,.slice none 0 0] [(0,(1,(.const (.int .i64 1)))),(1,(1,(.tmp 117))),(4,(1,(.tmp 118))),(5,(1,(.tmp 119)))],none⟩,⟨none,.store 6 (.tmp 6) (.tmp 120),none⟩])))))))) (.seq (.ops [⟨some 121,.loadN 6 (.tmp 4),none⟩,⟨none,.store 6 (.tmp 2) (.tmp 121),none⟩,⟨some 3,.mov (.const (.int .i64 7)),none⟩]) .ret))))) (.seq (.seq (.ops [⟨some 122,.loadN 6 (.tmp 6),none⟩,⟨some 123,.call (.func 29) [.tmp 122],none⟩,⟨some 19,.mov (.tmp 123),none⟩]) (.seq (.ops [⟨some 124,.mov (.tmp 19),none⟩,⟨some 125,.cmp .neq (.tmp 124) (.const (.int .i64 0)),none⟩]) (.cond (.tmp 125) (.seq (.ops [⟨some 126,.loadN 6 (.tmp 4),none⟩,⟨some 127,.mov (.tmp 19),none⟩,⟨none,.store 6 (.tmp 2) (.tmp 126),none⟩,⟨some 3,.mov (.tmp 127),none⟩]) .ret) .skip))) (.seq (.ops [⟨some 128,.loadN 6 (.tmp 6),none⟩,⟨none,.store 6 (.tmp 2) (.tmp 128),none⟩,⟨some 3,.mov (.const (.int .i64 0)),none⟩]) .ret)))))))),129,[(.loadN 6 2),(.tmp 3)]⟩
theorem c23 : compileFn Go.Proofs.Tryz.prog Go.Proofs.Tryz.f23 = some R23 := by kernel_rfl
theorem n23 : R23.ntmps = 129 := rfl
theorem a23 {args : List Value} {H : AHeap} {Q : Value → AHeap → Prop} (h : AWP Go.Proofs.Tryz.prog none R23.code (Fin R23 Q) (args ++ List.replicate (R23.ntmps - args.length) undef) H) : ACall Go.Proofs.Tryz.prog 23 args H Q := acall_intro mo Go.Proofs.Tryz.func23 c23 h
def R24 : RFunc :=
  ⟨(.seq (.ops [⟨some 2,.new [.slice none 0 0,.int .i64 0],none⟩,⟨some 3,.mov (.const (.int .i64 0)),none⟩]) (.seq (.ops [⟨some 10,.mov (.tmp 0),none⟩,⟨some 11,.call (.func 44) [.tmp 10,.const (.int .u8 32)],none⟩,⟨some 4,.mov (.tmp 11),none⟩]) (.seq (.ops [⟨some 12,.build [.slice none 0 0,.int .i64 0] [],none⟩,⟨some 5,.new [.slice none 0 0,.int .i64 0],none⟩,⟨none,.store 2 (.tmp 5) (.tmp 12),none⟩]) (.seq (.seq (.ops [⟨some 6,.mov (.const (.int .i64 0)),none⟩]) (.block 0 (.loop (.seq (.seq (.ops [⟨some 13,.mov (.tmp 6),none⟩,⟨some 14,.mov (.tmp 4),none⟩,⟨some 15,.len (.tmp 14),none⟩,⟨some 16,.cmp .lss (.tmp 13) (.tmp 15),none⟩]) (.cond (.tmp 16) .skip (.exit 0))) (.seq (.block 1 (.seq (.ops [⟨some 20,.mov (.tmp 4),none⟩,⟨some 21,.mov (.tmp 6),none⟩,⟨some 22,.idxAddr 1 (.tmp 20) (.tmp 21),none⟩,⟨some 23,.load (.tmp 22),none⟩,⟨some 24,.call (.func 45) [.tmp 23,.const (.int .i64 4)],none⟩,⟨some 19,.mov (.tmp 24),none⟩,⟨some 25,.extract (.tmp 19) 0,none⟩,⟨some 26,.extract (.tmp 19) 1,none⟩,⟨some 7,.mov (.tmp 25),none⟩,⟨some 8,.mov (.tmp 26),none⟩]) (.seq (.seq (.ops [⟨some 27,.mov (.tmp 8),none⟩,⟨some 28,.not (.tmp 27),none⟩,⟨some 29,.mov (.tmp 28),none⟩,⟨some 30,.mov (.tmp 6),some (29,false)⟩,⟨some 31,.cmp .eql (.tmp 30) (.const (.int .i64 0)),some (29,false)⟩,⟨some 32,.mov (.tmp 31),some (29,false)⟩,⟨some 33,.mov (.tmp 4),some (32,true)⟩,⟨some 34,.mov (.tmp 6),some (32,true)⟩,⟨some 35,.idxAddr 1 (.tmp 33) (.tmp 34),some (32,true)⟩,⟨some 36,.load (.tmp 35),some (32,true)⟩,⟨some 37,.idxS (.tmp 36) (.const (.int .i64 0)),some (32,true)⟩,⟨some 38,.cmp .eql (.tmp 37) (.const (.int .u8 45)),some (32,true)⟩,⟨some 39,.pick (.tmp 32) (.tmp 38) (.const (.bool false)),some (29,false)⟩,⟨some 40,.pick (.tmp 29) (.const (.bool true)) (.tmp 39),none⟩]) (.cond (.tmp 40) (.seq (.ops [⟨some 41,.build [.slice none 0 0,.int .i64 0] [],none⟩,⟨none,.store 2 (.tmp 2) (.tmp 41),none⟩,⟨some 3,.mov (.const (.int .i64 7)),none⟩]) .ret) .skip)) (.seq (.ops [⟨some 42,.mov (.tmp 6),none⟩,⟨some 43,.cmp .eql (.tmp 42) (.const (.int .i64 0)),none⟩]) (.cond (.tmp 43) (.ops [⟨some 44,.mov (.tmp 7),none⟩,⟨some 45,.fieldAddr 1 (.tmp 5),none⟩,⟨none,.store 1 (.tmp 45) (.tmp 44),none⟩]) (.ops [⟨some 46,.fieldAddr 0 (.tmp 5),none⟩,⟨some 47,.load (.tmp 46),none⟩,⟨some 48,.mov (.tmp 7),none⟩,⟨some 49,.buildSlice 1 1 [.int .i64 0] [(0,(1,(.tmp 48)))],none⟩,⟨some 50,.append 1 8 (.tmp 47) (.tmp 49),none⟩,⟨some 51,.fieldAddr 0 (.tmp 5),none⟩,⟨none,.store 1 (.tmp 51) (.tmp 50),none⟩])))))) (.ops [⟨some 17,.mov (.tmp 6),none⟩,⟨some 18,.arith .add (.tmp 17) (.const (.int .i64 1)),none⟩,⟨some 6,.mov (.tmp 18),none⟩])))))) (.seq (.seq (.ops [⟨some 52,.loadN 2 (.tmp 5),none⟩,⟨some 53,.call (.func 30) [.tmp 52],none⟩,⟨some 9,.mov (.tmp 53),none⟩]) (.seq (.ops [⟨some 54,.mov (.tmp 9),none⟩,⟨some 55,.cmp .neq (.tmp 54) (.const (.int .i64 0)),none⟩]) (.cond (.tmp 55) (.seq (.ops [⟨some 56,.build [.slice none 0 0,.int .i64 0] [],none⟩,⟨some 57,.mov (.tmp 9),none⟩,⟨none,.store 2 (.tmp 2) (.tmp 56),none⟩,⟨some 3,.mov (.tmp 57),none⟩]) .ret) .skip))) (.seq (.ops [⟨some 58,.loadN 2 (.tmp 5),none⟩,⟨none,.store 2 (.tmp 2) (.tmp 58),none⟩,⟨some 3,.mov (.const (.int .i64 0)),none⟩]) .ret)))))),59,[(.loadN 2 2),(.tmp 3)]⟩
theorem c24 : compileFn Go.Proofs.Tryz.prog Go.Proofs.Tryz.f24 = some R24 := by kernel_rfl
theorem n24 : R24.ntmps = 59 := rfl
theorem a24 {args : List Value} {H : AHeap} {Q : Value → AHeap → Prop} (h : AWP Go.Proofs.Tryz.prog none R24.code (Fin R24 Q) (args ++ List.replicate (R24.ntmps - args.length) undef) H) : ACall Go.Proofs.Tryz.prog 24 args H Q := acall_intro mo Go.Proofs.Tryz.func24 c24 h
def R25 : RFunc :=
  ⟨(.seq (.ops [⟨some 1,.box (.tmp 0),none⟩,⟨some 2,.mov (.const (.string ⟨#[]⟩)),none⟩]) (.seq (.seq (.ops [⟨some 3,.fieldAddr 0 (.tmp 1),none⟩,⟨some 4,.load (.tmp 3),none⟩]) (.block 0 (.seq (.ops [⟨some 6,.cmp .eql (.tmp 4) (.const (.int .i64 0)),none⟩,⟨some 5,.mov (.tmp 6),none⟩]) (.cond (.tmp 5) (.seq (.ops [⟨some 7,.fieldAddr 1 (.tmp 1),none⟩,⟨some 8,.load (.tmp 7),none⟩,⟨some 9,.fieldAddr 2 (.tmp 1),none⟩,⟨some 10,.load (.tmp 9),none⟩,⟨some 11,.fieldAddr 3 (.tmp 1),none⟩,⟨some 12,.load (.tmp 11),none⟩,⟨some 13,.buildSlice 1 3 [.int .i64 0,.int .i64 0,.int .i64 0] [(0,(1,(.tmp 8))),(1,(1,(.tmp 10))),(2,(1,(.tmp 12)))],none⟩,⟨some 14,.call (.func 69) [.tmp 13],none⟩,⟨some 15,.strOp .add (.const (.string ⟨#[114,97,116,105,111,32]⟩)) (.tmp 14),none⟩,⟨some 2,.mov (.tmp 15),none⟩]) .ret) (.seq (.ops [⟨some 17,.cmp .eql (.tmp 4) (.const (.int .i64 1)),none⟩,⟨some 16,.mov (.tmp 17),none⟩]) (.cond (.tmp 16) (.seq (.draw [(⟨some 18,.fieldAddr 1 (.tmp 1),none⟩,false),(⟨some 19,.load (.tmp 18),none⟩,false),(⟨some 20,.fieldAddr 4 (.tmp 1),none⟩,false),(⟨some 21,.load (.tmp 20),none⟩,false),(⟨some 22,.buildSlice 1 2 [.int .i64 0,.int .i64 0] [(0,(1,(.tmp 19))),(1,(1,(.tmp 21)))],none⟩,false),(⟨some 23,.call (.func 69) [.tmp 22],none⟩,false),(⟨some 24,.strOp .add (.const (.string ⟨#[109,97,112,32]⟩)) (.tmp 23),none⟩,false),(⟨some 25,.strOp .add (.tmp 24) (.const (.string ⟨#[32]⟩)),none⟩,false),(⟨some 26,.fieldAddr 5 (.tmp 1),none⟩,false),(⟨some 27,.loadN 1 (.tmp 26),none⟩,false),(⟨some 28,.call (.func 70) [.tmp 27],none⟩,false),(⟨some 29,.strOp .add (.tmp 25) (.tmp 28),none⟩,false),(⟨some 2,.mov (.tmp 29),none⟩,false)]) .ret) .skip)))))) (.seq (.ops [⟨some 2,.mov (.const (.string ⟨#[]⟩)),none⟩]) .ret))),30,[.tmp 2]⟩
theorem c25 : compileFn Go.Proofs.Tryz.prog Go.Proofs.Tryz.f25 = some R25 := by kernel_rfl
theorem n25 : R25.ntmps = 30 := rfl
theorem a25 {args : List Value} {H : AHeap} {Q : Value → AHeap → Prop} (h : AWP Go.Proofs.Tryz.prog none R25.code (Fin R25 Q) (args ++ List.replicate (R25.ntmps - args.length) undef) H) : ACall Go.Proofs.Tryz.prog 25 args H Q := acall_intro mo Go.Proofs.Tryz.func25 c25 h
def R26 : RFunc :=
  ⟨(.seq (.ops [⟨some 1,.box (.tmp 0),none⟩,⟨some 2,.mov (.const (.string ⟨#[]⟩)),none⟩]) (.seq (.ops [⟨some 3,.fieldAddr 1 (.tmp 1),none⟩,⟨some 4,.load (.tmp 3),none⟩,⟨some 5,.buildSlice 1 1 [.int .i64 0] [(0,(1,(.tmp 4)))],none⟩,⟨some 6,.fieldAddr 0 (.tmp 1),none⟩,⟨some 7,.load (.tmp 6),none⟩,⟨some 8,.append 1 8 (.tmp 5) (.tmp 7),none⟩,⟨some 9,.call (.func 69) [.tmp 8],none⟩,⟨some 2,.mov (.tmp 9),none⟩]) .ret)),10,[.tmp 2]⟩
theorem c26 : compileFn Go.Proofs.Tryz.prog Go.Proofs.Tryz.f26 = some R26 := by kernel_rfl
theorem n26 : R26.ntmps = 10 := rfl
theorem a26 {args : List Value} {H : AHeap} {Q : Value → AHeap → Prop} (h : AWP Go.Proofs.Tryz.prog none R26.code (Fin R26 Q) (args ++ List.replicate (R26.ntmps - args.length) undef) H) : ACall Go.Proofs.Tryz.prog 26 args H Q := acall_intro mo Go.Proofs.Tryz.func26 c26 h
def R27 : RFunc :=
  ⟨(.seq (.ops [⟨some 2,.box (.tmp 0),none⟩,⟨some 3,.box (.tmp 1),none⟩,⟨some 4,.mov (.const (.bool false)),none⟩]) (.seq (.ops [⟨some 5,.fieldAddr 0 (.tmp 2),none⟩,⟨some 6,.load (.tmp 5),none⟩,⟨some 7,.fieldAddr 0 (.tmp 3),none⟩,⟨some 8,.load (.tmp 7),none⟩,⟨some 9,.cmp .eql (.tmp 6) (.tmp 8),none⟩,⟨some 10,.mov (.tmp 9),none⟩,⟨some 11,.fieldAddr 1 (.tmp 2),some (10,true)⟩,⟨some 12,.load (.tmp 11),some (10,true)⟩,⟨some 13,.fieldAddr 1 (.tmp 3),some (10,true)⟩,⟨some 14,.load (.tmp 13),some (10,true)⟩,⟨some 15,.cmp .eql (.tmp 12) (.tmp 14),some (10,true)⟩,⟨some 16,.pick (.tmp 10) (.tmp 15) (.const (.bool false)),none⟩,⟨some 17,.mov (.tmp 16),none⟩,⟨some 18,.fieldAddr 2 (.tmp 2),some (17,true)⟩,⟨some 19,.load (.tmp 18),some (17,true)⟩,⟨some 20,.fieldAddr 2 (.tmp 3),some (17,true)⟩,⟨some 21,.load (.tmp 20),some (17,true)⟩,⟨some 22,.cmp .eql (.tmp 19) (.tmp 21),some (17,true)⟩,⟨some 23,.pick (.tmp 17) (.tmp 22) (.const (.bool false)),none⟩,⟨some 24,.mov (.tmp 23),none⟩,⟨some 25,.fieldAddr 3 (.tmp 2),some (24,true)⟩,⟨some 26,.load (.tmp 25),some (24,true)⟩,⟨some 27,.fieldAddr 3 (.tmp 3),some (24,true)⟩,⟨some 28,.load (.tmp 27),some (24,true)⟩,⟨some 29,.cmp .eql (.tmp 26) (.tmp 28),some (24,true)⟩,⟨some 30,.pick (.tmp 24) (.tmp 29) (.const (.bool false)),none⟩,⟨some 31,.mov (.tmp 30),none⟩,⟨some 32,.fieldAddr 4 (.tmp 2),some (31,true)⟩,⟨some 33,.load (.tmp 32),some (31,true)⟩,⟨some 34,.fieldAddr 4 (.tmp 3),some (31,true)⟩,⟨some 35,.load (.tmp 34),some (31,true)⟩,⟨some 36,.cmp .eql (.tmp 33) (.tmp 35),some (31,true)⟩,⟨some 37,.pick (.tmp 31) (.tmp 36) (.const (.bool false)),none⟩,⟨some 38,.mov (.tmp 37),none⟩,⟨some 39,.fieldAddr 5 (.tmp 2),some (38,true)⟩,⟨some 40,.loadN 1 (.tmp 39),some (38,true)⟩,⟨some 41,.fieldAddr 5 (.tmp 3),some (38,true)⟩,⟨some 42,.loadN 1 (.tmp 41),some (38,true)⟩,⟨some 43,.call (.func 71) [.tmp 40,.tmp 42],some (38,true)⟩,⟨some 44,.pick (.tmp 38) (.tmp 43) (.const (.bool false)),none⟩,⟨some 4,.mov (.tmp 44),none⟩]) .ret)),45,[.tmp 4]⟩
theorem c27 : compileFn Go.Proofs.Tryz.prog Go.Proofs.Tryz.f27 = some R27 := by kernel_rfl
theorem n27 : R27.ntmps = 45 := rfl
theorem a27 {args : List Value} {H : AHeap} {Q : Value → AHeap → Prop} (h : AWP Go.Proofs.Tryz.prog none R27.code (Fin R27 Q) (args ++ List.replicate (R27.ntmps - args.length) undef) H) : ACall Go.Proofs.Tryz.prog 27 args H Q := acall_intro mo Go.Proofs.Tryz.func27 c27 h
def R28 : RFunc :=
  ⟨(.seq (.ops [⟨some 2,.box (.tmp 0),none⟩,⟨some 3,.box (.tmp 1),none⟩,⟨some 4,.mov (.const (.bool false)),none⟩]) (.seq (.ops [⟨some 5,.fieldAddr 1 (.tmp 2),none⟩,⟨some 6,.load (.tmp 5),none⟩,⟨some 7,.fieldAddr 1 (.tmp 3),none⟩,⟨some 8,.load (.tmp 7),none⟩,⟨some 9,.cmp .eql (.tmp 6) (.tmp 8),none⟩,⟨some 10,.mov (.tmp 9),none⟩,⟨some 11,.fieldAddr 0 (.tmp 2),some (10,true)⟩,⟨some 12,.load (.tmp 11),some (10,true)⟩,⟨some 13,.fieldAddr 0 (.tmp 3),some (10,true)⟩,⟨some 14,.load (.tmp 13),some (10,true)⟩,⟨some 15,.call (.func 12) [.tmp 12,.tmp 14],some (10,true)⟩,⟨some 16,.pick (.tmp 10) (.tmp 15) (.const (.bool false)),none⟩,⟨some 4,.mov (.tmp 16),none⟩]) .ret)),17,[.tmp 4]⟩
theorem c28 : compileFn Go.Proofs.Tryz.prog Go.Proofs.Tryz.f28 = some R28 := by kernel_rfl
theorem n28 : R28.ntmps = 17 := rfl
theorem a28 {args : List Value} {H : AHeap} {Q : Value → AHeap → Prop} (h : AWP Go.Proofs.Tryz.prog none R28.code (Fin R28 Q) (args ++ List.replicate (R28.ntmps - args.length) undef) H) : ACall Go.Proofs.Tryz.prog 28 args H Q := acall_intro mo Go.Proofs.Tryz.func28 c28 h
def R29 : RFunc :=
  ⟨(.seq (.ops [⟨some 1,.box (.tmp 0),none⟩,⟨some 2,.mov (.const (.int .i64 0)),none⟩]) (.seq (.seq (.ops [⟨some 5,.fieldAddr 0 (.tmp 1),none⟩,⟨some 6,.load (.tmp 5),none⟩,⟨some 7,.call (.func 47) [.tmp 6,.const (.int .i64 0),.const (.int .i64 1)],none⟩,⟨some 8,.not (.tmp 7),none⟩]) (.cond (.tmp 8) (.seq (.ops [⟨some 2,.mov (.const (.int .i64 15)),none⟩]) .ret) .skip)) (.seq (.seq (.ops [⟨some 9,.fieldAddr 1 (.tmp 1),none⟩,⟨some 10,.load (.tmp 9),none⟩,⟨some 11,.call (.func 72) [.tmp 10],none⟩,⟨some 3,.mov (.tmp 11),none⟩]) (.seq (.ops [⟨some 12,.mov (.tmp 3),none⟩,⟨some 13,.cmp .neq (.tmp 12) (.const (.int .i64 0)),none⟩]) (.cond (.tmp 13) (.seq (.ops [⟨some 14,.mov (.tmp 3),none⟩,⟨some 2,.mov (.tmp 14),none⟩]) .ret) .skip))) (.seq (.seq (.ops [⟨some 15,.fieldAddr 0 (.tmp 1),none⟩,⟨some 16,.load (.tmp 15),none⟩,⟨some 17,.cmp .eql (.tmp 16) (.const (.int .i64 0)),none⟩]) (.cond (.tmp 17) (.seq (.seq (.ops [⟨some 18,.fieldAddr 2 (.tmp 1),none⟩,⟨some 19,.load (.tmp 18),none⟩,⟨some 20,.call (.func 47) [.tmp 19,.const (.int .i64 1),.const (.int .i64 1000)],none⟩,⟨some 21,.not (.tmp 20),none⟩,⟨some 22,.mov (.tmp 21),none⟩,⟨some 23,.fieldAddr 3 (.tmp 1),some (22,false)⟩,⟨some 24,.load (.tmp 23),some (22,false)⟩,⟨some 25,.call (.func 47) [.tmp 24,.const (.int .i64 1),.const (.int .i64 1000)],some (22,false)⟩,⟨some 26,.not (.tmp 25),some (22,false)⟩,⟨some 27,.pick (.tmp 22) (.const (.bool true)) (.tmp 26),none⟩]) (.cond (.tmp 27) (.seq (.ops [⟨some 2,.mov (.const (.int .i64 2)),none⟩]) .ret) .skip)) (.seq (.seq (.ops [⟨some 28,.fieldAddr 4 (.tmp 1),none⟩,⟨some 29,.load (.tmp 28),none⟩,⟨some 30,.cmp .neq (.tmp 29) (.const (.int .i64 0)),none⟩,⟨some 31,.mov (.tmp 30),none⟩,⟨some 32,.fieldAddr 5 (.tmp 1),some (31,false)⟩,⟨some 33,.fieldAddr 0 (.tmp 32),some (31,false)⟩,⟨some 34,.load (.tmp 33),some (31,false)⟩,⟨some 35,.len (.tmp 34),some (31,false)⟩,⟨some 36,.cmp .neq (.tmp 35) (.const (.int .i64 0)),some (31,false)⟩,⟨some 37,.pick (.tmp 31) (.const (.bool true)) (.tmp 36),none⟩]) (.cond (.tmp 37) (.seq (.ops [⟨some 2,.mov (.const (.int .i64 3)),none⟩]) .ret) .skip)) (.seq (.ops [⟨some 2,.mov (.const (.int .i64 0)),none⟩]) .ret))) .skip)) (.seq (.seq (.ops [⟨some 38,.fieldAddr 5 (.tmp 1),none⟩,⟨some 39,.loadN 1 (.tmp 38),none⟩,⟨some 40,.call (.func 73) [.tmp 39],none⟩,⟨some 4,.mov (.tmp 40),none⟩]) (.seq (.ops [⟨some 41,.mov (.tmp 4),none⟩,⟨some 42,.cmp .neq (.tmp 41) (.const (.int .i64 0)),none⟩]) (.cond (.tmp 42) (.seq (.ops [⟨some 43,.mov (.tmp 4),none⟩,⟨some 2,.mov (.tmp 43),none⟩]) .ret) .skip))) (.seq (.seq (.ops [⟨some 44,.fieldAddr 4 (.tmp 1),none⟩,⟨some 45,.load (.tmp 44),none⟩,⟨some 46,.call (.func 47) [.tmp 45,.const (.int .i64 1),.const (.int .i64 1000000000000)],none⟩,⟨some 47,.not (.tmp 46),none⟩]) (.cond (.tmp 47) (.seq (.ops [⟨some 2,.mov (.const (.int .i64 2)),none⟩]) .ret) .skip)) (.seq (.seq (.ops [⟨some 48,.fieldAddr 2 (.tmp 1),none⟩,⟨some 49,.load (.tmp 48),none⟩,⟨some 50,.cmp .neq (.tmp 49) (.const (.int .i64 0)),none⟩,⟨some 51,.mov (.tmp 50),none⟩,⟨some 52,.fieldAddr 3 (.tmp 1),some (51,false)⟩,⟨some 53,.load (.tmp 52),some (51,false)⟩,⟨some 54,.cmp .neq (.tmp 53) (.const (.int .i64 0)),some (51,false)⟩,⟨some 55,.pick (.tmp 51) (.const (.bool true)) (.tmp 54),none⟩]) (.cond (.tmp 55) (.seq (.ops [⟨some 2,.mov (.const (.int .i64 3)),none⟩]) .ret) .skip)) (.seq (.ops [⟨some 2,.mov (.const (.int .i64 0)),none⟩]) .ret)))))))),56,[.tmp 2]⟩
theorem c29 : compileFn Go.Proofs.Tryz.prog Go.Proofs.Tryz.f29 = some R29 := by kernel_rfl
theorem n29 : R29.ntmps = 56 := rfl
theorem a29 {args : List Value} {H : AHeap} {Q : Value → AHeap → Prop} (h : AWP Go.Proofs.Tryz.prog none R29.code (Fin R29 Q) (args ++ List.replicate (R29.ntmps - args.length) undef) H) : ACall Go.Proofs.Tryz.prog 29 args H Q := acall_intro mo Go.Proofs.Tryz.func29 c29 h
def R30 : RFunc :=
  ⟨(.seq (.ops [⟨some 1,.box (.tmp 0),none⟩,⟨some 2,.mov (.const (.int .i64 0)),none⟩]) (.seq (.seq (.ops [⟨some 4,.fieldAddr 0 (.tmp 1),none⟩,⟨some 5,.load (.tmp 4),none⟩,⟨some 6,.len (.tmp 5),none⟩,⟨some 7,.cmp .eql (.tmp 6) (.const (.int .i64 0)),none⟩]) (.cond (.tmp 7) (.seq (.ops [⟨some 2,.mov (.const (.int .i64 10)),none⟩]) .ret) .skip)) (.seq (.seq (.ops [⟨some 8,.fieldAddr 0 (.tmp 1),none⟩,⟨some 9,.load (.tmp 8),none⟩,⟨some 10,.len (.tmp 9),none⟩,⟨some 11,.cmp .gtr (.tmp 10) (.const (.int .i64 8)),none⟩]) (.cond (.tmp 11) (.seq (.ops [⟨some 2,.mov (.const (.int .i64 8)),none⟩]) .ret) .skip)) (.seq (.seq (.ops [⟨some 3,.mov (.const (.int .i64 0)),none⟩]) (.block 0 (.loop (.seq (.seq (.ops [⟨some 12,.mov (.tmp 3),none⟩,⟨some 13,.fieldAddr 0 (.tmp 1),none⟩,⟨some 14,.load (.tmp 13),none⟩,⟨some 15,.len (.tmp 14),none⟩,⟨some 16,.cmp .lss (.tmp 12) (.tmp 15),none⟩]) (.cond (.tmp 16) .skip (.exit 0))) (.seq (.block 1 (.seq (.ops [⟨some 19,.fieldAddr 0 (.tmp 1),none⟩,⟨some 20,.load (.tmp 19),none⟩,⟨some 21,.mov (.tmp 3),none⟩,⟨some 22,.idxAddr 1 (.tmp 20) (.tmp 21),none⟩,⟨some 23,.load (.tmp 22),none⟩,⟨some 24,.call (.func 47) [(.tmp 23),(.const (.int .i64 (-1000))),(.const (.int .i64 1000))],none⟩,⟨some 25,.not (.tmp 24),none⟩]) (.cond (.tmp 25) (.seq (.ops [⟨some 2,.mov (.const (.int .i64 2)),none⟩]) .ret) .skip))) (.ops [⟨some 17,.mov (.tmp 3),none⟩,⟨some 18,.arith .add (.tmp 17) (.const (.int .i64 1)),none⟩,⟨some 3,.mov (.tmp 18),none⟩])))))) (.seq (.seq (.ops [⟨some 26,.fieldAddr 1 (.tmp 1),none⟩,⟨some 27,.load (.tmp 26),none⟩,⟨some 28,.call (.func 47) [.tmp 27,.const (.int .i64 1),.const (.int .i64 1000)],none⟩,⟨some 29,.not (.tmp 28),none⟩]) (.cond (.tmp 29) (.seq (.ops [⟨some 2,.mov (.const (.int .i64 2)),none⟩]) .ret) .skip)) (.seq (.ops [⟨some 2,.mov (.const (.int .i64 0)),none⟩]) .ret)))))),30,[.tmp 2]⟩
theorem c30 : compileFn Go.Proofs.Tryz.prog Go.Proofs.Tryz.f30 = some R30 := by kernel_rfl
theorem n30 : R30.ntmps = 30 := rfl
theorem a30 {args : List Value} {H : AHeap} {Q : Value → AHeap → Prop} (h : AWP Go.Proofs.Tryz.prog none R30.code (Fin R30 Q) (args ++ List.replicate (R30.ntmps - args.length) undef) H) : ACall Go.Proofs.Tryz.prog 30 args H Q := acall_intro mo Go.Proofs.Tryz.func30 c30 h
def R40 : RFunc :=
  ⟨(.seq (.ops [⟨some 4,.mov (.const .nilFunc),none⟩]) (.seq (.ops [⟨some 5,.mov (.tmp 0),none⟩,⟨some 6,.mov (.tmp 1),none⟩,⟨some 7,.call (.func 98) [.tmp 5,.tmp 6,.const (.int .i64 0)],none⟩,⟨some 4,.mov (.tmp 7),none⟩]) .ret)),8,[.tmp 4]⟩
theorem c40 : compileFn Go.Proofs.Tryz.prog Go.Proofs.Tryz.f40 = some R40 := by kernel_rfl
theorem n40 : R40.ntmps = 8 := rfl
theorem a40 {args : List Value} {H : AHeap} {Q : Value → AHeap → Prop} (h : AWP Go.Proofs.Tryz.prog none R40.code (Fin R40 Q) (args ++ List.replicate (R40.ntmps - args.length) undef) H) : ACall Go.Proofs.Tryz.prog 40 args H Q := acall_intro mo Go.Proofs.Tryz.func40 c40 h
def R44 : RFunc :=
  ⟨(.seq (.ops [⟨some 4,.mov (.const (.slice none 0 0)),none⟩]) (.seq (.ops [⟨some 5,.mov (.const (.slice none 0 0)),none⟩]) (.seq (.ops [⟨some 6,.mov (.const (.int .i64 0)),none⟩]) (.seq (.seq (.ops [⟨some 7,.mov (.const (.int .i64 0)),none⟩]) (.block 0 (.loop (.seq (.seq (.ops [⟨some 8,.mov (.tmp 7),none⟩,⟨some 9,.mov (.tmp 0),none⟩,⟨some 10,.lenS (.tmp 9),none⟩,⟨some 11,.cmp .lss (.tmp 8) (.tmp 10),none⟩]) (.cond (.tmp 11) .skip (.exit 0))) (.seq (.block 1 (.seq (.ops [⟨some 14,.mov (.tmp 0),none⟩,⟨some 15,.mov (.tmp 7),none⟩,⟨some 16,.idxS (.tmp 14) (.tmp 15),none⟩,⟨some 17,.mov (.tmp 1),none⟩,⟨some 18,.cmp .eql (.tmp 16) (.tmp 17),none⟩]) (.cond (.tmp 18) (.seq (.ops [⟨some 19,.mov (.tmp 5),none⟩,⟨some 20,.mov (.tmp 0),none⟩,⟨some 21,.mov (.tmp 6),none⟩,⟨some 22,.mov (.tmp 7),none⟩,⟨some 23,.sliceS (.tmp 20) (some (.tmp 21)) (some (.tmp 22)),none⟩,⟨some 24,.buildSlice 1 1 [(.string ⟨#[]⟩)] [(0,(1,(.tmp 23)))],none⟩,⟨some 25,.append 1 16 (.tmp 19) (.tmp 24),none⟩,⟨some 5,.mov (.tmp 25),none⟩]) (.ops [⟨some 26,.mov (.tmp 7),none⟩,⟨some 27,.arith .add (.tmp 26) (.const (.int .i64 1)),none⟩,⟨some 6,.mov (.tmp 27),none⟩])) .skip))) (.ops [⟨some 12,.mov (.tmp 7),none⟩,⟨some 13,.arith .add (.tmp 12) (.const (.int .i64 1)),none⟩,⟨some 7,.mov (.tmp 13),none⟩])))))) (.seq (.ops [⟨some 28,.mov (.tmp 5),none⟩,⟨some 29,.mov (.tmp 0),none⟩,⟨some 30,.mov (.tmp 6),none⟩,⟨some 31,.sliceS (.tmp 29) (some (.tmp 30)) none,none⟩,⟨some 32,.buildSlice 1 1 [(.string ⟨#[]⟩)] [(0,(1,(.tmp 31)))],none⟩,⟨some 33,.append 1 16 (.tmp 28) (.tmp 32),none⟩,⟨some 4,.mov (.tmp 33),none⟩]) .ret))))),34,[.tmp 4]⟩
theorem c44 : compileFn Go.Proofs.Tryz.prog Go.Proofs.Tryz.f44 = some R44 := by kernel_rfl
theorem n44 : R44.ntmps = 34 := rfl
theorem a44 {args : List Value} {H : AHeap} {Q : Value → AHeap → Prop} (h : AWP Go.Proofs.Tryz.prog none R44.code (Fin R44 Q) (args ++ List.replicate (R44.ntmps - args.length) undef) H) : ACall Go.Proofs.Tryz.prog 44 args H Q := acall_intro mo Go.Proofs.Tryz.func44 c44 h
def R45 : RFunc :=
  ⟨(.seq (.ops [⟨some 4,.mov (.const (.int .i64 0)),none⟩,⟨some 5,.mov (.const (.bool false)),none⟩]) (.seq (.ops [⟨some 6,.mov (.const (.int .i64 0)),none⟩]) (.seq (.seq (.ops [⟨some 9,.mov (.tmp 0),none⟩,⟨some 10,.lenS (.tmp 9),none⟩,⟨some 11,.cmp .gtr (.tmp 10) (.const (.int .i64 0)),none⟩,⟨some 12,.mov (.tmp 11),none⟩,⟨some 13,.mov (.tmp 0),some (12,true)⟩,⟨some 14,.idxS (.tmp 13) (.const (.int .i64 0)),some (12,true)⟩,⟨some 15,.cmp .eql (.tmp 14) (.const (.int .u8 45)),some (12,true)⟩,⟨some 16,.pick (.tmp 12) (.tmp 15) (.const (.bool false)),none⟩]) (.cond (.tmp 16) (.ops [⟨some 6,.mov (.const (.int .i64 1)),none⟩]) .skip)) (.seq (.seq (.ops [⟨some 17,.mov (.tmp 0),none⟩,⟨some 18,.lenS (.tmp 17),none⟩,⟨some 19,.mov (.tmp 6),none⟩,⟨some 20,.cmp .eql (.tmp 18) (.tmp 19),none⟩,⟨some 21,.mov (.tmp 20),none⟩,⟨some 22,.mov (.tmp 0),some (21,false)⟩,⟨some 23,.lenS (.tmp 22),some (21,false)⟩,⟨some 24,.mov (.tmp 6),some (21,false)⟩,⟨some 25,.arith .sub (.tmp 23) (.tmp 24),some (21,false)⟩,⟨some 26,.mov (.tmp 1),some (21,false)⟩,⟨some 27,.cmp .gtr (.tmp 25) (.tmp 26),some (21,false)⟩,⟨some 28,.pick (.tmp 21) (.const (.bool true)) (.tmp 27),none⟩,⟨some 29,.mov (.tmp 28),none⟩,⟨some 30,.mov (.tmp 0),some (29,false)⟩,⟨some 31,.mov (.tmp 6),some (29,false)⟩,⟨some 32,.idxS (.tmp 30) (.tmp 31),some (29,false)⟩,⟨some 33,.cmp .eql (.tmp 32) (.const (.int .u8 48)),some (29,false)⟩,⟨some 34,.mov (.tmp 33),some (29,false)⟩,⟨some 35,.mov (.tmp 0),some (34,true)⟩,⟨some 36,.lenS (.tmp 35),some (34,true)⟩,⟨some 37,.cmp .gtr (.tmp 36) (.const (.int .i64 1)),some (34,true)⟩,⟨some 38,.pick (.tmp 34) (.tmp 37) (.const (.bool false)),some (29,false)⟩,⟨some 39,.pick (.tmp 29) (.const (.bool true)) (.tmp 38),none⟩]) (.cond (.tmp 39) (.seq (.ops [⟨some 4,.mov (.const (.int .i64 0)),none⟩,⟨some 5,.mov (.const (.bool false)),none⟩]) .ret) .skip)) (.seq (.ops [⟨some 7,.mov (.const (.int .i64 0)),none⟩]) (.seq (.seq (.ops [⟨some 40,.mov (.tmp 6),none⟩,⟨some 8,.mov (.tmp 40),none⟩]) (.block 0 (.loop (.seq (.seq (.ops [⟨some 41,.mov (.tmp 8),none⟩,⟨some 42,.mov (.tmp 0),none⟩,⟨some 43,.lenS (.tmp 42),none⟩,⟨some 44,.cmp .lss (.tmp 41) (.tmp 43),none⟩]) (.cond (.tmp 44) .skip (.exit 0))) (.seq (.block 1 (.seq (.seq (.ops [⟨some 47,.mov (.tmp 0),none⟩,⟨some 48,.mov (.tmp 8),none⟩,⟨some 49,.idxS (.tmp 47) (.tmp 48),none⟩,⟨some 50,.cmp .lss (.tmp 49) (.const (.int .u8 48)),none⟩,⟨some 51,.mov (.tmp 50),none⟩,⟨some 52,.mov (.tmp 0),some (51,false)⟩,⟨some 53,.mov (.tmp 8),some (51,false)⟩,⟨some 54,.idxS (.tmp 52) (.tmp 53),some (51,false)⟩,⟨some 55,.cmp .gtr (.tmp 54) (.const (.int .u8 57)),some (51,false)⟩,⟨some 56,.pick (.tmp 51) (.const (.bool true)) (.tmp 55),none⟩]) (.cond (.tmp 56) (.seq (.ops [⟨some 4,.mov (.const (.int .i64 0)),none⟩,⟨some 5,.mov (.const (.bool false)),none⟩]) .ret) .skip)) (.ops [⟨some 57,.mov (.tmp 7),none⟩,⟨some 58,.arith .mul (.const (.int .i64 10)) (.tmp 57),none⟩,⟨some 59,.mov (.tmp 0),none⟩,⟨some 60,.mov (.tmp 8),none⟩,⟨some 61,.idxS (.tmp 59) (.tmp 60),none⟩,⟨some 62,.arith .sub (.tmp 61) (.const (.int .u8 48)),none⟩,⟨some 63,.conv .i64 (.tmp 62),none⟩,⟨some 64,.arith .add (.tmp 58) (.tmp 63),none⟩,⟨some 7,.mov (.tmp 64),none⟩]))) (.ops [⟨some 45,.mov (.tmp 8),none⟩,⟨some 46,.arith .add (.tmp 45) (.const (.int .i64 1)),none⟩,⟨some 8,.mov (.tmp 46),none⟩])))))) (.seq (.seq (.ops [⟨some 65,.mov (.tmp 6),none⟩,⟨some 66,.cmp .eql (.tmp 65) (.const (.int .i64 1)),none⟩]) (.cond (.tmp 66) (.ops [⟨some 67,.mov (.tmp 7),none⟩,⟨some 68,.neg (.tmp 67),none⟩,⟨some 7,.mov (.tmp 68),none⟩]) .skip)) (.seq (.ops [⟨some 69,.mov (.tmp 7),none⟩,⟨some 4,.mov (.tmp 69),none⟩,⟨some 5,.mov (.const (.bool true)),none⟩]) .ret)))))))),70,[.tmp 4,.tmp 5]⟩
theorem c45 : compileFn Go.Proofs.Tryz.prog Go.Proofs.Tryz.f45 = some R45 := by kernel_rfl
theorem n45 : R45.ntmps = 70 := rfl
theorem a45 {args : List Value} {H : AHeap} {Q : Value → AHeap → Prop} (h : AWP Go.Proofs.Tryz.prog none R45.code (Fin R45 Q) (args ++ List.replicate (R45.ntmps - args.length) undef) H) : ACall Go.Proofs.Tryz.prog 45 args H Q := acall_intro mo Go.Proofs.Tryz.func45 c45 h
def R46 : RFunc :=
  ⟨(.seq (.ops [⟨some 2,.mov (.const (.string ⟨#[]⟩)),none⟩]) (.seq (.seq (.ops [⟨some 6,.mov (.tmp 0),none⟩,⟨some 7,.cmp .eql (.tmp 6) (.const (.int .i64 0)),none⟩]) (.cond (.tmp 7) (.seq (.ops [⟨some 2,.mov (.const (.string ⟨#[48]⟩)),none⟩]) .ret) .skip)) (.seq (.ops [⟨some 3,.mov (.const (.string ⟨#[]⟩)),none⟩,⟨some 4,.mov (.const (.string ⟨#[]⟩)),none⟩]) (.seq (.seq (.ops [⟨some 8,.mov (.tmp 0),none⟩,⟨some 9,.cmp .lss (.tmp 8) (.const (.int .i64 0)),none⟩]) (.cond (.tmp 9) (.ops [⟨some 4,.mov (.const (.string ⟨#[45]⟩)),none⟩]) .skip)) (.seq (.block 0 (.loop (.seq (.seq (.ops [⟨some 10,.mov (.tmp 0),none⟩,⟨some 11,.cmp .neq (.tmp 10) (.const (.int .i64 0)),none⟩]) (.cond (.tmp 11) .skip (.exit 0))) (.block 1 (.seq (.ops [⟨some 12,.mov (.tmp 0),none⟩,⟨some 13,.arith .rem (.tmp 12) (.const (.int .i64 10)),none⟩,⟨some 5,.mov (.tmp 13),none⟩]) (.seq (.ops [⟨some 14,.mov (.tmp 5),none⟩,⟨some 15,.call (.func 104) [.tmp 14],none⟩,⟨some 16,.arith .add (.const (.int .i64 48)) (.tmp 15),none⟩,⟨some 17,.conv .u8 (.tmp 16),none⟩,⟨some 18,.buildSlice 1 1 [.int .u8 0] [(0,(1,(.tmp 17)))],none⟩,⟨some 19,.byteS (.tmp 18),none⟩,⟨some 20,.mov (.tmp 3),none⟩,⟨some 21,.strOp .add (.tmp 19) (.tmp 20),none⟩,⟨some 3,.mov (.tmp 21),none⟩]) (.ops [⟨some 22,.mov (.tmp 0),none⟩,⟨some 23,.arith .quo (.tmp 22) (.const (.int .i64 10)),none⟩,⟨some 0,.mov (.tmp 23),none⟩]))))))) (.seq (.ops [⟨some 24,.mov (.tmp 4),none⟩,⟨some 25,.mov (.tmp 3),none⟩,⟨some 26,.strOp .add (.tmp 24) (.tmp 25),none⟩,⟨some 2,.mov (.tmp 26),none⟩]) .ret)))))),27,[.tmp 2]⟩
theorem c46 : compileFn Go.Proofs.Tryz.prog Go.Proofs.Tryz.f46 = some R46 := by kernel_rfl
theorem n46 : R46.ntmps = 27 := rfl
theorem a46 {args : List Value} {H : AHeap} {Q : Value → AHeap → Prop} (h : AWP Go.Proofs.Tryz.prog none R46.code (Fin R46 Q) (args ++ List.replicate (R46.ntmps - args.length) undef) H) : ACall Go.Proofs.Tryz.prog 46 args H Q := acall_intro mo Go.Proofs.Tryz.func46 c46 h
def R47 : RFunc :=
  ⟨(.seq (.ops [⟨some 6,.mov (.const (.bool false)),none⟩]) (.seq (.ops [⟨some 7,.mov (.tmp 1),none⟩,⟨some 8,.mov (.tmp 0),none⟩,⟨some 9,.cmp .leq (.tmp 7) (.tmp 8),none⟩,⟨some 10,.mov (.tmp 9),none⟩,⟨some 11,.mov (.tmp 0),some (10,true)⟩,⟨some 12,.mov (.tmp 2),some (10,true)⟩,⟨some 13,.cmp .leq (.tmp 11) (.tmp 12),some (10,true)⟩,⟨some 14,.pick (.tmp 10) (.tmp 13) (.const (.bool false)),none⟩,⟨some 6,.mov (.tmp 14),none⟩]) .ret)),15,[.tmp 6]⟩
theorem c47 : compileFn Go.Proofs.Tryz.prog Go.Proofs.Tryz.f47 = some R47 := by kernel_rfl
theorem n47 : R47.ntmps = 15 := rfl
theorem a47 {args : List Value} {H : AHeap} {Q : Value → AHeap → Prop} (h : AWP Go.Proofs.Tryz.prog none R47.code (Fin R47 Q) (args ++ List.replicate (R47.ntmps - args.length) undef) H) : ACall Go.Proofs.Tryz.prog 47 args H Q := acall_intro mo Go.Proofs.Tryz.func47 c47 h
def R48 : RFunc :=
  ⟨(.seq (.ops [⟨some 6,.mov (.const (.int .i64 0)),none⟩,⟨some 7,.mov (.const (.int .i64 0)),none⟩,⟨some 8,.mov (.const (.int .i64 0)),none⟩]) (.seq (.seq (.ops [⟨some 11,.mov (.tmp 0),none⟩,⟨some 12,.call (.func 106) [.tmp 11],none⟩,⟨some 13,.mov (.tmp 1),none⟩,⟨some 14,.call (.func 107) [.tmp 13],none⟩,⟨some 15,.mov (.tmp 2),none⟩,⟨some 16,.mov (.tmp 1),none⟩,⟨some 17,.len (.tmp 16),none⟩,⟨some 18,.arith .sub (.tmp 17) (.const (.int .i64 1)),none⟩,⟨some 19,.arith .mul (.const (.int .i64 64)) (.tmp 18),none⟩,⟨some 20,.call (.func 108) [.tmp 15,.const (.int .i64 0),.tmp 19],none⟩,⟨some 21,.call (.func 61) [.tmp 20,.const (.int .i64 2)],none⟩,⟨some 22,.buildSlice 1 3 [.int .i64 0,.int .i64 0,.int .i64 0] [(0,(1,(.tmp 12))),(1,(1,(.tmp 14))),(2,(1,(.tmp 21)))],none⟩,⟨some 23,.call (.func 105) [.tmp 22],none⟩,⟨some 9,.mov (.tmp 23),none⟩]) (.seq (.ops [⟨some 24,.mov (.tmp 9),none⟩,⟨some 25,.cmp .neq (.tmp 24) (.const (.int .i64 0)),none⟩]) (.cond (.tmp 25) (.seq (.ops [⟨some 26,.mov (.tmp 9),none⟩,⟨some 6,.mov (.const (.int .i64 0)),none⟩,⟨some 7,.mov (.const (.int .i64 0)),none⟩,⟨some 8,.mov (.tmp 26),none⟩]) .ret) .skip))) (.seq (.ops [⟨some 27,.mov (.tmp 0),none⟩,⟨some 28,.idxAddrA 4 5 (.global 1) (.tmp 27),none⟩,⟨some 29,.loadN 5 (.tmp 28),none⟩,⟨some 10,.new [(.int .i64 0),(.int .i64 0),.nilFunc,.nilFunc,(.int .i64 0)],none⟩,⟨none,.store 5 (.tmp 10) (.tmp 29),none⟩]) (.seq (.draw [(⟨some 30,.loadN 5 (.tmp 10),none⟩,false),(⟨some 31,.mov (.tmp 1),none⟩,false),(⟨some 32,.mov (.tmp 2),none⟩,false),(⟨some 33,.call (.func 109) [.tmp 30,.tmp 31,.tmp 32],none⟩,false),(⟨some 34,.fieldAddr 1 (.tmp 10),none⟩,false),(⟨some 35,.load (.tmp 34),none⟩,false),(⟨some 6,.mov (.tmp 33),none⟩,false),(⟨some 7,.mov (.tmp 35),none⟩,false),(⟨some 8,.mov (.const (.int .i64 0)),none⟩,false)]) .ret)))),36,[.tmp 6,.tmp 7,.tmp 8]⟩
theorem c48 : compileFn Go.Proofs.Tryz.prog Go.Proofs.Tryz.f48 = some R48 := by kernel_rfl
def R49 : RFunc :=
  ⟨(.seq (.ops [⟨some 0,.mov (.const (.slice none 0 0)),none⟩]) (.seq (.ops [⟨some 1,.buildSlice 1 4 [.int .i64 0,.int .i64 0,.int .i64 0,.int .i64 0] [(0,(1,(.const (.int .i64 0)))),(1,(1,(.const (.int .i64 10)))),(2,(1,(.const (.int .i64 20)))),(3,(1,(.const (.int .i64 40))))],none⟩,⟨some 0,.mov (.tmp 1),none⟩]) .ret)),2,[.tmp 0]⟩
theorem c49 : compileFn Go.Proofs.Tryz.prog Go.Proofs.Tryz.f49 = some R49 := by kernel_rfl
def R50 : RFunc :=
  ⟨(.seq (.ops [⟨some 2,.box (.tmp 0),none⟩,⟨some 4,.mov (.const (.slice none 0 0)),none⟩,⟨some 5,.mov (.const (.int .i64 0)),none⟩]) (.seq (.seq (.ops [⟨some 13,.loadN 6 (.tmp 2),none⟩,⟨some 14,.call (.func 64) [.tmp 13],none⟩,⟨some 15,.mov (.tmp 1),none⟩,⟨some 16,.call (.func 107) [.tmp 15],none⟩,⟨some 17,.buildSlice 1 2 [.int .i64 0,.int .i64 0] [(0,(1,(.tmp 14))),(1,(1,(.tmp 16)))],none⟩,⟨some 18,.call (.func 105) [.tmp 17],none⟩,⟨some 6,.mov (.tmp 18),none⟩]) (.seq (.ops [⟨some 19,.mov (.tmp 6),none⟩,⟨some 20,.cmp .neq (.tmp 19) (.const (.int .i64 0)),none⟩]) (.cond (.tmp 20) (.seq (.ops [⟨some 21,.mov (.tmp 6),none⟩,⟨some 4,.mov (.const (.slice none 0 0)),none⟩,⟨some 5,.mov (.tmp 21),none⟩]) .ret) .skip))) (.seq (.ops [⟨some 23,.loadN 6 (.tmp 2),none⟩,⟨some 24,.mov (.tmp 1),none⟩,⟨some 25,.len (.tmp 24),none⟩,⟨some 26,.call (.func 110) [.tmp 23,.tmp 25],none⟩,⟨some 22,.mov (.tmp 26),none⟩,⟨some 27,.extract (.tmp 22) 0,none⟩,⟨some 28,.extract (.tmp 22) 1,none⟩,⟨some 7,.mov (.tmp 27),none⟩,⟨some 8,.mov (.tmp 28),none⟩]) (.seq (.seq (.ops [⟨some 29,.mov (.tmp 8),none⟩,⟨some 30,.cmp .neq (.tmp 29) (.const (.int .i64 0)),none⟩]) (.cond (.tmp 30) (.seq (.ops [⟨some 31,.mov (.tmp 8),none⟩,⟨some 4,.mov (.const (.slice none 0 0)),none⟩,⟨some 5,.mov (.tmp 31),none⟩]) .ret) .skip)) (.seq (.ops [⟨some 32,.fieldAddr 1 (.tmp 2),none⟩,⟨some 33,.load (.tmp 32),none⟩,⟨some 34,.idxAddrA 4 5 (.global 1) (.tmp 33),none⟩,⟨some 35,.loadN 5 (.tmp 34),none⟩,⟨some 9,.new [(.int .i64 0),(.int .i64 0),.nilFunc,.nilFunc,(.int .i64 0)],none⟩,⟨none,.store 5 (.tmp 9) (.tmp 35),none⟩]) (.seq (.seq (.ops [⟨some 36,.mov (.tmp 7),none⟩,⟨some 37,.len (.tmp 36),none⟩,⟨some 38,.mov (.const (.int .i64 0)),none⟩]) (.block 0 (.loop (.seq (.ops [⟨some 39,.cmp .lss (.tmp 38) (.tmp 37),none⟩]) (.seq (.cond (.tmp 39) .skip (.exit 0)) (.seq (.block 1 (.seq (.ops [⟨some 40,.mov (.tmp 38),none⟩,⟨some 41,.idxAddr 1 (.tmp 36) (.tmp 38),none⟩,⟨some 42,.load (.tmp 41),none⟩,⟨some 10,.mov (.tmp 40),none⟩,⟨some 11,.mov (.tmp 42),none⟩]) (.seq (.draw [(⟨some 43,.loadN 5 (.tmp 9),none⟩,false),(⟨some 44,.mov (.tmp 1),none⟩,false),(⟨some 45,.mov (.tmp 11),none⟩,false),(⟨some 46,.call (.func 109) [.tmp 43,.tmp 44,.tmp 45],none⟩,false),(⟨some 47,.arith .mul (.const (.int .i64 2)) (.tmp 46),none⟩,false),(⟨some 48,.fieldAddr 1 (.tmp 9),none⟩,false),(⟨some 49,.load (.tmp 48),none⟩,false),(⟨some 50,.arith .add (.tmp 47) (.tmp 49),none⟩,false),(⟨some 51,.fieldAddr 1 (.tmp 9),none⟩,false),(⟨some 52,.load (.tmp 51),none⟩,false),(⟨some 53,.arith .mul (.const (.int .i64 2)) (.tmp 52),none⟩,false),(⟨some 54,.call (.func 111) [.tmp 50,.tmp 53],none⟩,false),(⟨some 12,.mov (.tmp 54),none⟩,false)]) (.ops [⟨some 55,.mov (.tmp 7),none⟩,⟨some 56,.mov (.tmp 10),none⟩,⟨some 57,.mov (.tmp 12),none⟩,⟨some 58,.most true (.tmp 57) [(.const (.int .i64 (-32767)))],none⟩,⟨some 59,.most false (.tmp 58) [.const (.int .i64 32767)],none⟩,⟨some 60,.idxAddr 1 (.tmp 55) (.tmp 56),none⟩,⟨none,.store 1 (.tmp 60) (.tmp 59),none⟩])))) (.ops [⟨some 61,.arith .add (.tmp 38) (.const (.int .i64 1)),none⟩,⟨some 38,.mov (.tmp 61),none⟩]))))))) (.seq (.ops [⟨some 62,.mov (.tmp 7),none⟩,⟨some 4,.mov (.tmp 62),none⟩,⟨some 5,.mov (.const (.int .i64 0)),none⟩]) .ret))))))),63,[.tmp 4,.tmp 5]⟩
theorem c50 : compileFn Go.Proofs.Tryz.prog Go.Proofs.Tryz.f50 = some R50 := by kernel_rfl
def R51 : RFunc :=
  ⟨(.seq (.ops [⟨some 0,.new [.slice none 0 0],none⟩]) (.seq (.ops [⟨some 1,.build [.int .i64 0,.int .i64 0] [],none⟩,⟨some 2,.build [.int .i64 0,.int .i64 0] [(0,(1,(.const (.int .i64 2)))),(1,(1,(.const (.int .i64 20))))],none⟩,⟨some 3,.build [.int .i64 0,.int .i64 0] [(0,(1,(.const (.int .i64 3)))),(1,(1,(.const (.int .i64 40))))],none⟩,⟨some 4,.buildSlice 2 3 [.int .i64 0,.int .i64 0,.int .i64 0,.int .i64 0,.int .i64 0,.int .i64 0] [(0,(2,(.tmp 1))),(2,(2,(.tmp 2))),(4,(2,(.tmp 3)))],none⟩,⟨some 5,.build [.slice none 0 0] [(0,(1,(.tmp 4)))],none⟩,⟨none,.store 1 (.tmp 0) (.tmp 5),none⟩]) .ret)),6,[(.loadN 1 0)]⟩
theorem c51 : compileFn Go.Proofs.Tryz.prog Go.Proofs.Tryz.f51 = some R51 := by kernel_rfl
theorem a51 {args : List Value} {H : AHeap} {Q : Value → AHeap → Prop} (h : AWP Go.Proofs.Tryz.prog none R51.code (Fin R51 Q) (args ++ List.replicate (R51.ntmps - args.length) undef) H) : ACall Go.Proofs.Tryz.prog 51 args H Q := acall_intro mo Go.Proofs.Tryz.func51 c51 h
def R52 : RFunc :=
  ⟨(.seq (.ops [⟨some 2,.new [.int .i64 0,.int .i64 0],none⟩,⟨some 3,.mov (.const (.int .i64 0)),none⟩]) (.seq (.seq (.ops [⟨some 9,.mov (.tmp 0),none⟩,⟨some 10,.call (.func 106) [.tmp 9],none⟩,⟨some 4,.mov (.tmp 10),none⟩]) (.seq (.ops [⟨some 11,.mov (.tmp 4),none⟩,⟨some 12,.cmp .neq (.tmp 11) (.const (.int .i64 0)),none⟩]) (.cond (.tmp 12) (.seq (.ops [⟨some 13,.build [.int .i64 0,.int .i64 0] [],none⟩,⟨some 14,.mov (.tmp 4),none⟩,⟨none,.store 2 (.tmp 2) (.tmp 13),none⟩,⟨some 3,.mov (.tmp 14),none⟩]) .ret) .skip))) (.seq (.ops [⟨some 15,.mov (.tmp 0),none⟩,⟨some 16,.idxAddrA 4 5 (.global 1) (.tmp 15),none⟩,⟨some 17,.loadN 5 (.tmp 16),none⟩,⟨some 5,.new [(.int .i64 0),(.int .i64 0),.nilFunc,.nilFunc,(.int .i64 0)],none⟩,⟨none,.store 5 (.tmp 5) (.tmp 17),none⟩]) (.seq (.ops [⟨some 6,.mov (.const (.int .i64 0)),none⟩]) (.seq (.seq (.ops [⟨some 18,.mov (.const (.int .i64 0)),none⟩]) (.block 0 (.loop (.seq (.ops [⟨some 19,.cmp .lss (.tmp 18) (.const (.int .i64 64)),none⟩]) (.seq (.cond (.tmp 19) .skip (.exit 0)) (.seq (.block 1 (.seq (.ops [⟨some 20,.mov (.tmp 18),none⟩,⟨some 7,.mov (.tmp 20),none⟩]) (.seq (.ops [⟨some 21,.fieldAddr 3 (.tmp 5),none⟩,⟨some 22,.load (.tmp 21),none⟩,⟨some 23,.mov (.tmp 7),none⟩,⟨some 24,.call (.tmp 22) [.tmp 23],none⟩,⟨some 8,.mov (.tmp 24),none⟩]) (.ops [⟨some 25,.mov (.tmp 6),none⟩,⟨some 26,.mov (.tmp 8),none⟩,⟨some 27,.mov (.tmp 8),none⟩,⟨some 28,.neg (.tmp 27),none⟩,⟨some 29,.most true (.tmp 25) [.tmp 26,.tmp 28],none⟩,⟨some 6,.mov (.tmp 29),none⟩])))) (.ops [⟨some 30,.arith .add (.tmp 18) (.const (.int .i64 1)),none⟩,⟨some 18,.mov (.tmp 30),none⟩]))))))) (.seq (.ops [⟨some 31,.mov (.tmp 6),none⟩,⟨some 32,.fieldAddr 4 (.tmp 5),none⟩,⟨some 33,.load (.tmp 32),none⟩,⟨some 34,.call (.func 112) [.tmp 31,.tmp 33],none⟩,⟨none,.store 2 (.tmp 2) (.tmp 34),none⟩,⟨some 3,.mov (.const (.int .i64 0)),none⟩]) .ret)))))),35,[(.loadN 2 2),(.tmp 3)]⟩
theorem c52 : compileFn Go.Proofs.Tryz.prog Go.Proofs.Tryz.f52 = some R52 := by kernel_rfl
def R53 : RFunc :=
  ⟨(.seq (.ops [⟨some 2,.box (.tmp 0),none⟩,⟨some 4,.mov (.const (.int .i64 0)),none⟩,⟨some 5,.mov (.const (.int .i64 0)),none⟩]) (.seq (.seq (.draw [(⟨some 10,.loadN 3 (.tmp 2),none⟩,false),(⟨some 11,.call (.func 113) [.tmp 10],none⟩,false),(⟨some 12,.mov (.tmp 1),none⟩,false),(⟨some 13,.call (.func 114) [.tmp 12],none⟩,false),(⟨some 14,.loadN 3 (.tmp 2),none⟩,false),(⟨some 15,.call (.func 115) [.tmp 14],none⟩,false),(⟨some 16,.fieldAddr 2 (.tmp 2),none⟩,false),(⟨some 17,.load (.tmp 16),none⟩,false),(⟨some 18,.cmp .lss (.tmp 15) (.tmp 17),none⟩,false),(⟨some 19,.call (.func 61) [.tmp 18,.const (.int .i64 22)],none⟩,false),(⟨some 20,.buildSlice 1 3 [.int .i64 0,.int .i64 0,.int .i64 0] [(0,(1,(.tmp 11))),(1,(1,(.tmp 13))),(2,(1,(.tmp 19)))],none⟩,false),(⟨some 21,.call (.func 105) [.tmp 20],none⟩,false),(⟨some 6,.mov (.tmp 21),none⟩,false)]) (.seq (.ops [⟨some 22,.mov (.tmp 6),none⟩,⟨some 23,.cmp .neq (.tmp 22) (.const (.int .i64 0)),none⟩]) (.cond (.tmp 23) (.seq (.ops [⟨some 24,.mov (.tmp 6),none⟩,⟨some 4,.mov (.const (.int .i64 0)),none⟩,⟨some 5,.mov (.tmp 24),none⟩]) .ret) .skip))) (.seq (.ops [⟨some 7,.mov (.const (.int .i64 (-1))),none⟩,⟨some 8,.mov (.const (.int .i64 1000000000000000)),none⟩]) (.seq (.block 0 (.loop (.seq (.seq (.ops [⟨some 25,.mov (.tmp 7),none⟩,⟨some 26,.arith .add (.tmp 25) (.const (.int .i64 1)),none⟩,⟨some 27,.mov (.tmp 8),none⟩,⟨some 28,.cmp .lss (.tmp 26) (.tmp 27),none⟩]) (.cond (.tmp 28) .skip (.exit 0))) (.block 1 (.seq (.ops [⟨some 29,.mov (.tmp 7),none⟩,⟨some 30,.mov (.tmp 8),none⟩,⟨some 31,.arith .add (.tmp 29) (.tmp 30),none⟩,⟨some 32,.arith .quo (.tmp 31) (.const (.int .i64 2)),none⟩,⟨some 9,.mov (.tmp 32),none⟩]) (.seq (.ops [⟨some 33,.loadN 3 (.tmp 2),none⟩,⟨some 34,.mov (.tmp 1),none⟩,⟨some 35,.mov (.tmp 9),none⟩,⟨some 36,.call (.func 116) [.tmp 33,.tmp 34,.tmp 35],none⟩]) (.cond (.tmp 36) (.ops [⟨some 37,.mov (.tmp 9),none⟩,⟨some 8,.mov (.tmp 37),none⟩]) (.ops [⟨some 38,.mov (.tmp 9),none⟩,⟨some 7,.mov (.tmp 38),none⟩])))))))) (.seq (.ops [⟨some 39,.mov (.tmp 8),none⟩,⟨some 4,.mov (.tmp 39),none⟩,⟨some 5,.mov (.const (.int .i64 0)),none⟩]) .ret))))),40,[.tmp 4,.tmp 5]⟩
theorem c53 : compileFn Go.Proofs.Tryz.prog Go.Proofs.Tryz.f53 = some R53 := by kernel_rfl
theorem a53 {args : List Value} {H : AHeap} {Q : Value → AHeap → Prop} (h : AWP Go.Proofs.Tryz.prog none R53.code (Fin R53 Q) (args ++ List.replicate (R53.ntmps - args.length) undef) H) : ACall Go.Proofs.Tryz.prog 53 args H Q := acall_intro mo Go.Proofs.Tryz.func53 c53 h
def R54 : RFunc :=
  ⟨(.seq (.ops [⟨some 2,.mov (.const (.string ⟨#[]⟩)),none⟩]) (.seq (.ops [⟨some 3,.mov (.const (.slice none 0 0)),none⟩]) (.seq (.seq (.ops [⟨some 6,.mov (.tmp 0),none⟩,⟨some 7,.len (.tmp 6),none⟩,⟨some 8,.mov (.const (.int .i64 0)),none⟩]) (.block 0 (.loop (.seq (.ops [⟨some 9,.cmp .lss (.tmp 8) (.tmp 7),none⟩]) (.seq (.cond (.tmp 9) .skip (.exit 0)) (.seq (.block 1 (.seq (.ops [⟨some 10,.idxAddr 1 (.tmp 6) (.tmp 8),none⟩,⟨some 11,.load (.tmp 10),none⟩,⟨some 5,.mov (.tmp 11),none⟩]) (.ops [⟨some 12,.mov (.tmp 3),none⟩,⟨some 13,.mov (.tmp 5),none⟩,⟨some 14,.call (.func 38) [.tmp 13],none⟩,⟨some 15,.buildSlice 1 1 [(.string ⟨#[]⟩)] [(0,(1,(.tmp 14)))],none⟩,⟨some 16,.append 1 16 (.tmp 12) (.tmp 15),none⟩,⟨some 3,.mov (.tmp 16),none⟩]))) (.ops [⟨some 17,.arith .add (.tmp 8) (.const (.int .i64 1)),none⟩,⟨some 8,.mov (.tmp 17),none⟩]))))))) (.seq (.ops [⟨some 18,.mov (.tmp 3),none⟩,⟨some 19,.call (.func 39) [(.tmp 18),(.const (.string ⟨#[32]⟩))],none⟩,⟨some 2,.mov (.tmp 19),none⟩]) .ret)))),20,[.tmp 2]⟩
theorem c54 : compileFn Go.Proofs.Tryz.prog Go.Proofs.Tryz.f54 = some R54 := by kernel_rfl
theorem n54 : R54.ntmps = 20 := rfl
theorem a54 {args : List Value} {H : AHeap} {Q : Value → AHeap → Prop} (h : AWP Go.Proofs.Tryz.prog none R54.code (Fin R54 Q) (args ++ List.replicate (R54.ntmps - args.length) undef) H) : ACall Go.Proofs.Tryz.prog 54 args H Q := acall_intro mo Go.Proofs.Tryz.func54 c54 h
def R55 : RFunc :=
  ⟨(.seq (.ops [⟨some 1,.box (.tmp 0),none⟩,⟨some 2,.mov (.const (.string ⟨#[]⟩)),none⟩]) (.seq (.ops [⟨some 3,.mov (.const (.slice none 0 0)),none⟩]) (.seq (.seq (.ops [⟨some 6,.fieldAddr 0 (.tmp 1),none⟩,⟨some 7,.load (.tmp 6),none⟩,⟨some 8,.len (.tmp 7),none⟩,⟨some 9,.mov (.const (.int .i64 0)),none⟩]) (.block 0 (.loop (.seq (.ops [⟨some 10,.cmp .lss (.tmp 9) (.tmp 8),none⟩]) (.seq (.cond (.tmp 10) .skip (.exit 0)) (.seq (.block 1 (.seq (.ops [⟨some 11,.idxAddr 2 (.tmp 7) (.tmp 9),none⟩,⟨some 12,.loadN 2 (.tmp 11),none⟩,⟨some 5,.new [.int .i64 0,.int .i64 0],none⟩,⟨none,.store 2 (.tmp 5) (.tmp 12),none⟩]) (.draw [(⟨some 13,.mov (.tmp 3),none⟩,false),(⟨some 14,.fieldAddr 0 (.tmp 5),none⟩,false),(⟨some 15,.load (.tmp 14),none⟩,false),(⟨some 16,.call (.func 38) [.tmp 15],none⟩,false),(⟨some 17,.strOp .add (.tmp 16) (.const (.string ⟨#[64]⟩)),none⟩,false),(⟨some 18,.fieldAddr 1 (.tmp 5),none⟩,false),(⟨some 19,.load (.tmp 18),none⟩,false),(⟨some 20,.call (.func 38) [.tmp 19],none⟩,false),(⟨some 21,.strOp .add (.tmp 17) (.tmp 20),none⟩,false),(⟨some 22,.buildSlice 1 1 [(.string ⟨#[]⟩)] [(0,(1,(.tmp 21)))],none⟩,false),(⟨some 23,.append 1 16 (.tmp 13) (.tmp 22),none⟩,false),(⟨some 3,.mov (.tmp 23),none⟩,false)]))) (.ops [⟨some 24,.arith .add (.tmp 9) (.const (.int .i64 1)),none⟩,⟨some 9,.mov (.tmp 24),none⟩]))))))) (.seq (.ops [⟨some 25,.mov (.tmp 3),none⟩,⟨some 26,.call (.func 39) [(.tmp 25),(.const (.string ⟨#[32]⟩))],none⟩,⟨some 2,.mov (.tmp 26),none⟩]) .ret)))),27,[.tmp 2]⟩
theorem c55 : compileFn Go.Proofs.Tryz.prog Go.Proofs.Tryz.f55 = some R55 := by kernel_rfl
theorem n55 : R55.ntmps = 27 := rfl
theorem a55 {args : List Value} {H : AHeap} {Q : Value → AHeap → Prop} (h : AWP Go.Proofs.Tryz.prog none R55.code (Fin R55 Q) (args ++ List.replicate (R55.ntmps - args.length) undef) H) : ACall Go.Proofs.Tryz.prog 55 args H Q := acall_intro mo Go.Proofs.Tryz.func55 c55 h
def R56 : RFunc :=
  ⟨(.seq (.ops [⟨some 1,.box (.tmp 0),none⟩,⟨some 2,.new [.slice none 0 0],none⟩]) (.seq (.ops [⟨some 3,.buildSlice 2 0 [] [],none⟩,⟨some 4,.fieldAddr 0 (.tmp 1),none⟩,⟨some 5,.load (.tmp 4),none⟩,⟨some 6,.append 2 16 (.tmp 3) (.tmp 5),none⟩,⟨some 7,.build [.slice none 0 0] [(0,(1,(.tmp 6)))],none⟩,⟨none,.store 1 (.tmp 2) (.tmp 7),none⟩]) .ret)),8,[(.loadN 1 2)]⟩
theorem c56 : compileFn Go.Proofs.Tryz.prog Go.Proofs.Tryz.f56 = some R56 := by kernel_rfl
theorem n56 : R56.ntmps = 8 := rfl
theorem a56 {args : List Value} {H : AHeap} {Q : Value → AHeap → Prop} (h : AWP Go.Proofs.Tryz.prog none R56.code (Fin R56 Q) (args ++ List.replicate (R56.ntmps - args.length) undef) H) : ACall Go.Proofs.Tryz.prog 56 args H Q := acall_intro mo Go.Proofs.Tryz.func56 c56 h
def R58 : RFunc :=
  ⟨(.seq (.ops [⟨some 4,.mov (.const (.int .i64 0)),none⟩]) (.seq (.seq (.ops [⟨some 6,.mov (.tmp 0),none⟩,⟨some 7,.len (.tmp 6),none⟩,⟨some 8,.mov (.const (.int .i64 0)),none⟩]) (.block 0 (.loop (.seq (.ops [⟨some 9,.cmp .lss (.tmp 8) (.tmp 7),none⟩]) (.seq (.cond (.tmp 9) .skip (.exit 0)) (.seq (.block 1 (.seq (.ops [⟨some 10,.mov (.tmp 8),none⟩,⟨some 5,.mov (.tmp 10),none⟩]) (.seq (.ops [⟨some 11,.mov (.tmp 1),none⟩,⟨some 12,.mov (.tmp 0),none⟩,⟨some 13,.mov (.tmp 5),none⟩,⟨some 14,.idxAddr 1 (.tmp 12) (.tmp 13),none⟩,⟨some 15,.load (.tmp 14),none⟩,⟨some 16,.strOp .eql (.tmp 11) (.tmp 15),none⟩]) (.cond (.tmp 16) (.seq (.ops [⟨some 17,.mov (.tmp 5),none⟩,⟨some 4,.mov (.tmp 17),none⟩]) .ret) .skip)))) (.ops [⟨some 18,.arith .add (.tmp 8) (.const (.int .i64 1)),none⟩,⟨some 8,.mov (.tmp 18),none⟩]))))))) (.seq (.ops [⟨some 4,.mov (.const (.int .i64 (-1))),none⟩]) .ret))),19,[.tmp 4]⟩
theorem c58 : compileFn Go.Proofs.Tryz.prog Go.Proofs.Tryz.f58 = some R58 := by kernel_rfl
theorem n58 : R58.ntmps = 19 := rfl
theorem a58 {args : List Value} {H : AHeap} {Q : Value → AHeap → Prop} (h : AWP Go.Proofs.Tryz.prog none R58.code (Fin R58 Q) (args ++ List.replicate (R58.ntmps - args.length) undef) H) : ACall Go.Proofs.Tryz.prog 58 args H Q := acall_intro mo Go.Proofs.Tryz.func58 c58 h
def R59 : RFunc :=
  ⟨(.seq (.ops [⟨some 6,.mov (.const (.bool false)),none⟩]) (.seq (.seq (.ops [⟨some 11,.mov (.tmp 0),none⟩,⟨some 12,.len (.tmp 11),none⟩,⟨some 13,.mov (.tmp 2),none⟩,⟨some 14,.len (.tmp 13),none⟩,⟨some 15,.cmp .neq (.tmp 12) (.tmp 14),none⟩]) (.cond (.tmp 15) (.seq (.ops [⟨some 6,.mov (.const (.bool false)),none⟩]) .ret) .skip)) (.seq (.seq (.ops [⟨some 16,.mov (.tmp 0),none⟩,⟨some 17,.len (.tmp 16),none⟩,⟨some 18,.mov (.const (.int .i64 0)),none⟩]) (.block 0 (.loop (.seq (.ops [⟨some 19,.cmp .lss (.tmp 18) (.tmp 17),none⟩]) (.seq (.cond (.tmp 19) .skip (.exit 0)) (.seq (.block 1 (.seq (.ops [⟨some 20,.mov (.tmp 18),none⟩,⟨some 21,.idxAddr 1 (.tmp 16) (.tmp 18),none⟩,⟨some 22,.load (.tmp 21),none⟩,⟨some 7,.mov (.tmp 20),none⟩,⟨some 8,.mov (.tmp 22),none⟩]) (.seq (.ops [⟨some 24,.mov (.tmp 8),none⟩,⟨some 25,.mov (.tmp 1),none⟩,⟨some 26,.mov (.tmp 7),none⟩,⟨some 27,.idxAddr 1 (.tmp 25) (.tmp 26),none⟩,⟨some 28,.load (.tmp 27),none⟩,⟨some 29,.call (.func 65) [.tmp 24,.tmp 28],none⟩,⟨some 23,.mov (.tmp 29),none⟩,⟨some 30,.extract (.tmp 23) 0,none⟩,⟨some 31,.extract (.tmp 23) 1,none⟩,⟨some 9,.mov (.tmp 30),none⟩,⟨some 10,.mov (.tmp 31),none⟩]) (.seq (.seq (.ops [⟨some 32,.mov (.tmp 10),none⟩,⟨some 33,.not (.tmp 32),none⟩,⟨some 34,.mov (.tmp 33),none⟩,⟨some 35,.mov (.tmp 9),some (34,false)⟩,⟨some 36,.cmp .lss (.tmp 35) (.const (.int .i64 0)),some (34,false)⟩,⟨some 37,.pick (.tmp 34) (.const (.bool true)) (.tmp 36),none⟩]) (.cond (.tmp 37) (.seq (.ops [⟨some 6,.mov (.const (.bool false)),none⟩]) .ret) .skip)) (.ops [⟨some 38,.mov (.tmp 2),none⟩,⟨some 39,.mov (.tmp 7),none⟩,⟨some 40,.idxAddr 1 (.tmp 38) (.tmp 39),none⟩,⟨some 41,.load (.tmp 40),none⟩,⟨some 42,.mov (.tmp 9),none⟩,⟨some 43,.nilCheck (.tmp 41),none⟩,⟨none,.store 1 (.tmp 43) (.tmp 42),none⟩]))))) (.ops [⟨some 44,.arith .add (.tmp 18) (.const (.int .i64 1)),none⟩,⟨some 18,.mov (.tmp 44),none⟩]))))))) (.seq (.ops [⟨some 6,.mov (.const (.bool true)),none⟩]) .ret)))),45,[.tmp 6]⟩
theorem c59 : compileFn Go.Proofs.Tryz.prog Go.Proofs.Tryz.f59 = some R59 := by kernel_rfl
theorem n59 : R59.ntmps = 45 := rfl
theorem a59 {args : List Value} {H : AHeap} {Q : Value → AHeap → Prop} (h : AWP Go.Proofs.Tryz.prog none R59.code (Fin R59 Q) (args ++ List.replicate (R59.ntmps - args.length) undef) H) : ACall Go.Proofs.Tryz.prog 59 args H Q := acall_intro mo Go.Proofs.Tryz.func59 c59 h
def R61 : RFunc :=
  ⟨(.seq (.ops [⟨some 4,.mov (.const (.int .i64 0)),none⟩]) (.seq (.seq (.ops [⟨some 5,.mov (.tmp 0),none⟩]) (.cond (.tmp 5) (.seq (.ops [⟨some 4,.mov (.const (.int .i64 0)),none⟩]) .ret) .skip)) (.seq (.ops [⟨some 6,.mov (.tmp 1),none⟩,⟨some 4,.mov (.tmp 6),none⟩]) .ret))),7,[.tmp 4]⟩
theorem c61 : compileFn Go.Proofs.Tryz.prog Go.Proofs.Tryz.f61 = some R61 := by kernel_rfl
theorem n61 : R61.ntmps = 7 := rfl
theorem a61 {args : List Value} {H : AHeap} {Q : Value → AHeap → Prop} (h : AWP Go.Proofs.Tryz.prog none R61.code (Fin R61 Q) (args ++ List.replicate (R61.ntmps - args.length) undef) H) : ACall Go.Proofs.Tryz.prog 61 args H Q := acall_intro mo Go.Proofs.Tryz.func61 c61 h
def R63 : RFunc :=
  ⟨(.seq (.ops [⟨some 2,.new [.slice none 0 0],none⟩,⟨some 3,.new [.int .i64 0],none⟩]) (.seq (.seq (.ops [⟨some 14,.mov (.tmp 0),none⟩,⟨some 15,.lenS (.tmp 14),none⟩,⟨some 16,.cmp .gtr (.tmp 15) (.const (.int .i64 60000)),none⟩]) (.cond (.tmp 16) (.seq (.ops [⟨some 17,.build [.slice none 0 0] [],none⟩,⟨none,.store 1 (.tmp 2) (.tmp 17),none⟩,⟨none,.store 1 (.tmp 3) (.const (.int .i64 8)),none⟩]) .ret) .skip)) (.seq (.ops [⟨some 4,.new [.slice none 0 0],none⟩]) (.seq (.seq (.ops [⟨some 18,.mov (.tmp 0),none⟩,⟨some 19,.call (.func 40) [(.tmp 18),(.const (.string ⟨#[32]⟩))],none⟩]) (.block 0 (.rangeFunc (.tmp 19) [20] (.ops [⟨some 5,.mov (.tmp 20),none⟩]) (.block 1 (.seq (.ops [⟨some 22,.mov (.tmp 5),none⟩,⟨some 23,.call (.func 57) [(.tmp 22),(.const (.string ⟨#[64]⟩))],none⟩,⟨some 21,.mov (.tmp 23),none⟩,⟨some 24,.extract (.tmp 21) 0,none⟩,⟨some 25,.extract (.tmp 21) 1,none⟩,⟨some 26,.extract (.tmp 21) 2,none⟩,⟨some 6,.mov (.tmp 24),none⟩,⟨some 7,.mov (.tmp 25),none⟩,⟨some 8,.mov (.tmp 26),none⟩]) (.seq (.ops [⟨some 28,.mov (.tmp 6),none⟩,⟨some 29,.call (.func 119) [.tmp 28,.const (.int .i64 7)],none⟩,⟨some 27,.mov (.tmp 29),none⟩,⟨some 30,.extract (.tmp 27) 0,none⟩,⟨some 31,.extract (.tmp 27) 1,none⟩,⟨some 9,.mov (.tmp 30),none⟩,⟨some 10,.mov (.tmp 31),none⟩]) (.seq (.ops [⟨some 33,.mov (.tmp 7),none⟩,⟨some 34,.call (.func 119) [.tmp 33,.const (.int .i64 13)],none⟩,⟨some 32,.mov (.tmp 34),none⟩,⟨some 35,.extract (.tmp 32) 0,none⟩,⟨some 36,.extract (.tmp 32) 1,none⟩,⟨some 11,.mov (.tmp 35),none⟩,⟨some 12,.mov (.tmp 36),none⟩]) (.seq (.seq (.ops [⟨some 37,.mov (.tmp 10),none⟩,⟨some 38,.not (.tmp 37),none⟩,⟨some 39,.mov (.tmp 38),none⟩,⟨some 40,.mov (.tmp 12),some (39,false)⟩,⟨some 41,.not (.tmp 40),some (39,false)⟩,⟨some 42,.pick (.tmp 39) (.const (.bool true)) (.tmp 41),none⟩]) (.cond (.tmp 42) (.seq (.ops [⟨some 43,.build [.slice none 0 0] [],none⟩,⟨none,.store 1 (.tmp 2) (.tmp 43),none⟩,⟨none,.store 1 (.tmp 3) (.const (.int .i64 7)),none⟩]) .ret) .skip)) (.ops [⟨some 44,.fieldAddr 0 (.tmp 4),none⟩,⟨some 45,.load (.tmp 44),none⟩,⟨some 46,.mov (.tmp 9),none⟩,⟨some 47,.mov (.tmp 11),none⟩,⟨some 48,.build [.int .i64 0,.int .i64 0] [(0,(1,(.tmp 46))),(1,(1,(.tmp 47)))],none⟩,⟨some 49,.buildSlice 2 1 [.int .i64 0,.int .i64 0] [(0,(2,(.tmp 48)))],none⟩,⟨some 50,.append 2 16 (.tmp 45) (.tmp 49),none⟩,⟨some 51,.fieldAddr 0 (.tmp 4),none⟩,⟨none,.store 1 (.tmp 51) (.tmp 50),none⟩]))))))))) (.seq (.seq (.ops [⟨some 52,.loadN 1 (.tmp 4),none⟩,⟨some 53,.buildSlice 1 1 [.slice none 0 0] [(0,(1,(.tmp 52)))],none⟩,⟨some 54,.call (.func 120) [.tmp 53],none⟩,⟨some 13,.mov (.tmp 54),none⟩]) (.seq (.ops [⟨some 55,.mov (.tmp 13),none⟩,⟨some 56,.cmp .neq (.tmp 55) (.const (.int .i64 0)),none⟩]) (.cond (.tmp 56) (.seq (.ops [⟨some 57,.build [.slice none 0 0] [],none⟩,⟨some 58,.mov (.tmp 13),none⟩,⟨none,.store 1 (.tmp 2) (.tmp 57),none⟩,⟨none,.store 1 (.tmp 3) (.tmp 58),none⟩]) .ret) .skip))) (.seq (.ops [⟨some 59,.loadN 1 (.tmp 4),none⟩,⟨none,.store 1 (.tmp 2) (.tmp 59),none⟩,⟨none,.store 1 (.tmp 3) (.const (.int .i64 0)),none⟩]) .ret)))))),60,[(.loadN 1 2),(.load 3)]⟩
theorem c63 : compileFn Go.Proofs.Tryz.prog Go.Proofs.Tryz.f63 = some R63 := by kernel_rfl
theorem n63 : R63.ntmps = 60 := rfl
theorem a63 {args : List Value} {H : AHeap} {Q : Value → AHeap → Prop} (h : AWP Go.Proofs.Tryz.prog none R63.code (Fin R63 Q) (args ++ List.replicate (R63.ntmps - args.length) undef) H) : ACall Go.Proofs.Tryz.prog 63 args H Q := acall_intro mo Go.Proofs.Tryz.func63 c63 h
def R64 : RFunc :=
  ⟨(.seq (.ops [⟨some 1,.box (.tmp 0),none⟩,⟨some 2,.mov (.const (.int .i64 0)),none⟩]) (.seq (.seq (.draw [(⟨some 7,.fieldAddr 0 (.tmp 1),none⟩,false),(⟨some 8,.load (.tmp 7),none⟩,false),(⟨some 9,.call (.func 108) [.tmp 8,.const (.int .i64 0),.const (.int .i64 1)],none⟩,false),(⟨some 10,.call (.func 61) [.tmp 9,.const (.int .i64 15)],none⟩,false),(⟨some 11,.fieldAddr 1 (.tmp 1),none⟩,false),(⟨some 12,.load (.tmp 11),none⟩,false),(⟨some 13,.call (.func 106) [.tmp 12],none⟩,false),(⟨some 14,.buildSlice 1 2 [.int .i64 0,.int .i64 0] [(0,(1,(.tmp 10))),(1,(1,(.tmp 13)))],none⟩,false),(⟨some 15,.call (.func 105) [.tmp 14],none⟩,false),(⟨some 3,.mov (.tmp 15),none⟩,false)]) (.seq (.ops [⟨some 16,.mov (.tmp 3),none⟩,⟨some 17,.cmp .neq (.tmp 16) (.const (.int .i64 0)),none⟩]) (.cond (.tmp 17) (.seq (.ops [⟨some 18,.mov (.tmp 3),none⟩,⟨some 2,.mov (.tmp 18),none⟩]) .ret) .skip))) (.seq (.seq (.ops [⟨some 19,.fieldAddr 0 (.tmp 1),none⟩,⟨some 20,.load (.tmp 19),none⟩,⟨some 21,.cmp .eql (.tmp 20) (.const (.int .i64 0)),none⟩]) (.cond (.tmp 21) (.seq (.ops [⟨some 4,.mov (.func 121),none⟩]) (.seq (.draw [(⟨some 22,.mov (.tmp 4),none⟩,false),(⟨some 23,.fieldAddr 2 (.tmp 1),none⟩,false),(⟨some 24,.load (.tmp 23),none⟩,false),(⟨some 25,.call (.tmp 22) [.tmp 24],none⟩,false),(⟨some 26,.mov (.tmp 25),none⟩,false),(⟨some 27,.mov (.tmp 4),some (26,true)⟩,false),(⟨some 28,.fieldAddr 3 (.tmp 1),some (26,true)⟩,false),(⟨some 29,.load (.tmp 28),some (26,true)⟩,false),(⟨some 30,.call (.tmp 27) [.tmp 29],some (26,true)⟩,false),(⟨some 31,.pick (.tmp 26) (.tmp 30) (.const (.bool false)),none⟩,false),(⟨some 32,.call (.func 61) [.tmp 31,.const (.int .i64 2)],none⟩,false),(⟨some 33,.fieldAddr 4 (.tmp 1),none⟩,false),(⟨some 34,.load (.tmp 33),none⟩,false),(⟨some 35,.cmp .eql (.tmp 34) (.const (.int .i64 0)),none⟩,false),(⟨some 36,.mov (.tmp 35),none⟩,false),(⟨some 37,.fieldAddr 5 (.tmp 1),some (36,true)⟩,false),(⟨some 38,.fieldAddr 0 (.tmp 37),some (36,true)⟩,false),(⟨some 39,.load (.tmp 38),some (36,true)⟩,false),(⟨some 40,.len (.tmp 39),some (36,true)⟩,false),(⟨some 41,.cmp .eql (.tmp 40) (.const (.int .i64 0)),some (36,true)⟩,false),(⟨some 42,.pick (.tmp 36) (.tmp 41) (.const (.bool false)),none⟩,false),(⟨some 43,.call (.func 61) [.tmp 42,.const (.int .i64 3)],none⟩,false),(⟨some 44,.buildSlice 1 2 [.int .i64 0,.int .i64 0] [(0,(1,(.tmp 32))),(1,(1,(.tmp 43)))],none⟩,false),(⟨some 45,.call (.func 105) [.tmp 44],none⟩,false),(⟨some 2,.mov (.tmp 45),none⟩,false)]) .ret)) .skip)) (.seq (.ops [⟨some 47,.fieldAddr 5 (.tmp 1),none⟩,⟨some 48,.loadN 1 (.tmp 47),none⟩,⟨some 49,.call (.func 122) [.tmp 48],none⟩,⟨some 46,.mov (.tmp 49),none⟩,⟨some 50,.extract (.tmp 46) 0,none⟩,⟨some 51,.extract (.tmp 46) 1,none⟩,⟨some 5,.mov (.tmp 50),none⟩,⟨some 6,.mov (.tmp 51),none⟩]) (.seq (.draw [(⟨some 52,.mov (.tmp 6),none⟩,false),(⟨some 53,.fieldAddr 4 (.tmp 1),none⟩,false),(⟨some 54,.load (.tmp 53),none⟩,false),(⟨some 55,.call (.func 108) [.tmp 54,.const (.int .i64 1),.const (.int .i64 1000000000000)],none⟩,false),(⟨some 56,.call (.func 61) [.tmp 55,.const (.int .i64 2)],none⟩,false),(⟨some 57,.fieldAddr 2 (.tmp 1),none⟩,false),(⟨some 58,.load (.tmp 57),none⟩,false),(⟨some 59,.cmp .eql (.tmp 58) (.const (.int .i64 0)),none⟩,false),(⟨some 60,.mov (.tmp 59),none⟩,false),(⟨some 61,.fieldAddr 3 (.tmp 1),some (60,true)⟩,false),(⟨some 62,.load (.tmp 61),some (60,true)⟩,false),(⟨some 63,.cmp .eql (.tmp 62) (.const (.int .i64 0)),some (60,true)⟩,false),(⟨some 64,.pick (.tmp 60) (.tmp 63) (.const (.bool false)),none⟩,false),(⟨some 65,.call (.func 61) [.tmp 64,.const (.int .i64 3)],none⟩,false),(⟨some 66,.buildSlice 1 3 [.int .i64 0,.int .i64 0,.int .i64 0] [(0,(1,(.tmp 52))),(1,(1,(.tmp 56))),(2,(1,(.tmp 65)))],none⟩,false),(⟨some 67,.call (.func 105) [.tmp 66],none⟩,false),(⟨some 2,.mov (.tmp 67),none⟩,false)]) .ret))))),68,[.tmp 2]⟩
theorem c64 : compileFn Go.Proofs.Tryz.prog Go.Proofs.Tryz.f64 = some R64 := by kernel_rfl
theorem n64 : R64.ntmps = 68 := rfl
theorem a64 {args : List Value} {H : AHeap} {Q : Value → AHeap → Prop} (h : AWP Go.Proofs.Tryz.prog none R64.code (Fin R64 Q) (args ++ List.replicate (R64.ntmps - args.length) undef) H) : ACall Go.Proofs.Tryz.prog 64 args H Q := acall_intro mo Go.Proofs.Tryz.func64 c64 h
def R65 : RFunc :=
  ⟨(.seq (.ops [⟨some 4,.mov (.const (.int .i64 0)),none⟩,⟨some 5,.mov (.const (.bool false)),none⟩]) (.seq (.ops [⟨some 9,.mov (.tmp 0),none⟩,⟨some 10,.call (.func 41) [.tmp 9],none⟩,⟨some 8,.mov (.tmp 10),none⟩,⟨some 11,.extract (.tmp 8) 0,none⟩,⟨some 12,.extract (.tmp 8) 1,none⟩,⟨some 6,.mov (.tmp 11),none⟩,⟨some 7,.mov (.tmp 12),none⟩]) (.seq (.ops [⟨some 13,.mov (.tmp 6),none⟩,⟨some 14,.mov (.tmp 7),none⟩,⟨some 15,.eqv 4 false (.tmp 14) (.const .nilIface),none⟩,⟨some 16,.mov (.tmp 15),none⟩,⟨some 17,.mov (.tmp 6),some (16,true)⟩,⟨some 18,.call (.func 38) [.tmp 17],some (16,true)⟩,⟨some 19,.mov (.tmp 0),some (16,true)⟩,⟨some 20,.strOp .eql (.tmp 18) (.tmp 19),some (16,true)⟩,⟨some 21,.pick (.tmp 16) (.tmp 20) (.const (.bool false)),none⟩,⟨some 22,.mov (.tmp 21),none⟩,⟨some 23,.mov (.tmp 0),some (22,true)⟩,⟨some 24,.call (.func 42) [(.tmp 23),(.const (.string ⟨#[45]⟩))],some (22,true)⟩,⟨some 25,.lenS (.tmp 24),some (22,true)⟩,⟨some 26,.mov (.tmp 1),some (22,true)⟩,⟨some 27,.cmp .leq (.tmp 25) (.tmp 26),some (22,true)⟩,⟨some 28,.pick (.tmp 22) (.tmp 27) (.const (.bool false)),none⟩,⟨some 4,.mov (.tmp 13),none⟩,⟨some 5,.mov (.tmp 28),none⟩]) .ret))),29,[.tmp 4,.tmp 5]⟩
theorem c65 : compileFn Go.Proofs.Tryz.prog Go.Proofs.Tryz.f65 = some R65 := by kernel_rfl
theorem n65 : R65.ntmps = 29 := rfl
theorem a65 {args : List Value} {H : AHeap} {Q : Value → AHeap → Prop} (h : AWP Go.Proofs.Tryz.prog none R65.code (Fin R65 Q) (args ++ List.replicate (R65.ntmps - args.length) undef) H) : ACall Go.Proofs.Tryz.prog 65 args H Q := acall_intro mo Go.Proofs.Tryz.func65 c65 h
def R66 : RFunc :=
  ⟨(.seq (.ops [⟨some 1,.box (.tmp 0),none⟩,⟨some 2,.mov (.const (.int .i64 0)),none⟩]) (.seq (.ops [⟨some 4,.fieldAddr 0 (.tmp 1),none⟩,⟨some 5,.load (.tmp 4),none⟩,⟨some 6,.call (.func 102) [(.tmp 5),(.func 123)],none⟩,⟨some 3,.mov (.tmp 6),none⟩]) (.seq (.draw [(⟨some 7,.fieldAddr 0 (.tmp 1),none⟩,false),(⟨some 8,.load (.tmp 7),none⟩,false),(⟨some 9,.len (.tmp 8),none⟩,false),(⟨some 10,.cmp .gtr (.tmp 9) (.const (.int .i64 0)),none⟩,false),(⟨some 11,.call (.func 61) [.tmp 10,.const (.int .i64 10)],none⟩,false),(⟨some 12,.fieldAddr 0 (.tmp 1),none⟩,false),(⟨some 13,.load (.tmp 12),none⟩,false),(⟨some 14,.len (.tmp 13),none⟩,false),(⟨some 15,.cmp .leq (.tmp 14) (.const (.int .i64 8)),none⟩,false),(⟨some 16,.call (.func 61) [.tmp 15,.const (.int .i64 8)],none⟩,false),(⟨some 17,.mov (.tmp 3),none⟩,false),(⟨some 18,.not (.tmp 17),none⟩,false),(⟨some 19,.mov (.tmp 18),none⟩,false),(⟨some 20,.fieldAddr 1 (.tmp 1),some (19,true)⟩,false),(⟨some 21,.load (.tmp 20),some (19,true)⟩,false),(⟨some 22,.call (.func 125) [.tmp 21],some (19,true)⟩,false),(⟨some 23,.pick (.tmp 19) (.tmp 22) (.const (.bool false)),none⟩,false),(⟨some 24,.call (.func 61) [.tmp 23,.const (.int .i64 2)],none⟩,false),(⟨some 25,.buildSlice 1 3 [.int .i64 0,.int .i64 0,.int .i64 0] [(0,(1,(.tmp 11))),(1,(1,(.tmp 16))),(2,(1,(.tmp 24)))],none⟩,false),(⟨some 26,.call (.func 105) [.tmp 25],none⟩,false),(⟨some 2,.mov (.tmp 26),none⟩,false)]) .ret))),27,[.tmp 2]⟩
theorem c66 : compileFn Go.Proofs.Tryz.prog Go.Proofs.Tryz.f66 = some R66 := by kernel_rfl
theorem n66 : R66.ntmps = 27 := rfl
theorem a66 {args : List Value} {H : AHeap} {Q : Value → AHeap → Prop} (h : AWP Go.Proofs.Tryz.prog none R66.code (Fin R66 Q) (args ++ List.replicate (R66.ntmps - args.length) undef) H) : ACall Go.Proofs.Tryz.prog 66 args H Q := acall_intro mo Go.Proofs.Tryz.func66 c66 h
def R67 : RFunc :=
  ⟨(.seq (.ops [⟨some 4,.mov (.const (.int .i64 0)),none⟩,⟨some 5,.mov (.const (.bool false)),none⟩]) (.seq (.ops [⟨some 9,.mov (.tmp 0),none⟩,⟨some 10,.mov (.tmp 1),none⟩,⟨some 11,.call (.func 45) [.tmp 9,.tmp 10],none⟩,⟨some 8,.mov (.tmp 11),none⟩,⟨some 12,.extract (.tmp 8) 0,none⟩,⟨some 13,.extract (.tmp 8) 1,none⟩,⟨some 6,.mov (.tmp 12),none⟩,⟨some 7,.mov (.tmp 13),none⟩]) (.seq (.draw [(⟨some 14,.mov (.tmp 6),none⟩,false),(⟨some 15,.mov (.tmp 7),none⟩,false),(⟨some 16,.mov (.tmp 15),none⟩,false),(⟨some 17,.mov (.tmp 0),some (16,true)⟩,false),(⟨some 18,.idxS (.tmp 17) (.const (.int .i64 0)),some (16,true)⟩,false),(⟨some 19,.cmp .neq (.tmp 18) (.const (.int .u8 45)),some (16,true)⟩,false),(⟨some 20,.pick (.tmp 16) (.tmp 19) (.const (.bool false)),none⟩,false),(⟨some 4,.mov (.tmp 14),none⟩,false),(⟨some 5,.mov (.tmp 20),none⟩,false)]) .ret))),21,[.tmp 4,.tmp 5]⟩
theorem c67 : compileFn Go.Proofs.Tryz.prog Go.Proofs.Tryz.f67 = some R67 := by kernel_rfl
theorem n67 : R67.ntmps = 21 := rfl
theorem a67 {args : List Value} {H : AHeap} {Q : Value → AHeap → Prop} (h : AWP Go.Proofs.Tryz.prog none R67.code (Fin R67 Q) (args ++ List.replicate (R67.ntmps - args.length) undef) H) : ACall Go.Proofs.Tryz.prog 67 args H Q := acall_intro mo Go.Proofs.Tryz.func67 c67 h
def R68 : RFunc :=
  ⟨(.seq (.ops [⟨some 2,.new [.slice none 0 0],none⟩,⟨some 3,.mov (.const (.int .i64 0)),none⟩]) (.seq (.seq (.ops [⟨some 13,.mov (.tmp 0),none⟩,⟨some 14,.lenS (.tmp 13),none⟩,⟨some 15,.cmp .gtr (.tmp 14) (.const (.int .i64 60000)),none⟩]) (.cond (.tmp 15) (.seq (.ops [⟨some 16,.build [.slice none 0 0] [],none⟩,⟨none,.store 1 (.tmp 2) (.tmp 16),none⟩,⟨some 3,.mov (.const (.int .i64 8)),none⟩]) .ret) .skip)) (.seq (.ops [⟨some 4,.new [.slice none 0 0],none⟩]) (.seq (.ops [⟨some 17,.mov (.tmp 0),none⟩,⟨some 18,.call (.func 44) [.tmp 17,.const (.int .u8 32)],none⟩,⟨some 5,.mov (.tmp 18),none⟩]) (.seq (.seq (.ops [⟨some 6,.mov (.const (.int .i64 0)),none⟩]) (.block 0 (.loop (.seq (.seq (.ops [⟨some 19,.mov (.tmp 6),none⟩,⟨some 20,.mov (.tmp 5),none⟩,⟨some 21,.len (.tmp 20),none⟩,⟨some 22,.cmp .lss (.tmp 19) (.tmp 21),none⟩]) (.cond (.tmp 22) .skip (.exit 0))) (.seq (.block 1 (.seq (.ops [⟨some 25,.mov (.tmp 5),none⟩,⟨some 26,.mov (.tmp 6),none⟩,⟨some 27,.idxAddr 1 (.tmp 25) (.tmp 26),none⟩,⟨some 28,.load (.tmp 27),none⟩,⟨some 29,.call (.func 44) [.tmp 28,.const (.int .u8 64)],none⟩,⟨some 7,.mov (.tmp 29),none⟩]) (.seq (.seq (.ops [⟨some 30,.mov (.tmp 7),none⟩,⟨some 31,.len (.tmp 30),none⟩,⟨some 32,.cmp .neq (.tmp 31) (.const (.int .i64 2)),none⟩]) (.cond (.tmp 32) (.seq (.ops [⟨some 33,.build [.slice none 0 0] [],none⟩,⟨none,.store 1 (.tmp 2) (.tmp 33),none⟩,⟨some 3,.mov (.const (.int .i64 7)),none⟩]) .ret) .skip)) (.seq (.ops [⟨some 35,.mov (.tmp 7),none⟩,⟨some 36,.idxAddr 1 (.tmp 35) (.const (.int .i64 0)),none⟩,⟨some 37,.load (.tmp 36),none⟩,⟨some 38,.call (.func 126) [.tmp 37,.const (.int .i64 7)],none⟩,⟨some 34,.mov (.tmp 38),none⟩,⟨some 39,.extract (.tmp 34) 0,none⟩,⟨some 40,.extract (.tmp 34) 1,none⟩,⟨some 8,.mov (.tmp 39),none⟩,⟨some 9,.mov (.tmp 40),none⟩]) (.seq (.ops [⟨some 42,.mov (.tmp 7),none⟩,⟨some 43,.idxAddr 1 (.tmp 42) (.const (.int .i64 1)),none⟩,⟨some 44,.load (.tmp 43),none⟩,⟨some 45,.call (.func 126) [.tmp 44,.const (.int .i64 13)],none⟩,⟨some 41,.mov (.tmp 45),none⟩,⟨some 46,.extract (.tmp 41) 0,none⟩,⟨some 47,.extract (.tmp 41) 1,none⟩,⟨some 10,.mov (.tmp 46),none⟩,⟨some 11,.mov (.tmp 47),none⟩]) (.seq (.seq (.ops [⟨some 48,.mov (.tmp 9),none⟩,⟨some 49,.not (.tmp 48),none⟩,⟨some 50,.mov (.tmp 49),none⟩,⟨some 51,.mov (.tmp 11),some (50,false)⟩,⟨some 52,.not (.tmp 51),some (50,false)⟩,⟨some 53,.pick (.tmp 50) (.const (.bool true)) (.tmp 52),none⟩]) (.cond (.tmp 53) (.seq (.ops [⟨some 54,.build [.slice none 0 0] [],none⟩,⟨none,.store 1 (.tmp 2) (.tmp 54),none⟩,⟨some 3,.mov (.const (.int .i64 7)),none⟩]) .ret) .skip)) (.ops [⟨some 55,.fieldAddr 0 (.tmp 4),none⟩,⟨some 56,.load (.tmp 55),none⟩,⟨some 57,.mov (.tmp 8),none⟩,⟨some 58,.mov (.tmp 10),none⟩,⟨some 59,.build [.int .i64 0,.int .i64 0] [(0,(1,(.tmp 57))),(1,(1,(.tmp 58)))],none⟩,⟨some 60,.buildSlice 2 1 [.int .i64 0,.int .i64 0] [(0,(2,(.tmp 59)))],none⟩,⟨some 61,.append 2 16 (.tmp 56) (.tmp 60),none⟩,⟨some 62,.fieldAddr 0 (.tmp 4),none⟩,⟨none,.store 1 (.tmp 62) (.tmp 61),none⟩]))))))) (.ops [⟨some 23,.mov (.tmp 6),none⟩,⟨some 24,.arith .add (.tmp 23) (.const (.int .i64 1)),none⟩,⟨some 6,.mov (.tmp 24),none⟩])))))) (.seq (.seq (.ops [⟨some 63,.loadN 1 (.tmp 4),none⟩,⟨some 64,.call (.func 73) [.tmp 63],none⟩,⟨some 12,.mov (.tmp 64),none⟩]) (.seq (.ops [⟨some 65,.mov (.tmp 12),none⟩,⟨some 66,.cmp .neq (.tmp 65) (.const (.int .i64 0)),none⟩]) (.cond (.tmp 66) (.seq (.ops [⟨some 67,.build [.slice none 0 0] [],none⟩,⟨some 68,.mov (.tmp 12),none⟩,⟨none,.store 1 (.tmp 2) (.tmp 67),none⟩,⟨some 3,.mov (.tmp 68),none⟩]) .ret) .skip))) (.seq (.ops [⟨some 69,.loadN 1 (.tmp 4),none⟩,⟨none,.store 1 (.tmp 2) (.tmp 69),none⟩,⟨some 3,.mov (.const (.int .i64 0)),none⟩]) .ret))))))),70,[(.loadN 1 2),(.tmp 3)]⟩
theorem c68 : compileFn Go.Proofs.Tryz.prog Go.Proofs.Tryz.f68 = some R68 := by kernel_rfl
theorem n68 : R68.ntmps = 70 := rfl
theorem a68 {args : List Value} {H : AHeap} {Q : Value → AHeap → Prop} (h : AWP Go.Proofs.Tryz.prog none R68.code (Fin R68 Q) (args ++ List.replicate (R68.ntmps - args.length) undef) H) : ACall Go.Proofs.Tryz.prog 68 args H Q := acall_intro mo Go.Proofs.Tryz.func68 c68 h
def R69 : RFunc :=
  ⟨(.seq (.ops [⟨some 2,.mov (.const (.string ⟨#[]⟩)),none⟩]) (.seq (.ops [⟨some 3,.mov (.const (.string ⟨#[]⟩)),none⟩]) (.seq (.seq (.ops [⟨some 4,.mov (.const (.int .i64 0)),none⟩]) (.block 0 (.loop (.seq (.seq (.ops [⟨some 5,.mov (.tmp 4),none⟩,⟨some 6,.mov (.tmp 0),none⟩,⟨some 7,.len (.tmp 6),none⟩,⟨some 8,.cmp .lss (.tmp 5) (.tmp 7),none⟩]) (.cond (.tmp 8) .skip (.exit 0))) (.seq (.block 1 (.seq (.seq (.ops [⟨some 11,.mov (.tmp 4),none⟩,⟨some 12,.cmp .gtr (.tmp 11) (.const (.int .i64 0)),none⟩]) (.cond (.tmp 12) (.ops [⟨some 13,.mov (.tmp 3),none⟩,⟨some 14,.strOp .add (.tmp 13) (.const (.string ⟨#[32]⟩)),none⟩,⟨some 3,.mov (.tmp 14),none⟩]) .skip)) (.ops [⟨some 15,.mov (.tmp 3),none⟩,⟨some 16,.mov (.tmp 0),none⟩,⟨some 17,.mov (.tmp 4),none⟩,⟨some 18,.idxAddr 1 (.tmp 16) (.tmp 17),none⟩,⟨some 19,.load (.tmp 18),none⟩,⟨some 20,.call (.func 46) [.tmp 19],none⟩,⟨some 21,.strOp .add (.tmp 15) (.tmp 20),none⟩,⟨some 3,.mov (.tmp 21),none⟩]))) (.ops [⟨some 9,.mov (.tmp 4),none⟩,⟨some 10,.arith .add (.tmp 9) (.const (.int .i64 1)),none⟩,⟨some 4,.mov (.tmp 10),none⟩])))))) (.seq (.ops [⟨some 22,.mov (.tmp 3),none⟩,⟨some 2,.mov (.tmp 22),none⟩]) .ret)))),23,[.tmp 2]⟩
theorem c69 : compileFn Go.Proofs.Tryz.prog Go.Proofs.Tryz.f69 = some R69 := by kernel_rfl
theorem n69 : R69.ntmps = 23 := rfl
theorem a69 {args : List Value} {H : AHeap} {Q : Value → AHeap → Prop} (h : AWP Go.Proofs.Tryz.prog none R69.code (Fin R69 Q) (args ++ List.replicate (R69.ntmps - args.length) undef) H) : ACall Go.Proofs.Tryz.prog 69 args H Q := acall_intro mo Go.Proofs.Tryz.func69 c69 h
def R70 : RFunc :=
  ⟨(.seq (.ops [⟨some 1,.box (.tmp 0),none⟩,⟨some 2,.mov (.const (.string ⟨#[]⟩)),none⟩]) (.seq (.ops [⟨some 3,.mov (.const (.string ⟨#[]⟩)),none⟩]) (.seq (.seq (.ops [⟨some 4,.mov (.const (.int .i64 0)),none⟩]) (.block 0 (.loop (.seq (.seq (.ops [⟨some 5,.mov (.tmp 4),none⟩,⟨some 6,.fieldAddr 0 (.tmp 1),none⟩,⟨some 7,.load (.tmp 6),none⟩,⟨some 8,.len (.tmp 7),none⟩,⟨some 9,.cmp .lss (.tmp 5) (.tmp 8),none⟩]) (.cond (.tmp 9) .skip (.exit 0))) (.seq (.block 1 (.seq (.seq (.ops [⟨some 12,.mov (.tmp 4),none⟩,⟨some 13,.cmp .gtr (.tmp 12) (.const (.int .i64 0)),none⟩]) (.cond (.tmp 13) (.ops [⟨some 14,.mov (.tmp 3),none⟩,⟨some 15,.strOp .add (.tmp 14) (.const (.string ⟨#[32]⟩)),none⟩,⟨some 3,.mov (.tmp 15),none⟩]) .skip)) (.draw [(⟨some 16,.mov (.tmp 3),none⟩,false),(⟨some 17,.fieldAddr 0 (.tmp 1),none⟩,false),(⟨some 18,.load (.tmp 17),none⟩,false),(⟨some 19,.mov (.tmp 4),none⟩,false),(⟨some 20,.idxAddr 2 (.tmp 18) (.tmp 19),none⟩,false),(⟨some 21,.fieldAddr 0 (.tmp 20),none⟩,false),(⟨some 22,.load (.tmp 21),none⟩,false),(⟨some 23,.call (.func 46) [.tmp 22],none⟩,false),(⟨some 24,.strOp .add (.tmp 16) (.tmp 23),none⟩,false),(⟨some 25,.strOp .add (.tmp 24) (.const (.string ⟨#[64]⟩)),none⟩,false),(⟨some 26,.fieldAddr 0 (.tmp 1),none⟩,false),(⟨some 27,.load (.tmp 26),none⟩,false),(⟨some 28,.mov (.tmp 4),none⟩,false),(⟨some 29,.idxAddr 2 (.tmp 27) (.tmp 28),none⟩,false),(⟨some 30,.fieldAddr 1 (.tmp 29),none⟩,false),(⟨some 31,.load (.tmp 30),none⟩,false),(⟨some 32,.call (.func 46) [.tmp 31],none⟩,false),(⟨some 33,.strOp .add (.tmp 25) (.tmp 32),none⟩,false),(⟨some 3,.mov (.tmp 33),none⟩,false)]))) (.ops [⟨some 10,.mov (.tmp 4),none⟩,⟨some 11,.arith .add (.tmp 10) (.const (.int .i64 1)),none⟩,⟨some 4,.mov (.tmp 11),none⟩])))))) (.seq (.ops [⟨some 34,.mov (.tmp 3),none⟩,⟨some 2,.mov (.tmp 34),none⟩]) .ret)))),35,[.tmp 2]⟩
theorem c70 : compileFn Go.Proofs.Tryz.prog Go.Proofs.Tryz.f70 = some R70 := by kernel_rfl
theorem n70 : R70.ntmps = 35 := rfl
theorem a70 {args : List Value} {H : AHeap} {Q : Value → AHeap → Prop} (h : AWP Go.Proofs.Tryz.prog none R70.code (Fin R70 Q) (args ++ List.replicate (R70.ntmps - args.length) undef) H) : ACall Go.Proofs.Tryz.prog 70 args H Q := acall_intro mo Go.Proofs.Tryz.func70 c70 h
def R71 : RFunc :=
  ⟨(.seq (.ops [⟨some 2,.box (.tmp 0),none⟩,⟨some 3,.box (.tmp 1),none⟩,⟨some 4,.mov (.const (.bool false)),none⟩]) (.seq (.seq (.ops [⟨some 6,.fieldAddr 0 (.tmp 2),none⟩,⟨some 7,.load (.tmp 6),none⟩,⟨some 8,.len (.tmp 7),none⟩,⟨some 9,.fieldAddr 0 (.tmp 3),none⟩,⟨some 10,.load (.tmp 9),none⟩,⟨some 11,.len (.tmp 10),none⟩,⟨some 12,.cmp .neq (.tmp 8) (.tmp 11),none⟩]) (.cond (.tmp 12) (.seq (.ops [⟨some 4,.mov (.const (.bool false)),none⟩]) .ret) .skip)) (.seq (.seq (.ops [⟨some 5,.mov (.const (.int .i64 0)),none⟩]) (.block 0 (.loop (.seq (.seq (.ops [⟨some 13,.mov (.tmp 5),none⟩,⟨some 14,.fieldAddr 0 (.tmp 2),none⟩,⟨some 15,.load (.tmp 14),none⟩,⟨some 16,.len (.tmp 15),none⟩,⟨some 17,.cmp .lss (.tmp 13) (.tmp 16),none⟩]) (.cond (.tmp 17) .skip (.exit 0))) (.seq (.block 1 (.seq (.draw [(⟨some 20,.fieldAddr 0 (.tmp 2),none⟩,false),(⟨some 21,.load (.tmp 20),none⟩,false),(⟨some 22,.mov (.tmp 5),none⟩,false),(⟨some 23,.idxAddr 2 (.tmp 21) (.tmp 22),none⟩,false),(⟨some 24,.loadN 2 (.tmp 23),none⟩,false),(⟨some 25,.fieldAddr 0 (.tmp 3),none⟩,false),(⟨some 26,.load (.tmp 25),none⟩,false),(⟨some 27,.mov (.tmp 5),none⟩,false),(⟨some 28,.idxAddr 2 (.tmp 26) (.tmp 27),none⟩,false),(⟨some 29,.loadN 2 (.tmp 28),none⟩,false),(⟨some 30,.eqAgg true [(0,false),(1,false)] (.tmp 24) (.tmp 29),none⟩,false)]) (.cond (.tmp 30) (.seq (.ops [⟨some 4,.mov (.const (.bool false)),none⟩]) .ret) .skip))) (.ops [⟨some 18,.mov (.tmp 5),none⟩,⟨some 19,.arith .add (.tmp 18) (.const (.int .i64 1)),none⟩,⟨some 5,.mov (.tmp 19),none⟩])))))) (.seq (.ops [⟨some 4,.mov (.const (.bool true)),none⟩]) .ret)))),31,[.tmp 4]⟩
theorem c71 : compileFn Go.Proofs.Tryz.prog Go.Proofs.Tryz.f71 = some R71 := by kernel_rfl
theorem n71 : R71.ntmps = 31 := rfl
theorem a71 {args : List Value} {H : AHeap} {Q : Value → AHeap → Prop} (h : AWP Go.Proofs.Tryz.prog none R71.code (Fin R71 Q) (args ++ List.replicate (R71.ntmps - args.length) undef) H) : ACall Go.Proofs.Tryz.prog 71 args H Q := acall_intro mo Go.Proofs.Tryz.func71 c71 h
def R72 : RFunc :=
  ⟨(.seq (.ops [⟨some 2,.mov (.const (.int .i64 0)),none⟩]) (.seq (.seq (.ops [⟨some 3,.mov (.tmp 0),none⟩,⟨some 4,.cmp .neq (.tmp 3) (.const (.int .i64 1)),none⟩,⟨some 5,.mov (.tmp 4),none⟩,⟨some 6,.mov (.tmp 0),some (5,true)⟩,⟨some 7,.cmp .neq (.tmp 6) (.const (.int .i64 3)),some (5,true)⟩,⟨some 8,.pick (.tmp 5) (.tmp 7) (.const (.bool false)),none⟩]) (.cond (.tmp 8) (.seq (.ops [⟨some 2,.mov (.const (.int .i64 15)),none⟩]) .ret) .skip)) (.seq (.ops [⟨some 2,.mov (.const (.int .i64 0)),none⟩]) .ret))),9,[.tmp 2]⟩
theorem c72 : compileFn Go.Proofs.Tryz.prog Go.Proofs.Tryz.f72 = some R72 := by kernel_rfl
theorem n72 : R72.ntmps = 9 := rfl
theorem a72 {args : List Value} {H : AHeap} {Q : Value → AHeap → Prop} (h : AWP Go.Proofs.Tryz.prog none R72.code (Fin R72 Q) (args ++ List.replicate (R72.ntmps - args.length) undef) H) : ACall Go.Proofs.Tryz.prog 72 args H Q := acall_intro mo Go.Proofs.Tryz.func72 c72 h
def R73 : RFunc :=
  ⟨(.seq (.ops [⟨some 1,.box (.tmp 0),none⟩,⟨some 2,.mov (.const (.int .i64 0)),none⟩]) (.seq (.ops [⟨some 6,.loadN 1 (.tmp 1),none⟩,⟨some 7,.call (.func 127) [.tmp 6],none⟩,⟨some 5,.mov (.tmp 7),none⟩,⟨some 8,.extract (.tmp 5) 0,none⟩,⟨some 9,.extract (.tmp 5) 1,none⟩,⟨some 3,.mov (.tmp 8),none⟩,⟨some 4,.mov (.tmp 9),none⟩]) (.seq (.ops [⟨some 10,.mov (.tmp 4),none⟩,⟨some 2,.mov (.tmp 10),none⟩]) .ret))),11,[.tmp 2]⟩
theorem c73 : compileFn Go.Proofs.Tryz.prog Go.Proofs.Tryz.f73 = some R73 := by kernel_rfl
theorem n73 : R73.ntmps = 11 := rfl
theorem a73 {args : List Value} {H : AHeap} {Q : Value → AHeap → Prop} (h : AWP Go.Proofs.Tryz.prog none R73.code (Fin R73 Q) (args ++ List.replicate (R73.ntmps - args.length) undef) H) : ACall Go.Proofs.Tryz.prog 73 args H Q := acall_intro mo Go.Proofs.Tryz.func73 c73 h
def R98 : RFunc :=
  ⟨(.seq (.ops [⟨some 3,.box (.tmp 0),none⟩,⟨some 4,.box (.tmp 1),none⟩,⟨some 5,.box (.tmp 2),none⟩,⟨some 6,.mov (.const .nilFunc),none⟩]) (.seq (.ops [⟨some 7,.mkFunc (.func 140) [] [.tmp 4,.tmp 3,.tmp 5],none⟩,⟨some 6,.mov (.tmp 7),none⟩]) .ret)),8,[.tmp 6]⟩
theorem c98 : compileFn Go.Proofs.Tryz.prog Go.Proofs.Tryz.f98 = some R98 := by kernel_rfl
theorem n98 : R98.ntmps = 8 := rfl
theorem a98 {args : List Value} {H : AHeap} {Q : Value → AHeap → Prop} (h : AWP Go.Proofs.Tryz.prog none R98.code (Fin R98 Q) (args ++ List.replicate (R98.ntmps - args.length) undef) H) : ACall Go.Proofs.Tryz.prog 98 args H Q := acall_intro mo Go.Proofs.Tryz.func98 c98 h
def R102 : RFunc :=
  ⟨(.seq (.ops [⟨some 4,.mov (.const (.bool false)),none⟩]) (.seq (.ops [⟨some 5,.mov (.tmp 0),none⟩,⟨some 6,.mov (.tmp 1),none⟩,⟨some 7,.call (.func 149) [.tmp 5,.tmp 6],none⟩,⟨some 8,.cmp .geq (.tmp 7) (.const (.int .i64 0)),none⟩,⟨some 4,.mov (.tmp 8),none⟩]) .ret)),9,[.tmp 4]⟩
theorem c102 : compileFn Go.Proofs.Tryz.prog Go.Proofs.Tryz.f102 = some R102 := by kernel_rfl
theorem n102 : R102.ntmps = 9 := rfl
theorem a102 {args : List Value} {H : AHeap} {Q : Value → AHeap → Prop} (h : AWP Go.Proofs.Tryz.prog none R102.code (Fin R102 Q) (args ++ List.replicate (R102.ntmps - args.length) undef) H) : ACall Go.Proofs.Tryz.prog 102 args H Q := acall_intro mo Go.Proofs.Tryz.func102 c102 h
def R104 : RFunc :=
  ⟨(.seq (.ops [⟨some 2,.mov (.const (.int .i64 0)),none⟩]) (.seq (.ops [⟨some 3,.mov (.tmp 0),none⟩,⟨some 4,.mov (.tmp 0),none⟩,⟨some 5,.neg (.tmp 4),none⟩,⟨some 6,.most true (.tmp 3) [.tmp 5],none⟩,⟨some 2,.mov (.tmp 6),none⟩]) .ret)),7,[.tmp 2]⟩
theorem c104 : compileFn Go.Proofs.Tryz.prog Go.Proofs.Tryz.f104 = some R104 := by kernel_rfl
theorem n104 : R104.ntmps = 7 := rfl
theorem a104 {args : List Value} {H : AHeap} {Q : Value → AHeap → Prop} (h : AWP Go.Proofs.Tryz.prog none R104.code (Fin R104 Q) (args ++ List.replicate (R104.ntmps - args.length) undef) H) : ACall Go.Proofs.Tryz.prog 104 args H Q := acall_intro mo Go.Proofs.Tryz.func104 c104 h
def R105 : RFunc :=
  ⟨(.seq (.ops [⟨some 2,.mov (.const (.int .i64 0)),none⟩]) (.seq (.seq (.ops [⟨some 5,.mov (.tmp 0),none⟩,⟨some 6,.len (.tmp 5),none⟩,⟨some 7,.mov (.const (.int .i64 0)),none⟩]) (.block 0 (.loop (.seq (.ops [⟨some 8,.cmp .lss (.tmp 7) (.tmp 6),none⟩]) (.seq (.cond (.tmp 8) .skip (.exit 0)) (.seq (.block 1 (.seq (.ops [⟨some 9,.idxAddr 1 (.tmp 5) (.tmp 7),none⟩,⟨some 10,.load (.tmp 9),none⟩,⟨some 4,.mov (.tmp 10),none⟩]) (.seq (.ops [⟨some 11,.mov (.tmp 4),none⟩,⟨some 12,.cmp .neq (.tmp 11) (.const (.int .i64 0)),none⟩]) (.cond (.tmp 12) (.seq (.ops [⟨some 13,.mov (.tmp 4),none⟩,⟨some 2,.mov (.tmp 13),none⟩]) .ret) .skip)))) (.ops [⟨some 14,.arith .add (.tmp 7) (.const (.int .i64 1)),none⟩,⟨some 7,.mov (.tmp 14),none⟩]))))))) (.seq (.ops [⟨some 2,.mov (.const (.int .i64 0)),none⟩]) .ret))),15,[.tmp 2]⟩
theorem c105 : compileFn Go.Proofs.Tryz.prog Go.Proofs.Tryz.f105 = some R105 := by kernel_rfl
theorem n105 : R105.ntmps = 15 := rfl
theorem a105 {args : List Value} {H : AHeap} {Q : Value → AHeap → Prop} (h : AWP Go.Proofs.Tryz.prog none R105.code (Fin R105 Q) (args ++ List.replicate (R105.ntmps - args.length) undef) H) : ACall Go.Proofs.Tryz.prog 105 args H Q := acall_intro mo Go.Proofs.Tryz.func105 c105 h
def R106 : RFunc :=
  ⟨(.seq (.ops [⟨some 2,.mov (.const (.int .i64 0)),none⟩]) (.seq (.ops [⟨some 3,.mov (.tmp 0),none⟩,⟨some 4,.cmp .eql (.tmp 3) (.const (.int .i64 1)),none⟩,⟨some 5,.mov (.tmp 4),none⟩,⟨some 6,.mov (.tmp 0),some (5,false)⟩,⟨some 7,.cmp .eql (.tmp 6) (.const (.int .i64 3)),some (5,false)⟩,⟨some 8,.pick (.tmp 5) (.const (.bool true)) (.tmp 7),none⟩,⟨some 9,.call (.func 61) [.tmp 8,.const (.int .i64 15)],none⟩,⟨some 2,.mov (.tmp 9),none⟩]) .ret)),10,[.tmp 2]⟩
theorem c106 : compileFn Go.Proofs.Tryz.prog Go.Proofs.Tryz.f106 = some R106 := by kernel_rfl
theorem n106 : R106.ntmps = 10 := rfl
theorem a106 {args : List Value} {H : AHeap} {Q : Value → AHeap → Prop} (h : AWP Go.Proofs.Tryz.prog none R106.code (Fin R106 Q) (args ++ List.replicate (R106.ntmps - args.length) undef) H) : ACall Go.Proofs.Tryz.prog 106 args H Q := acall_intro mo Go.Proofs.Tryz.func106 c106 h
def R107 : RFunc :=
  ⟨(.seq (.ops [⟨some 2,.mov (.const (.int .i64 0)),none⟩]) (.seq (.ops [⟨some 4,.mov (.tmp 0),none⟩,⟨some 5,.call (.func 102) [(.tmp 4),(.func 150)],none⟩,⟨some 3,.mov (.tmp 5),none⟩]) (.seq (.ops [⟨some 6,.mov (.tmp 0),none⟩,⟨some 7,.len (.tmp 6),none⟩,⟨some 8,.cmp .leq (.tmp 7) (.const (.int .i64 400)),none⟩,⟨some 9,.call (.func 61) [.tmp 8,.const (.int .i64 8)],none⟩,⟨some 10,.mov (.tmp 3),none⟩,⟨some 11,.not (.tmp 10),none⟩,⟨some 12,.call (.func 61) [.tmp 11,.const (.int .i64 2)],none⟩,⟨some 13,.buildSlice 1 2 [.int .i64 0,.int .i64 0] [(0,(1,(.tmp 9))),(1,(1,(.tmp 12)))],none⟩,⟨some 14,.call (.func 105) [.tmp 13],none⟩,⟨some 2,.mov (.tmp 14),none⟩]) .ret))),15,[.tmp 2]⟩
theorem c107 : compileFn Go.Proofs.Tryz.prog Go.Proofs.Tryz.f107 = some R107 := by kernel_rfl
def R108 : RFunc :=
  ⟨(.seq (.ops [⟨some 6,.mov (.const (.bool false)),none⟩]) (.seq (.ops [⟨some 7,.mov (.tmp 1),none⟩,⟨some 8,.mov (.tmp 0),none⟩,⟨some 9,.cmp .leq (.tmp 7) (.tmp 8),none⟩,⟨some 10,.mov (.tmp 9),none⟩,⟨some 11,.mov (.tmp 0),some (10,true)⟩,⟨some 12,.mov (.tmp 2),some (10,true)⟩,⟨some 13,.cmp .leq (.tmp 11) (.tmp 12),some (10,true)⟩,⟨some 14,.pick (.tmp 10) (.tmp 13) (.const (.bool false)),none⟩,⟨some 6,.mov (.tmp 14),none⟩]) .ret)),15,[.tmp 6]⟩
theorem c108 : compileFn Go.Proofs.Tryz.prog Go.Proofs.Tryz.f108 = some R108 := by kernel_rfl
theorem n108 : R108.ntmps = 15 := rfl
theorem a108 {args : List Value} {H : AHeap} {Q : Value → AHeap → Prop} (h : AWP Go.Proofs.Tryz.prog none R108.code (Fin R108 Q) (args ++ List.replicate (R108.ntmps - args.length) undef) H) : ACall Go.Proofs.Tryz.prog 108 args H Q := acall_intro mo Go.Proofs.Tryz.func108 c108 h
end Go.Lq

namespace Go.Lq
open Go
def R109 : RFunc :=
  ⟨(.seq (.ops [⟨some 3,.box (.tmp 0),none⟩,⟨some 6,.mov (.const (.int .i64 0)),none⟩]) (.seq (.ops [⟨some 7,.mov (.const (.int .i64 0)),none⟩]) (.seq (.seq (.ops [⟨some 11,.fieldAddr 2 (.tmp 3),none⟩,⟨some 12,.load (.tmp 11),none⟩,⟨some 13,.mov (.tmp 2),none⟩,⟨some 14,.arith .rem (.tmp 13) (.const (.int .i64 64)),none⟩,⟨some 15,.call (.tmp 12) [.tmp 14],none⟩,⟨some 16,.len (.tmp 15),none⟩,⟨some 17,.mov (.const (.int .i64 0)),none⟩]) (.block 0 (.loop (.seq (.ops [⟨some 18,.cmp .lss (.tmp 17) (.tmp 16),none⟩]) (.seq (.cond (.tmp 18) .skip (.exit 0)) (.seq (.block 1 (.seq (.ops [⟨some 19,.mov (.tmp 17),none⟩,⟨some 20,.idxAddr 1 (.tmp 15) (.tmp 17),none⟩,⟨some 21,.load (.tmp 20),none⟩,⟨some 8,.mov (.tmp 19),none⟩,⟨some 9,.mov (.tmp 21),none⟩]) (.seq (.ops [⟨some 22,.mov (.tmp 2),none⟩,⟨some 23,.arith .quo (.tmp 22) (.const (.int .i64 64)),none⟩,⟨some 24,.fieldAddr 0 (.tmp 3),none⟩,⟨some 25,.load (.tmp 24),none⟩,⟨some 26,.arith .add (.tmp 23) (.tmp 25),none⟩,⟨some 27,.mov (.tmp 8),none⟩,⟨some 28,.arith .add (.tmp 26) (.tmp 27),none⟩,⟨some 10,.mov (.tmp 28),none⟩]) (.ops [⟨some 29,.mov (.tmp 7),none⟩,⟨some 30,.mov (.tmp 9),none⟩,⟨some 31,.mov (.tmp 1),none⟩,⟨some 32,.mov (.tmp 10),none⟩,⟨some 33,.most true (.tmp 32) [.const (.int .i64 0)],none⟩,⟨some 34,.mov (.tmp 1),none⟩,⟨some 35,.len (.tmp 34),none⟩,⟨some 36,.arith .sub (.tmp 35) (.const (.int .i64 1)),none⟩,⟨some 37,.most false (.tmp 33) [.tmp 36],none⟩,⟨some 38,.idxAddr 1 (.tmp 31) (.tmp 37),none⟩,⟨some 39,.load (.tmp 38),none⟩,⟨some 40,.arith .mul (.tmp 30) (.tmp 39),none⟩,⟨some 41,.arith .add (.tmp 29) (.tmp 40),none⟩,⟨some 7,.mov (.tmp 41),none⟩])))) (.ops [⟨some 42,.arith .add (.tmp 17) (.const (.int .i64 1)),none⟩,⟨some 17,.mov (.tmp 42),none⟩]))))))) (.seq (.ops [⟨some 43,.mov (.tmp 7),none⟩,⟨some 6,.mov (.tmp 43),none⟩]) .ret)))),44,[.tmp 6]⟩
theorem c109 : compileFn Go.Proofs.Tryz.prog Go.Proofs.Tryz.f109 = some R109 := by kernel_rfl
def R110 : RFunc :=
  ⟨(.seq (.ops [⟨some 2,.box (.tmp 0),none⟩,⟨some 3,.box (.tmp 1),none⟩,⟨some 4,.new [.slice none 0 0],none⟩,⟨some 5,.new [.int .i64 0],none⟩]) (.seq (.ops [⟨some 6,.new [.slice none 0 0],none⟩]) (.seq (.seq (.ops [⟨some 8,.loadN 6 (.tmp 2),none⟩,⟨some 9,.call (.func 152) [.tmp 8],none⟩]) (.block 0 (.rangeFunc (.tmp 9) [10] (.ops [⟨some 7,.mov (.tmp 10),none⟩]) (.block 1 (.seq (.seq (.ops [⟨some 11,.mov (.tmp 7),none⟩,⟨some 12,.load (.tmp 3),none⟩,⟨some 13,.arith .sub (.tmp 12) (.const (.int .i64 1)),none⟩,⟨some 14,.arith .mul (.const (.int .i64 64)) (.tmp 13),none⟩,⟨some 15,.cmp .gtr (.tmp 11) (.tmp 14),none⟩]) (.cond (.tmp 15) (.exit 0) .skip)) (.seq (.seq (.ops [⟨some 16,.load (.tmp 6),none⟩,⟨some 17,.len (.tmp 16),none⟩,⟨some 18,.cmp .eql (.tmp 17) (.const (.int .i64 2000)),none⟩]) (.cond (.tmp 18) (.seq (.ops [⟨none,.store 1 (.tmp 4) (.const (.slice none 0 0)),none⟩,⟨none,.store 1 (.tmp 5) (.const (.int .i64 8)),none⟩]) .ret) .skip)) (.ops [⟨some 19,.load (.tmp 6),none⟩,⟨some 20,.mov (.tmp 7),none⟩,⟨some 21,.buildSlice 1 1 [.int .i64 0] [(0,(1,(.tmp 20)))],none⟩,⟨some 22,.append 1 8 (.tmp 19) (.tmp 21),none⟩,⟨none,.store 1 (.tmp 6) (.tmp 22),none⟩]))))))) (.seq (.ops [⟨some 23,.load (.tmp 6),none⟩,⟨none,.store 1 (.tmp 4) (.tmp 23),none⟩,⟨none,.store 1 (.tmp 5) (.const (.int .i64 0)),none⟩]) .ret)))),24,[(.load 4),(.load 5)]⟩
theorem c110 : compileFn Go.Proofs.Tryz.prog Go.Proofs.Tryz.f110 = some R110 := by kernel_rfl
def R111 : RFunc :=
  ⟨(.seq (.ops [⟨some 4,.mov (.const (.int .i64 0)),none⟩]) (.seq (.seq (.ops [⟨some 5,.mov (.tmp 0),none⟩,⟨some 6,.cmp .lss (.tmp 5) (.const (.int .i64 0)),none⟩]) (.cond (.tmp 6) (.seq (.ops [⟨some 7,.mov (.tmp 1),none⟩,⟨some 8,.arith .sub (.tmp 7) (.const (.int .i64 1)),none⟩,⟨some 9,.mov (.tmp 0),none⟩,⟨some 10,.arith .sub (.tmp 8) (.tmp 9),none⟩,⟨some 11,.mov (.tmp 1),none⟩,⟨some 12,.arith .quo (.tmp 10) (.tmp 11),none⟩,⟨some 13,.neg (.tmp 12),none⟩,⟨some 4,.mov (.tmp 13),none⟩]) .ret) .skip)) (.seq (.ops [⟨some 14,.mov (.tmp 0),none⟩,⟨some 15,.mov (.tmp 1),none⟩,⟨some 16,.arith .quo (.tmp 14) (.tmp 15),none⟩,⟨some 4,.mov (.tmp 16),none⟩]) .ret))),17,[.tmp 4]⟩
theorem c111 : compileFn Go.Proofs.Tryz.prog Go.Proofs.Tryz.f111 = some R111 := by kernel_rfl
def R112 : RFunc :=
  ⟨(.seq (.ops [⟨some 4,.new [.int .i64 0,.int .i64 0],none⟩]) (.seq (.ops [⟨some 6,.mov (.tmp 0),none⟩,⟨some 7,.mov (.tmp 1),none⟩,⟨some 8,.call (.func 153) [.tmp 6,.tmp 7],none⟩,⟨some 5,.mov (.tmp 8),none⟩]) (.seq (.draw [(⟨some 9,.mov (.tmp 0),none⟩,false),(⟨some 10,.mov (.tmp 5),none⟩,false),(⟨some 11,.arith .quo (.tmp 9) (.tmp 10),none⟩,false),(⟨some 12,.mov (.tmp 1),none⟩,false),(⟨some 13,.mov (.tmp 5),none⟩,false),(⟨some 14,.arith .quo (.tmp 12) (.tmp 13),none⟩,false),(⟨some 15,.build [.int .i64 0,.int .i64 0] [(0,(1,(.tmp 11))),(1,(1,(.tmp 14)))],none⟩,false),(⟨none,.store 2 (.tmp 4) (.tmp 15),none⟩,false)]) .ret))),16,[(.loadN 2 4)]⟩
theorem c112 : compileFn Go.Proofs.Tryz.prog Go.Proofs.Tryz.f112 = some R112 := by kernel_rfl
def R113 : RFunc :=
  ⟨(.seq (.ops [⟨some 1,.box (.tmp 0),none⟩,⟨some 2,.mov (.const (.int .i64 0)),none⟩]) (.seq (.ops [⟨some 3,.fieldAddr 0 (.tmp 1),none⟩,⟨some 4,.load (.tmp 3),none⟩,⟨some 5,.call (.func 124) [.tmp 4],none⟩,⟨some 6,.mov (.tmp 5),none⟩,⟨some 7,.fieldAddr 1 (.tmp 1),some (6,true)⟩,⟨some 8,.load (.tmp 7),some (6,true)⟩,⟨some 9,.call (.func 124) [.tmp 8],some (6,true)⟩,⟨some 10,.pick (.tmp 6) (.tmp 9) (.const (.bool false)),none⟩,⟨some 11,.mov (.tmp 10),none⟩,⟨some 12,.fieldAddr 2 (.tmp 1),some (11,true)⟩,⟨some 13,.load (.tmp 12),some (11,true)⟩,⟨some 14,.call (.func 125) [.tmp 13],some (11,true)⟩,⟨some 15,.pick (.tmp 11) (.tmp 14) (.const (.bool false)),none⟩,⟨some 16,.call (.func 61) [.tmp 15,.const (.int .i64 2)],none⟩,⟨some 2,.mov (.tmp 16),none⟩]) .ret)),17,[.tmp 2]⟩
theorem c113 : compileFn Go.Proofs.Tryz.prog Go.Proofs.Tryz.f113 = some R113 := by kernel_rfl
def R114 : RFunc :=
  ⟨(.seq (.ops [⟨some 2,.mov (.const (.int .i64 0)),none⟩]) (.seq (.ops [⟨some 3,.mov (.tmp 0),none⟩,⟨some 4,.call (.func 108) [.tmp 3,.const (.int .i64 0),.const (.int .i64 32767)],none⟩,⟨some 5,.call (.func 61) [.tmp 4,.const (.int .i64 2)],none⟩,⟨some 2,.mov (.tmp 5),none⟩]) .ret)),6,[.tmp 2]⟩
theorem c114 : compileFn Go.Proofs.Tryz.prog Go.Proofs.Tryz.f114 = some R114 := by kernel_rfl
def R115 : RFunc :=
  ⟨(.seq (.ops [⟨some 1,.box (.tmp 0),none⟩,⟨some 2,.mov (.const (.int .i64 0)),none⟩]) (.seq (.draw [(⟨some 3,.fieldAddr 0 (.tmp 1),none⟩,false),(⟨some 4,.load (.tmp 3),none⟩,false),(⟨some 5,.fieldAddr 0 (.tmp 1),none⟩,false),(⟨some 6,.load (.tmp 5),none⟩,false),(⟨some 7,.call (.func 154) [.tmp 6],none⟩,false),(⟨some 8,.arith .mul (.tmp 4) (.tmp 7),none⟩,false),(⟨some 9,.fieldAddr 1 (.tmp 1),none⟩,false),(⟨some 10,.load (.tmp 9),none⟩,false),(⟨some 11,.fieldAddr 1 (.tmp 1),none⟩,false),(⟨some 12,.load (.tmp 11),none⟩,false),(⟨some 13,.call (.func 154) [.tmp 12],none⟩,false),(⟨some 14,.arith .mul (.tmp 10) (.tmp 13),none⟩,false),(⟨some 15,.arith .add (.tmp 8) (.tmp 14),none⟩,false),(⟨some 2,.mov (.tmp 15),none⟩,false)]) .ret)),16,[.tmp 2]⟩
theorem c115 : compileFn Go.Proofs.Tryz.prog Go.Proofs.Tryz.f115 = some R115 := by kernel_rfl
def R116 : RFunc :=
  ⟨(.seq (.ops [⟨some 3,.box (.tmp 0),none⟩,⟨some 6,.mov (.const (.bool false)),none⟩]) (.seq (.draw [(⟨some 7,.mov (.tmp 1),none⟩,false),(⟨some 8,.loadN 3 (.tmp 3),none⟩,false),(⟨some 9,.call (.func 115) [.tmp 8],none⟩,false),(⟨some 10,.neg (.tmp 9),none⟩,false),(⟨some 11,.mov (.tmp 2),none⟩,false),(⟨some 12,.arith .mul (.tmp 10) (.tmp 11),none⟩,false),(⟨some 13,.fieldAddr 2 (.tmp 3),none⟩,false),(⟨some 14,.load (.tmp 13),none⟩,false),(⟨some 15,.call (.func 111) [.tmp 12,.tmp 14],none⟩,false),(⟨some 16,.arith .sub (.tmp 7) (.tmp 15),none⟩,false),(⟨some 17,.mov (.tmp 2),none⟩,false),(⟨some 18,.cmp .leq (.tmp 16) (.tmp 17),none⟩,false),(⟨some 6,.mov (.tmp 18),none⟩,false)]) .ret)),19,[.tmp 6]⟩
theorem c116 : compileFn Go.Proofs.Tryz.prog Go.Proofs.Tryz.f116 = some R116 := by kernel_rfl
def R119 : RFunc :=
  ⟨(.seq (.ops [⟨some 4,.mov (.const (.int .i64 0)),none⟩,⟨some 5,.mov (.const (.bool false)),none⟩]) (.seq (.ops [⟨some 9,.mov (.tmp 0),none⟩,⟨some 10,.call (.func 41) [.tmp 9],none⟩,⟨some 8,.mov (.tmp 10),none⟩,⟨some 11,.extract (.tmp 8) 0,none⟩,⟨some 12,.extract (.tmp 8) 1,none⟩,⟨some 6,.mov (.tmp 11),none⟩,⟨some 7,.mov (.tmp 12),none⟩]) (.seq (.ops [⟨some 13,.mov (.tmp 6),none⟩,⟨some 14,.mov (.tmp 7),none⟩,⟨some 15,.eqv 4 false (.tmp 14) (.const .nilIface),none⟩,⟨some 16,.mov (.tmp 15),none⟩,⟨some 17,.mov (.tmp 6),some (16,true)⟩,⟨some 18,.cmp .geq (.tmp 17) (.const (.int .i64 0)),some (16,true)⟩,⟨some 19,.pick (.tmp 16) (.tmp 18) (.const (.bool false)),none⟩,⟨some 20,.mov (.tmp 19),none⟩,⟨some 21,.mov (.tmp 6),some (20,true)⟩,⟨some 22,.call (.func 38) [.tmp 21],some (20,true)⟩,⟨some 23,.mov (.tmp 0),some (20,true)⟩,⟨some 24,.strOp .eql (.tmp 22) (.tmp 23),some (20,true)⟩,⟨some 25,.pick (.tmp 20) (.tmp 24) (.const (.bool false)),none⟩,⟨some 26,.mov (.tmp 25),none⟩,⟨some 27,.mov (.tmp 0),some (26,true)⟩,⟨some 28,.lenS (.tmp 27),some (26,true)⟩,⟨some 29,.mov (.tmp 1),some (26,true)⟩,⟨some 30,.cmp .leq (.tmp 28) (.tmp 29),some (26,true)⟩,⟨some 31,.pick (.tmp 26) (.tmp 30) (.const (.bool false)),none⟩,⟨some 4,.mov (.tmp 13),none⟩,⟨some 5,.mov (.tmp 31),none⟩]) .ret))),32,[.tmp 4,.tmp 5]⟩
theorem c119 : compileFn Go.Proofs.Tryz.prog Go.Proofs.Tryz.f119 = some R119 := by kernel_rfl
theorem n119 : R119.ntmps = 32 := rfl
theorem a119 {args : List Value} {H : AHeap} {Q : Value → AHeap → Prop} (h : AWP Go.Proofs.Tryz.prog none R119.code (Fin R119 Q) (args ++ List.replicate (R119.ntmps - args.length) undef) H) : ACall Go.Proofs.Tryz.prog 119 args H Q := acall_intro mo Go.Proofs.Tryz.func119 c119 h
def R120 : RFunc :=
  ⟨(.seq (.ops [⟨some 2,.mov (.const (.int .i64 0)),none⟩]) (.seq (.seq (.ops [⟨some 7,.mov (.tmp 0),none⟩,⟨some 8,.len (.tmp 7),none⟩,⟨some 9,.mov (.const (.int .i64 0)),none⟩]) (.block 0 (.loop (.seq (.ops [⟨some 10,.cmp .lss (.tmp 9) (.tmp 8),none⟩]) (.seq (.cond (.tmp 10) .skip (.exit 0)) (.seq (.block 1 (.seq (.ops [⟨some 11,.idxAddr 1 (.tmp 7) (.tmp 9),none⟩,⟨some 12,.loadN 1 (.tmp 11),none⟩,⟨some 4,.new [.slice none 0 0],none⟩,⟨none,.store 1 (.tmp 4) (.tmp 12),none⟩]) (.seq (.ops [⟨some 14,.loadN 1 (.tmp 4),none⟩,⟨some 15,.call (.func 122) [.tmp 14],none⟩,⟨some 13,.mov (.tmp 15),none⟩,⟨some 16,.extract (.tmp 13) 0,none⟩,⟨some 17,.extract (.tmp 13) 1,none⟩,⟨some 5,.mov (.tmp 16),none⟩,⟨some 6,.mov (.tmp 17),none⟩]) (.seq (.ops [⟨some 18,.mov (.tmp 6),none⟩,⟨some 19,.cmp .neq (.tmp 18) (.const (.int .i64 0)),none⟩]) (.cond (.tmp 19) (.seq (.ops [⟨some 20,.mov (.tmp 6),none⟩,⟨some 2,.mov (.tmp 20),none⟩]) .ret) .skip))))) (.ops [⟨some 21,.arith .add (.tmp 9) (.const (.int .i64 1)),none⟩,⟨some 9,.mov (.tmp 21),none⟩]))))))) (.seq (.ops [⟨some 2,.mov (.const (.int .i64 0)),none⟩]) .ret))),22,[.tmp 2]⟩
theorem c120 : compileFn Go.Proofs.Tryz.prog Go.Proofs.Tryz.f120 = some R120 := by kernel_rfl
theorem n120 : R120.ntmps = 22 := rfl
theorem a120 {args : List Value} {H : AHeap} {Q : Value → AHeap → Prop} (h : AWP Go.Proofs.Tryz.prog none R120.code (Fin R120 Q) (args ++ List.replicate (R120.ntmps - args.length) undef) H) : ACall Go.Proofs.Tryz.prog 120 args H Q := acall_intro mo Go.Proofs.Tryz.func120 c120 h
def R121 : RFunc :=
  ⟨(.seq (.ops [⟨some 2,.mov (.const (.bool false)),none⟩]) (.seq (.ops [⟨some 3,.mov (.tmp 0),none⟩,⟨some 4,.call (.func 108) [.tmp 3,.const (.int .i64 1),.const (.int .i64 1000)],none⟩,⟨some 2,.mov (.tmp 4),none⟩]) .ret)),5,[.tmp 2]⟩
theorem c121 : compileFn Go.Proofs.Tryz.prog Go.Proofs.Tryz.f121 = some R121 := by kernel_rfl
theorem n121 : R121.ntmps = 5 := rfl
theorem a121 {args : List Value} {H : AHeap} {Q : Value → AHeap → Prop} (h : AWP Go.Proofs.Tryz.prog none R121.code (Fin R121 Q) (args ++ List.replicate (R121.ntmps - args.length) undef) H) : ACall Go.Proofs.Tryz.prog 121 args H Q := acall_intro mo Go.Proofs.Tryz.func121 c121 h
def R122 : RFunc :=
  ⟨(.seq (.ops [⟨some 1,.box (.tmp 0),none⟩,⟨some 2,.mov (.const (.int .i64 0)),none⟩,⟨some 3,.mov (.const (.int .i64 0)),none⟩]) (.seq (.seq (.draw [(⟨some 9,.fieldAddr 0 (.tmp 1),none⟩,false),(⟨some 10,.load (.tmp 9),none⟩,false),(⟨some 11,.len (.tmp 10),none⟩,false),(⟨some 12,.cmp .geq (.tmp 11) (.const (.int .i64 2)),none⟩,false),(⟨some 13,.call (.func 159) [.tmp 12,.const (.int .i64 10)],none⟩,false),(⟨some 14,.fieldAddr 0 (.tmp 1),none⟩,false),(⟨some 15,.load (.tmp 14),none⟩,false),(⟨some 16,.len (.tmp 15),none⟩,false),(⟨some 17,.cmp .leq (.tmp 16) (.const (.int .i64 20)),none⟩,false),(⟨some 18,.call (.func 159) [.tmp 17,.const (.int .i64 8)],none⟩,false),(⟨some 19,.buildSlice 1 2 [.int .i64 0,.int .i64 0] [(0,(1,(.tmp 13))),(1,(1,(.tmp 18)))],none⟩,false),(⟨some 20,.call (.func 158) [.tmp 19],none⟩,false),(⟨some 4,.mov (.tmp 20),none⟩,false)]) (.seq (.ops [⟨some 21,.mov (.tmp 4),none⟩,⟨some 22,.cmp .neq (.tmp 21) (.const (.int .i64 0)),none⟩]) (.cond (.tmp 22) (.seq (.ops [⟨some 23,.mov (.tmp 4),none⟩,⟨some 2,.mov (.const (.int .i64 0)),none⟩,⟨some 3,.mov (.tmp 23),none⟩]) .ret) .skip))) (.seq (.ops [⟨some 24,.build [.int .i64 0,.int .i64 0] [(0,(1,(.const (.int .i64 (-1))))),(1,(1,(.const (.int .i64 (-1)))))],none⟩,⟨some 5,.new [.int .i64 0,.int .i64 0],none⟩,⟨none,.store 2 (.tmp 5) (.tmp 24),none⟩]) (.seq (.seq (.ops [⟨some 25,.fieldAddr 0 (.tmp 1),none⟩,⟨some 26,.load (.tmp 25),none⟩,⟨some 27,.len (.tmp 26),none⟩,⟨some 28,.mov (.const (.int .i64 0)),none⟩]) (.block 0 (.loop (.seq (.ops [⟨some 29,.cmp .lss (.tmp 28) (.tmp 27),none⟩]) (.seq (.cond (.tmp 29) .skip (.exit 0)) (.seq (.block 1 (.seq (.ops [⟨some 30,.mov (.tmp 28),none⟩,⟨some 31,.idxAddr 2 (.tmp 26) (.tmp 28),none⟩,⟨some 32,.loadN 2 (.tmp 31),none⟩,⟨some 7,.new [.int .i64 0,.int .i64 0],none⟩,⟨some 6,.mov (.tmp 30),none⟩,⟨none,.store 2 (.tmp 7) (.tmp 32),none⟩]) (.seq (.seq (.draw [(⟨some 33,.fieldAddr 0 (.tmp 7),none⟩,false),(⟨some 34,.load (.tmp 33),none⟩,false),(⟨some 35,.call (.func 160) [.tmp 34],none⟩,false),(⟨some 36,.mov (.tmp 35),none⟩,false),(⟨some 37,.fieldAddr 1 (.tmp 7),some (36,true)⟩,false),(⟨some 38,.load (.tmp 37),some (36,true)⟩,false),(⟨some 39,.call (.func 161) [.tmp 38],some (36,true)⟩,false),(⟨some 40,.pick (.tmp 36) (.tmp 39) (.const (.bool false)),none⟩,false),(⟨some 41,.call (.func 159) [.tmp 40,.const (.int .i64 2)],none⟩,false),(⟨some 42,.fieldAddr 0 (.tmp 7),none⟩,false),(⟨some 43,.load (.tmp 42),none⟩,false),(⟨some 44,.fieldAddr 0 (.tmp 5),none⟩,false),(⟨some 45,.load (.tmp 44),none⟩,false),(⟨some 46,.cmp .gtr (.tmp 43) (.tmp 45),none⟩,false),(⟨some 47,.mov (.tmp 46),none⟩,false),(⟨some 48,.fieldAddr 1 (.tmp 7),some (47,true)⟩,false),(⟨some 49,.load (.tmp 48),some (47,true)⟩,false),(⟨some 50,.fieldAddr 1 (.tmp 5),some (47,true)⟩,false),(⟨some 51,.load (.tmp 50),some (47,true)⟩,false),(⟨some 52,.cmp .gtr (.tmp 49) (.tmp 51),some (47,true)⟩,false),(⟨some 53,.pick (.tmp 47) (.tmp 52) (.const (.bool false)),none⟩,false),(⟨some 54,.call (.func 159) [.tmp 53,.const (.int .i64 9)],none⟩,false),(⟨some 55,.buildSlice 1 2 [.int .i64 0,.int .i64 0] [(0,(1,(.tmp 41))),(1,(1,(.tmp 54)))],none⟩,false),(⟨some 56,.call (.func 158) [.tmp 55],none⟩,false),(⟨some 8,.mov (.tmp 56),none⟩,false)]) (.seq (.ops [⟨some 57,.mov (.tmp 8),none⟩,⟨some 58,.cmp .neq (.tmp 57) (.const (.int .i64 0)),none⟩]) (.cond (.tmp 58) (.seq (.ops [⟨some 59,.mov (.tmp 6),none⟩,⟨some 60,.mov (.tmp 8),none⟩,⟨some 2,.mov (.tmp 59),none⟩,⟨some 3,.mov (.tmp 60),none⟩]) .ret) .skip))) (.ops [⟨some 61,.loadN 2 (.tmp 7),none⟩,⟨none,.store 2 (.tmp 5) (.tmp 61),none⟩])))) (.ops [⟨some 62,.arith .add (.tmp 28) (.const (.int .i64 1)),none⟩,⟨some 28,.mov (.tmp 62),none⟩]))))))) (.seq (.ops [⟨some 2,.mov (.const (.int .i64 0)),none⟩,⟨some 3,.mov (.const (.int .i64 0)),none⟩]) .ret))))),63,[.tmp 2,.tmp 3]⟩
theorem c122 : compileFn Go.Proofs.Tryz.prog Go.Proofs.Tryz.f122 = some R122 := by kernel_rfl
theorem n122 : R122.ntmps = 63 := rfl
theorem a122 {args : List Value} {H : AHeap} {Q : Value → AHeap → Prop} (h : AWP Go.Proofs.Tryz.prog none R122.code (Fin R122 Q) (args ++ List.replicate (R122.ntmps - args.length) undef) H) : ACall Go.Proofs.Tryz.prog 122 args H Q := acall_intro mo Go.Proofs.Tryz.func122 c122 h
def R123 : RFunc :=
  ⟨(.seq (.ops [⟨some 2,.mov (.const (.bool false)),none⟩]) (.seq (.ops [⟨some 3,.mov (.tmp 0),none⟩,⟨some 4,.call (.func 124) [.tmp 3],none⟩,⟨some 5,.not (.tmp 4),none⟩,⟨some 2,.mov (.tmp 5),none⟩]) .ret)),6,[.tmp 2]⟩
theorem c123 : compileFn Go.Proofs.Tryz.prog Go.Proofs.Tryz.f123 = some R123 := by kernel_rfl
theorem n123 : R123.ntmps = 6 := rfl
theorem a123 {args : List Value} {H : AHeap} {Q : Value → AHeap → Prop} (h : AWP Go.Proofs.Tryz.prog none R123.code (Fin R123 Q) (args ++ List.replicate (R123.ntmps - args.length) undef) H) : ACall Go.Proofs.Tryz.prog 123 args H Q := acall_intro mo Go.Proofs.Tryz.func123 c123 h
def R124 : RFunc :=
  ⟨(.seq (.ops [⟨some 2,.mov (.const (.bool false)),none⟩]) (.seq (.ops [⟨some 3,.mov (.tmp 0),none⟩,⟨some 4,.call (.func 151) [.tmp 3,.const (.int .i64 1000)],none⟩,⟨some 2,.mov (.tmp 4),none⟩]) .ret)),5,[.tmp 2]⟩
theorem c124 : compileFn Go.Proofs.Tryz.prog Go.Proofs.Tryz.f124 = some R124 := by kernel_rfl
theorem n124 : R124.ntmps = 5 := rfl
theorem a124 {args : List Value} {H : AHeap} {Q : Value → AHeap → Prop} (h : AWP Go.Proofs.Tryz.prog none R124.code (Fin R124 Q) (args ++ List.replicate (R124.ntmps - args.length) undef) H) : ACall Go.Proofs.Tryz.prog 124 args H Q := acall_intro mo Go.Proofs.Tryz.func124 c124 h
def R125 : RFunc :=
  ⟨(.seq (.ops [⟨some 2,.mov (.const (.bool false)),none⟩]) (.seq (.ops [⟨some 3,.mov (.tmp 0),none⟩,⟨some 4,.call (.func 108) [.tmp 3,.const (.int .i64 1),.const (.int .i64 1000)],none⟩,⟨some 2,.mov (.tmp 4),none⟩]) .ret)),5,[.tmp 2]⟩
theorem c125 : compileFn Go.Proofs.Tryz.prog Go.Proofs.Tryz.f125 = some R125 := by kernel_rfl
theorem n125 : R125.ntmps = 5 := rfl
theorem a125 {args : List Value} {H : AHeap} {Q : Value → AHeap → Prop} (h : AWP Go.Proofs.Tryz.prog none R125.code (Fin R125 Q) (args ++ List.replicate (R125.ntmps - args.length) undef) H) : ACall Go.Proofs.Tryz.prog 125 args H Q := acall_intro mo Go.Proofs.Tryz.func125 c125 h
def R126 : RFunc :=
  ⟨(.seq (.ops [⟨some 4,.mov (.const (.int .i64 0)),none⟩,⟨some 5,.mov (.const (.bool false)),none⟩]) (.seq (.ops [⟨some 9,.mov (.tmp 0),none⟩,⟨some 10,.mov (.tmp 1),none⟩,⟨some 11,.call (.func 45) [.tmp 9,.tmp 10],none⟩,⟨some 8,.mov (.tmp 11),none⟩,⟨some 12,.extract (.tmp 8) 0,none⟩,⟨some 13,.extract (.tmp 8) 1,none⟩,⟨some 6,.mov (.tmp 12),none⟩,⟨some 7,.mov (.tmp 13),none⟩]) (.seq (.draw [(⟨some 14,.mov (.tmp 6),none⟩,false),(⟨some 15,.mov (.tmp 7),none⟩,false),(⟨some 16,.mov (.tmp 15),none⟩,false),(⟨some 17,.mov (.tmp 0),some (16,true)⟩,false),(⟨some 18,.idxS (.tmp 17) (.const (.int .i64 0)),some (16,true)⟩,false),(⟨some 19,.cmp .neq (.tmp 18) (.const (.int .u8 45)),some (16,true)⟩,false),(⟨some 20,.pick (.tmp 16) (.tmp 19) (.const (.bool false)),none⟩,false),(⟨some 4,.mov (.tmp 14),none⟩,false),(⟨some 5,.mov (.tmp 20),none⟩,false)]) .ret))),21,[.tmp 4,.tmp 5]⟩
theorem c126 : compileFn Go.Proofs.Tryz.prog Go.Proofs.Tryz.f126 = some R126 := by kernel_rfl
theorem n126 : R126.ntmps = 21 := rfl
theorem a126 {args : List Value} {H : AHeap} {Q : Value → AHeap → Prop} (h : AWP Go.Proofs.Tryz.prog none R126.code (Fin R126 Q) (args ++ List.replicate (R126.ntmps - args.length) undef) H) : ACall Go.Proofs.Tryz.prog 126 args H Q := acall_intro mo Go.Proofs.Tryz.func126 c126 h
def R127 : RFunc :=
  ⟨(.seq (.ops [⟨some 1,.box (.tmp 0),none⟩,⟨some 2,.mov (.const (.int .i64 0)),none⟩,⟨some 3,.mov (.const (.int .i64 0)),none⟩]) (.seq (.seq (.ops [⟨some 6,.fieldAddr 0 (.tmp 1),none⟩,⟨some 7,.load (.tmp 6),none⟩,⟨some 8,.len (.tmp 7),none⟩,⟨some 9,.cmp .lss (.tmp 8) (.const (.int .i64 2)),none⟩]) (.cond (.tmp 9) (.seq (.ops [⟨some 2,.mov (.const (.int .i64 0)),none⟩,⟨some 3,.mov (.const (.int .i64 10)),none⟩]) .ret) .skip)) (.seq (.seq (.ops [⟨some 10,.fieldAddr 0 (.tmp 1),none⟩,⟨some 11,.load (.tmp 10),none⟩,⟨some 12,.len (.tmp 11),none⟩,⟨some 13,.cmp .gtr (.tmp 12) (.const (.int .i64 20)),none⟩]) (.cond (.tmp 13) (.seq (.ops [⟨some 2,.mov (.const (.int .i64 0)),none⟩,⟨some 3,.mov (.const (.int .i64 8)),none⟩]) .ret) .skip)) (.seq (.seq (.ops [⟨some 4,.mov (.const (.int .i64 0)),none⟩]) (.block 0 (.loop (.seq (.seq (.ops [⟨some 14,.mov (.tmp 4),none⟩,⟨some 15,.fieldAddr 0 (.tmp 1),none⟩,⟨some 16,.load (.tmp 15),none⟩,⟨some 17,.len (.tmp 16),none⟩,⟨some 18,.cmp .lss (.tmp 14) (.tmp 17),none⟩]) (.cond (.tmp 18) .skip (.exit 0))) (.seq (.block 1 (.seq (.ops [⟨some 21,.fieldAddr 0 (.tmp 1),none⟩,⟨some 22,.load (.tmp 21),none⟩,⟨some 23,.mov (.tmp 4),none⟩,⟨some 24,.idxAddr 2 (.tmp 22) (.tmp 23),none⟩,⟨some 25,.loadN 2 (.tmp 24),none⟩,⟨some 5,.new [.int .i64 0,.int .i64 0],none⟩,⟨none,.store 2 (.tmp 5) (.tmp 25),none⟩]) (.seq (.seq (.ops [⟨some 26,.fieldAddr 0 (.tmp 5),none⟩,⟨some 27,.load (.tmp 26),none⟩,⟨some 28,.call (.func 162) [.tmp 27],none⟩,⟨some 29,.not (.tmp 28),none⟩,⟨some 30,.mov (.tmp 29),none⟩,⟨some 31,.fieldAddr 1 (.tmp 5),some (30,false)⟩,⟨some 32,.load (.tmp 31),some (30,false)⟩,⟨some 33,.call (.func 163) [.tmp 32],some (30,false)⟩,⟨some 34,.not (.tmp 33),some (30,false)⟩,⟨some 35,.pick (.tmp 30) (.const (.bool true)) (.tmp 34),none⟩]) (.cond (.tmp 35) (.seq (.ops [⟨some 36,.mov (.tmp 4),none⟩,⟨some 2,.mov (.tmp 36),none⟩,⟨some 3,.mov (.const (.int .i64 2)),none⟩]) .ret) .skip)) (.seq (.draw [(⟨some 37,.mov (.tmp 4),none⟩,false),(⟨some 38,.cmp .gtr (.tmp 37) (.const (.int .i64 0)),none⟩,false),(⟨some 39,.mov (.tmp 38),none⟩,false),(⟨some 40,.fieldAddr 0 (.tmp 5),some (39,true)⟩,false),(⟨some 41,.load (.tmp 40),some (39,true)⟩,false),(⟨some 42,.fieldAddr 0 (.tmp 1),some (39,true)⟩,false),(⟨some 43,.load (.tmp 42),some (39,true)⟩,false),(⟨some 44,.mov (.tmp 4),some (39,true)⟩,false),(⟨some 45,.arith .sub (.tmp 44) (.const (.int .i64 1)),some (39,true)⟩,false),(⟨some 46,.idxAddr 2 (.tmp 43) (.tmp 45),some (39,true)⟩,false),(⟨some 47,.fieldAddr 0 (.tmp 46),some (39,true)⟩,false),(⟨some 48,.load (.tmp 47),some (39,true)⟩,false),(⟨some 49,.cmp .leq (.tmp 41) (.tmp 48),some (39,true)⟩,false),(⟨some 50,.mov (.tmp 49),some (39,true)⟩,false),(⟨some 51,.fieldAddr 1 (.tmp 5),some (50,false)⟩,false),(⟨some 52,.load (.tmp 51),some (50,false)⟩,false),(⟨some 53,.fieldAddr 0 (.tmp 1),some (50,false)⟩,false),(⟨some 54,.load (.tmp 53),some (50,false)⟩,false),(⟨some 55,.mov (.tmp 4),some (50,false)⟩,false),(⟨some 56,.arith .sub (.tmp 55) (.const (.int .i64 1)),some (50,false)⟩,false),(⟨some 57,.idxAddr 2 (.tmp 54) (.tmp 56),some (50,false)⟩,false),(⟨some 58,.fieldAddr 1 (.tmp 57),some (50,false)⟩,false),(⟨some 59,.load (.tmp 58),some (50,false)⟩,false),(⟨some 60,.cmp .leq (.tmp 52) (.tmp 59),some (50,false)⟩,false),(⟨some 61,.pick (.tmp 50) (.const (.bool true)) (.tmp 60),some (39,true)⟩,false),(⟨some 62,.pick (.tmp 39) (.tmp 61) (.const (.bool false)),none⟩,false)]) (.cond (.tmp 62) (.seq (.ops [⟨some 63,.mov (.tmp 4),none⟩,⟨some 2,.mov (.tmp 63),none⟩,⟨some 3,.mov (.const (.int .i64 9)),none⟩]) .ret) .skip))))) (.ops [⟨some 19,.mov (.tmp 4),none⟩,⟨some 20,.arith .add (.tmp 19) (.const (.int .i64 1)),none⟩,⟨some 4,.mov (.tmp 20),none⟩])))))) (.seq (.ops [⟨some 2,.mov (.const (.int .i64 0)),none⟩,⟨some 3,.mov (.const (.int .i64 0)),none⟩]) .ret))))),64,[.tmp 2,.tmp 3]⟩
theorem c127 : compileFn Go.Proofs.Tryz.prog Go.Proofs.Tryz.f127 = some R127 := by kernel_rfl
theorem n127 : R127.ntmps = 64 := rfl
theorem a127 {args : List Value} {H : AHeap} {Q : Value → AHeap → Prop} (h : AWP Go.Proofs.Tryz.prog none R127.code (Fin R127 Q) (args ++ List.replicate (R127.ntmps - args.length) undef) H) : ACall Go.Proofs.Tryz.prog 127 args H Q := acall_intro mo Go.Proofs.Tryz.func127 c127 h
def R140 : RFunc :=
  ⟨(.seq (.seq (.ops [⟨some 9,.load (.tmp 1),none⟩,⟨some 10,.lenS (.tmp 9),none⟩,⟨some 11,.cmp .eql (.tmp 10) (.const (.int .i64 0)),none⟩]) (.cond (.tmp 11) (.seq (.block 0 (.loop (.seq (.seq (.ops [⟨some 12,.load (.tmp 2),none⟩,⟨some 13,.lenS (.tmp 12),none⟩,⟨some 14,.cmp .gtr (.tmp 13) (.const (.int .i64 0)),none⟩]) (.cond (.tmp 14) .skip (.exit 0))) (.block 1 (.seq (.ops [⟨some 16,.load (.tmp 2),none⟩,⟨some 17,.call (.func 141) [.tmp 16],none⟩,⟨some 15,.mov (.tmp 17),none⟩,⟨some 18,.extract (.tmp 15) 0,none⟩,⟨some 19,.extract (.tmp 15) 1,none⟩,⟨some 5,.mov (.tmp 18),none⟩,⟨some 6,.mov (.tmp 19),none⟩]) (.seq (.seq (.ops [⟨some 20,.mov (.tmp 0),none⟩,⟨some 21,.load (.tmp 2),none⟩,⟨some 22,.mov (.tmp 6),none⟩,⟨some 23,.sliceS (.tmp 21) none (some (.tmp 22)),none⟩,⟨some 24,.call (.tmp 20) [.tmp 23],none⟩,⟨some 25,.not (.tmp 24),none⟩]) (.cond (.tmp 25) .ret .skip)) (.ops [⟨some 26,.load (.tmp 2),none⟩,⟨some 27,.mov (.tmp 6),none⟩,⟨some 28,.sliceS (.tmp 26) (some (.tmp 27)) none,none⟩,⟨none,.store 1 (.tmp 2) (.tmp 28),none⟩]))))))) .ret) .skip)) (.seq (.block 2 (.loop (.block 3 (.seq (.ops [⟨some 29,.load (.tmp 2),none⟩,⟨some 30,.load (.tmp 1),none⟩,⟨some 31,.call (.func 142) [.tmp 29,.tmp 30],none⟩,⟨some 7,.mov (.tmp 31),none⟩]) (.seq (.seq (.ops [⟨some 32,.mov (.tmp 7),none⟩,⟨some 33,.cmp .lss (.tmp 32) (.const (.int .i64 0)),none⟩]) (.cond (.tmp 33) (.exit 2) .skip)) (.seq (.ops [⟨some 34,.load (.tmp 2),none⟩,⟨some 35,.mov (.tmp 7),none⟩,⟨some 36,.load (.tmp 3),none⟩,⟨some 37,.arith .add (.tmp 35) (.tmp 36),none⟩,⟨some 38,.sliceS (.tmp 34) none (some (.tmp 37)),none⟩,⟨some 8,.mov (.tmp 38),none⟩]) (.seq (.seq (.ops [⟨some 39,.mov (.tmp 0),none⟩,⟨some 40,.mov (.tmp 8),none⟩,⟨some 41,.call (.tmp 39) [.tmp 40],none⟩,⟨some 42,.not (.tmp 41),none⟩]) (.cond (.tmp 42) .ret .skip)) (.ops [⟨some 43,.load (.tmp 2),none⟩,⟨some 44,.mov (.tmp 7),none⟩,⟨some 45,.load (.tmp 1),none⟩,⟨some 46,.lenS (.tmp 45),none⟩,⟨some 47,.arith .add (.tmp 44) (.tmp 46),none⟩,⟨some 48,.sliceS (.tmp 43) (some (.tmp 47)) none,none⟩,⟨none,.store 1 (.tmp 2) (.tmp 48),none⟩])))))))) (.ops [⟨some 49,.mov (.tmp 0),none⟩,⟨some 50,.load (.tmp 2),none⟩,⟨some 51,.call (.tmp 49) [.tmp 50],none⟩]))),52,[]⟩
theorem c140 : compileFn Go.Proofs.Tryz.prog Go.Proofs.Tryz.f140 = some R140 := by kernel_rfl
theorem n140 : R140.ntmps = 52 := rfl
theorem a140 {args : List Value} {H : AHeap} {Q : Value → AHeap → Prop} (h : AWP Go.Proofs.Tryz.prog none R140.code (Fin R140 Q) (args ++ List.replicate (R140.ntmps - args.length) undef) H) : ACall Go.Proofs.Tryz.prog 140 args H Q := acall_intro mo Go.Proofs.Tryz.func140 c140 h
def R149 : RFunc :=
  ⟨(.seq (.ops [⟨some 4,.mov (.const (.int .i64 0)),none⟩]) (.seq (.seq (.ops [⟨some 6,.mov (.tmp 0),none⟩,⟨some 7,.len (.tmp 6),none⟩,⟨some 8,.mov (.const (.int .i64 0)),none⟩]) (.block 0 (.loop (.seq (.ops [⟨some 9,.cmp .lss (.tmp 8) (.tmp 7),none⟩]) (.seq (.cond (.tmp 9) .skip (.exit 0)) (.seq (.block 1 (.seq (.ops [⟨some 10,.mov (.tmp 8),none⟩,⟨some 5,.mov (.tmp 10),none⟩]) (.seq (.ops [⟨some 11,.mov (.tmp 1),none⟩,⟨some 12,.mov (.tmp 0),none⟩,⟨some 13,.mov (.tmp 5),none⟩,⟨some 14,.idxAddr 1 (.tmp 12) (.tmp 13),none⟩,⟨some 15,.load (.tmp 14),none⟩,⟨some 16,.call (.tmp 11) [.tmp 15],none⟩]) (.cond (.tmp 16) (.seq (.ops [⟨some 17,.mov (.tmp 5),none⟩,⟨some 4,.mov (.tmp 17),none⟩]) .ret) .skip)))) (.ops [⟨some 18,.arith .add (.tmp 8) (.const (.int .i64 1)),none⟩,⟨some 8,.mov (.tmp 18),none⟩]))))))) (.seq (.ops [⟨some 4,.mov (.const (.int .i64 (-1))),none⟩]) .ret))),19,[.tmp 4]⟩
theorem c149 : compileFn Go.Proofs.Tryz.prog Go.Proofs.Tryz.f149 = some R149 := by kernel_rfl
theorem n149 : R149.ntmps = 19 := rfl
theorem a149 {args : List Value} {H : AHeap} {Q : Value → AHeap → Prop} (h : AWP Go.Proofs.Tryz.prog none R149.code (Fin R149 Q) (args ++ List.replicate (R149.ntmps - args.length) undef) H) : ACall Go.Proofs.Tryz.prog 149 args H Q := acall_intro mo Go.Proofs.Tryz.func149 c149 h
def R150 : RFunc :=
  ⟨(.seq (.ops [⟨some 2,.mov (.const (.bool false)),none⟩]) (.seq (.ops [⟨some 3,.mov (.tmp 0),none⟩,⟨some 4,.call (.func 151) [.tmp 3,.const (.int .i64 32767)],none⟩,⟨some 5,.not (.tmp 4),none⟩,⟨some 2,.mov (.tmp 5),none⟩]) .ret)),6,[.tmp 2]⟩
theorem c150 : compileFn Go.Proofs.Tryz.prog Go.Proofs.Tryz.f150 = some R150 := by kernel_rfl
def R151 : RFunc :=
  ⟨(.seq (.ops [⟨some 4,.mov (.const (.bool false)),none⟩]) (.seq (.ops [⟨some 5,.mov (.tmp 0),none⟩,⟨some 6,.mov (.tmp 1),none⟩,⟨some 7,.neg (.tmp 6),none⟩,⟨some 8,.mov (.tmp 1),none⟩,⟨some 9,.call (.func 108) [.tmp 5,.tmp 7,.tmp 8],none⟩,⟨some 4,.mov (.tmp 9),none⟩]) .ret)),10,[.tmp 4]⟩
theorem c151 : compileFn Go.Proofs.Tryz.prog Go.Proofs.Tryz.f151 = some R151 := by kernel_rfl
theorem n151 : R151.ntmps = 10 := rfl
theorem a151 {args : List Value} {H : AHeap} {Q : Value → AHeap → Prop} (h : AWP Go.Proofs.Tryz.prog none R151.code (Fin R151 Q) (args ++ List.replicate (R151.ntmps - args.length) undef) H) : ACall Go.Proofs.Tryz.prog 151 args H Q := acall_intro mo Go.Proofs.Tryz.func151 c151 h
def R152 : RFunc :=
  ⟨(.seq (.ops [⟨some 1,.box (.tmp 0),none⟩,⟨some 2,.mov (.const .nilFunc),none⟩]) (.seq (.seq (.ops [⟨some 4,.fieldAddr 0 (.tmp 1),none⟩,⟨some 5,.load (.tmp 4),none⟩,⟨some 6,.cmp .eql (.tmp 5) (.const (.int .i64 0)),none⟩]) (.cond (.tmp 6) (.seq (.ops [⟨some 7,.mkFunc (.func 180) [] [.tmp 1],none⟩,⟨some 2,.mov (.tmp 7),none⟩]) .ret) .skip)) (.seq (.ops [⟨some 8,.fieldAddr 5 (.tmp 1),none⟩,⟨some 9,.fieldAddr 0 (.tmp 8),none⟩,⟨some 10,.load (.tmp 9),none⟩,⟨some 3,.new [.slice none 0 0],none⟩,⟨none,.store 1 (.tmp 3) (.tmp 10),none⟩]) (.seq (.ops [⟨some 11,.mkFunc (.func 181) [] [.tmp 3,.tmp 1],none⟩,⟨some 2,.mov (.tmp 11),none⟩]) .ret)))),12,[.tmp 2]⟩
theorem c152 : compileFn Go.Proofs.Tryz.prog Go.Proofs.Tryz.f152 = some R152 := by kernel_rfl
def R153 : RFunc :=
  ⟨(.seq (.ops [⟨some 4,.mov (.const (.int .i64 0)),none⟩]) (.seq (.block 0 (.loop (.seq (.seq (.ops [⟨some 5,.mov (.tmp 1),none⟩,⟨some 6,.cmp .neq (.tmp 5) (.const (.int .i64 0)),none⟩]) (.cond (.tmp 6) .skip (.exit 0))) (.block 1 (.draw [(⟨some 7,.mov (.tmp 1),none⟩,false),(⟨some 8,.mov (.tmp 0),none⟩,false),(⟨some 9,.mov (.tmp 1),none⟩,false),(⟨some 10,.arith .rem (.tmp 8) (.tmp 9),none⟩,false),(⟨some 0,.mov (.tmp 7),none⟩,false),(⟨some 1,.mov (.tmp 10),none⟩,false)]))))) (.seq (.ops [⟨some 11,.mov (.tmp 0),none⟩,⟨some 12,.mov (.tmp 0),none⟩,⟨some 13,.neg (.tmp 12),none⟩,⟨some 14,.most true (.tmp 11) [.tmp 13],none⟩,⟨some 4,.mov (.tmp 14),none⟩]) .ret))),15,[.tmp 4]⟩
theorem c153 : compileFn Go.Proofs.Tryz.prog Go.Proofs.Tryz.f153 = some R153 := by kernel_rfl
def R154 : RFunc :=
  ⟨(.seq (.ops [⟨some 2,.mov (.const (.int .i64 0)),none⟩]) (.seq (.block 0 (.seq (.ops [⟨some 4,.mov (.tmp 0),none⟩,⟨some 5,.cmp .lss (.tmp 4) (.const (.int .i64 0)),none⟩,⟨some 3,.mov (.tmp 5),none⟩]) (.cond (.tmp 3) (.seq (.ops [⟨some 2,.mov (.const (.int .i64 (-1))),none⟩]) .ret) (.seq (.ops [⟨some 7,.mov (.tmp 0),none⟩,⟨some 8,.cmp .gtr (.tmp 7) (.const (.int .i64 0)),none⟩,⟨some 6,.mov (.tmp 8),none⟩]) (.cond (.tmp 6) (.seq (.ops [⟨some 2,.mov (.const (.int .i64 1)),none⟩]) .ret) .skip))))) (.seq (.ops [⟨some 2,.mov (.const (.int .i64 0)),none⟩]) .ret))),9,[.tmp 2]⟩
theorem c154 : compileFn Go.Proofs.Tryz.prog Go.Proofs.Tryz.f154 = some R154 := by kernel_rfl
def R158 : RFunc :=
  ⟨(.seq (.ops [⟨some 2,.mov (.const (.int .i64 0)),none⟩]) (.seq (.seq (.ops [⟨some 5,.mov (.tmp 0),none⟩,⟨some 6,.len (.tmp 5),none⟩,⟨some 7,.mov (.const (.int .i64 0)),none⟩]) (.block 0 (.loop (.seq (.ops [⟨some 8,.cmp .lss (.tmp 7) (.tmp 6),none⟩]) (.seq (.cond (.tmp 8) .skip (.exit 0)) (.seq (.block 1 (.seq (.ops [⟨some 9,.idxAddr 1 (.tmp 5) (.tmp 7),none⟩,⟨some 10,.load (.tmp 9),none⟩,⟨some 4,.mov (.tmp 10),none⟩]) (.seq (.ops [⟨some 11,.mov (.tmp 4),none⟩,⟨some 12,.cmp .neq (.tmp 11) (.const (.int .i64 0)),none⟩]) (.cond (.tmp 12) (.seq (.ops [⟨some 13,.mov (.tmp 4),none⟩,⟨some 2,.mov (.tmp 13),none⟩]) .ret) .skip)))) (.ops [⟨some 14,.arith .add (.tmp 7) (.const (.int .i64 1)),none⟩,⟨some 7,.mov (.tmp 14),none⟩]))))))) (.seq (.ops [⟨some 2,.mov (.const (.int .i64 0)),none⟩]) .ret))),15,[.tmp 2]⟩
theorem c158 : compileFn Go.Proofs.Tryz.prog Go.Proofs.Tryz.f158 = some R158 := by kernel_rfl
theorem n158 : R158.ntmps = 15 := rfl
theorem a158 {args : List Value} {H : AHeap} {Q : Value → AHeap → Prop} (h : AWP Go.Proofs.Tryz.prog none R158.code (Fin R158 Q) (args ++ List.replicate (R158.ntmps - args.length) undef) H) : ACall Go.Proofs.Tryz.prog 158 args H Q := acall_intro mo Go.Proofs.Tryz.func158 c158 h
def R159 : RFunc :=
  ⟨(.seq (.ops [⟨some 4,.mov (.const (.int .i64 0)),none⟩]) (.seq (.seq (.ops [⟨some 5,.mov (.tmp 0),none⟩]) (.cond (.tmp 5) (.seq (.ops [⟨some 4,.mov (.const (.int .i64 0)),none⟩]) .ret) .skip)) (.seq (.ops [⟨some 6,.mov (.tmp 1),none⟩,⟨some 4,.mov (.tmp 6),none⟩]) .ret))),7,[.tmp 4]⟩
theorem c159 : compileFn Go.Proofs.Tryz.prog Go.Proofs.Tryz.f159 = some R159 := by kernel_rfl
theorem n159 : R159.ntmps = 7 := rfl
theorem a159 {args : List Value} {H : AHeap} {Q : Value → AHeap → Prop} (h : AWP Go.Proofs.Tryz.prog none R159.code (Fin R159 Q) (args ++ List.replicate (R159.ntmps - args.length) undef) H) : ACall Go.Proofs.Tryz.prog 159 args H Q := acall_intro mo Go.Proofs.Tryz.func159 c159 h
def R160 : RFunc :=
  ⟨(.seq (.ops [⟨some 2,.mov (.const (.bool false)),none⟩]) (.seq (.ops [⟨some 3,.mov (.tmp 0),none⟩,⟨some 4,.call (.func 189) [.tmp 3,.const (.int .i64 0),.const (.int .i64 1000000)],none⟩,⟨some 2,.mov (.tmp 4),none⟩]) .ret)),5,[.tmp 2]⟩
theorem c160 : compileFn Go.Proofs.Tryz.prog Go.Proofs.Tryz.f160 = some R160 := by kernel_rfl
theorem n160 : R160.ntmps = 5 := rfl
theorem a160 {args : List Value} {H : AHeap} {Q : Value → AHeap → Prop} (h : AWP Go.Proofs.Tryz.prog none R160.code (Fin R160 Q) (args ++ List.replicate (R160.ntmps - args.length) undef) H) : ACall Go.Proofs.Tryz.prog 160 args H Q := acall_intro mo Go.Proofs.Tryz.func160 c160 h
def R161 : RFunc :=
  ⟨(.seq (.ops [⟨some 2,.mov (.const (.bool false)),none⟩]) (.seq (.ops [⟨some 3,.mov (.tmp 0),none⟩,⟨some 4,.call (.func 189) [.tmp 3,.const (.int .i64 0),.const (.int .i64 1000000000000)],none⟩,⟨some 2,.mov (.tmp 4),none⟩]) .ret)),5,[.tmp 2]⟩
theorem c161 : compileFn Go.Proofs.Tryz.prog Go.Proofs.Tryz.f161 = some R161 := by kernel_rfl
theorem n161 : R161.ntmps = 5 := rfl
theorem a161 {args : List Value} {H : AHeap} {Q : Value → AHeap → Prop} (h : AWP Go.Proofs.Tryz.prog none R161.code (Fin R161 Q) (args ++ List.replicate (R161.ntmps - args.length) undef) H) : ACall Go.Proofs.Tryz.prog 161 args H Q := acall_intro mo Go.Proofs.Tryz.func161 c161 h
def R162 : RFunc :=
  ⟨(.seq (.ops [⟨some 2,.mov (.const (.bool false)),none⟩]) (.seq (.ops [⟨some 3,.mov (.tmp 0),none⟩,⟨some 4,.call (.func 47) [.tmp 3,.const (.int .i64 0),.const (.int .i64 1000000)],none⟩,⟨some 2,.mov (.tmp 4),none⟩]) .ret)),5,[.tmp 2]⟩
theorem c162 : compileFn Go.Proofs.Tryz.prog Go.Proofs.Tryz.f162 = some R162 := by kernel_rfl
theorem n162 : R162.ntmps = 5 := rfl
theorem a162 {args : List Value} {H : AHeap} {Q : Value → AHeap → Prop} (h : AWP Go.Proofs.Tryz.prog none R162.code (Fin R162 Q) (args ++ List.replicate (R162.ntmps - args.length) undef) H) : ACall Go.Proofs.Tryz.prog 162 args H Q := acall_intro mo Go.Proofs.Tryz.func162 c162 h
def R163 : RFunc :=
  ⟨(.seq (.ops [⟨some 2,.mov (.const (.bool false)),none⟩]) (.seq (.ops [⟨some 3,.mov (.tmp 0),none⟩,⟨some 4,.call (.func 47) [.tmp 3,.const (.int .i64 0),.const (.int .i64 1000000000000)],none⟩,⟨some 2,.mov (.tmp 4),none⟩]) .ret)),5,[.tmp 2]⟩
theorem c163 : compileFn Go.Proofs.Tryz.prog Go.Proofs.Tryz.f163 = some R163 := by kernel_rfl
theorem n163 : R163.ntmps = 5 := rfl
theorem a163 {args : List Value} {H : AHeap} {Q : Value → AHeap → Prop} (h : AWP Go.Proofs.Tryz.prog none R163.code (Fin R163 Q) (args ++ List.replicate (R163.ntmps - args.length) undef) H) : ACall Go.Proofs.Tryz.prog 163 args H Q := acall_intro mo Go.Proofs.Tryz.func163 c163 h
def R180 : RFunc :=
  ⟨(.seq (.ops [⟨some 3,.mov (.const (.int .i64 0)),none⟩]) (.block 0 (.loop (.seq (.seq (.ops [⟨some 4,.mov (.tmp 0),none⟩,⟨some 5,.mov (.tmp 3),none⟩,⟨some 6,.arith .mul (.const (.int .i64 64)) (.tmp 5),none⟩,⟨some 7,.fieldAddr 2 (.tmp 1),none⟩,⟨some 8,.load (.tmp 7),none⟩,⟨some 9,.arith .mul (.tmp 6) (.tmp 8),none⟩,⟨some 10,.fieldAddr 3 (.tmp 1),none⟩,⟨some 11,.load (.tmp 10),none⟩,⟨some 12,.arith .quo (.tmp 9) (.tmp 11),none⟩,⟨some 13,.call (.tmp 4) [.tmp 12],none⟩]) (.cond (.tmp 13) .skip (.exit 0))) (.seq (.block 1 .skip) (.ops [⟨some 14,.mov (.tmp 3),none⟩,⟨some 15,.arith .add (.tmp 14) (.const (.int .i64 1)),none⟩,⟨some 3,.mov (.tmp 15),none⟩])))))),16,[]⟩
theorem c180 : compileFn Go.Proofs.Tryz.prog Go.Proofs.Tryz.f180 = some R180 := by kernel_rfl
def R181 : RFunc :=
  ⟨(.seq (.ops [⟨some 7,.load (.tmp 1),none⟩,⟨some 8,.idxAddr 2 (.tmp 7) (.const (.int .i64 0)),none⟩,⟨some 9,.fieldAddr 1 (.tmp 8),none⟩,⟨some 10,.load (.tmp 9),none⟩,⟨some 4,.mov (.tmp 10),none⟩]) (.block 0 (.loop (.seq (.seq (.ops [⟨some 11,.mov (.tmp 4),none⟩,⟨some 12,.load (.tmp 1),none⟩,⟨some 13,.load (.tmp 1),none⟩,⟨some 14,.len (.tmp 13),none⟩,⟨some 15,.arith .sub (.tmp 14) (.const (.int .i64 1)),none⟩,⟨some 16,.idxAddr 2 (.tmp 12) (.tmp 15),none⟩,⟨some 17,.fieldAddr 1 (.tmp 16),none⟩,⟨some 18,.load (.tmp 17),none⟩,⟨some 19,.cmp .leq (.tmp 11) (.tmp 18),none⟩]) (.cond (.tmp 19) .skip (.exit 0))) (.seq (.block 1 (.seq (.ops [⟨some 25,.fieldAddr 5 (.tmp 2),none⟩,⟨some 26,.loadN 1 (.tmp 25),none⟩,⟨some 27,.mov (.tmp 4),none⟩,⟨some 28,.call (.func 182) [.tmp 26,.tmp 27],none⟩,⟨some 24,.mov (.tmp 28),none⟩,⟨some 29,.extract (.tmp 24) 0,none⟩,⟨some 30,.extract (.tmp 24) 1,none⟩,⟨some 5,.new [.int .i64 0,.int .i64 0],none⟩,⟨none,.store 2 (.tmp 5) (.tmp 29),none⟩,⟨some 6,.mov (.tmp 30),none⟩]) (.seq (.ops [⟨some 31,.mov (.tmp 6),none⟩,⟨some 32,.cmp .neq (.tmp 31) (.const (.int .i64 0)),none⟩,⟨some 33,.mov (.tmp 32),none⟩,⟨some 34,.mov (.tmp 0),some (33,false)⟩,⟨some 35,.fieldAddr 0 (.tmp 5),some (33,false)⟩,⟨some 36,.load (.tmp 35),some (33,false)⟩,⟨some 37,.call (.tmp 34) [.tmp 36],some (33,false)⟩,⟨some 38,.not (.tmp 37),some (33,false)⟩,⟨some 39,.pick (.tmp 33) (.const (.bool true)) (.tmp 38),none⟩]) (.cond (.tmp 39) .ret .skip)))) (.ops [⟨some 20,.mov (.tmp 4),none⟩,⟨some 21,.fieldAddr 4 (.tmp 2),none⟩,⟨some 22,.load (.tmp 21),none⟩,⟨some 23,.arith .add (.tmp 20) (.tmp 22),none⟩,⟨some 4,.mov (.tmp 23),none⟩])))))),40,[]⟩
theorem c181 : compileFn Go.Proofs.Tryz.prog Go.Proofs.Tryz.f181 = some R181 := by kernel_rfl
def R182 : RFunc :=
  ⟨(.seq (.ops [⟨some 2,.box (.tmp 0),none⟩,⟨some 3,.box (.tmp 1),none⟩,⟨some 4,.new [.int .i64 0,.int .i64 0],none⟩,⟨some 5,.mov (.const (.int .i64 0)),none⟩]) (.seq (.seq (.ops [⟨some 14,.loadN 1 (.tmp 2),none⟩,⟨some 15,.buildSlice 1 1 [.slice none 0 0] [(0,(1,(.tmp 14)))],none⟩,⟨some 16,.call (.func 120) [.tmp 15],none⟩,⟨some 6,.mov (.tmp 16),none⟩]) (.seq (.ops [⟨some 17,.mov (.tmp 6),none⟩,⟨some 18,.cmp .neq (.tmp 17) (.const (.int .i64 0)),none⟩]) (.cond (.tmp 18) (.seq (.ops [⟨some 19,.build [.int .i64 0,.int .i64 0] [],none⟩,⟨some 20,.mov (.tmp 6),none⟩,⟨none,.store 2 (.tmp 4) (.tmp 19),none⟩,⟨some 5,.mov (.tmp 20),none⟩]) .ret) .skip))) (.seq (.ops [⟨some 22,.loadN 1 (.tmp 2),none⟩,⟨some 23,.mkFunc (.func 201) [] [.tmp 3],none⟩,⟨some 24,.call (.func 200) [.tmp 22,.tmp 23],none⟩,⟨some 21,.mov (.tmp 24),none⟩,⟨some 25,.extract (.tmp 21) 0,none⟩,⟨some 26,.extract (.tmp 21) 1,none⟩,⟨some 7,.new [.int .i64 0,.int .i64 0,.int .i64 0,.int .i64 0],none⟩,⟨none,.store 4 (.tmp 7) (.tmp 25),none⟩,⟨some 8,.mov (.tmp 26),none⟩]) (.seq (.seq (.ops [⟨some 27,.mov (.tmp 8),none⟩,⟨some 28,.not (.tmp 27),none⟩]) (.cond (.tmp 28) (.seq (.ops [⟨some 29,.build [.int .i64 0,.int .i64 0] [],none⟩,⟨none,.store 2 (.tmp 4) (.tmp 29),none⟩,⟨some 5,.mov (.const (.int .i64 2)),none⟩]) .ret) .skip)) (.seq (.draw [(⟨some 31,.load (.tmp 3),none⟩,false),(⟨some 32,.fieldAddr 0 (.tmp 7),none⟩,false),(⟨some 33,.fieldAddr 1 (.tmp 32),none⟩,false),(⟨some 34,.load (.tmp 33),none⟩,false),(⟨some 35,.arith .sub (.tmp 31) (.tmp 34),none⟩,false),(⟨some 36,.conv .u64 (.tmp 35),none⟩,false),(⟨some 37,.loadN 4 (.tmp 7),none⟩,false),(⟨some 38,.call (.func 202) [.tmp 37],none⟩,false),(⟨some 39,.arith .mul (.const (.int .i64 64)) (.tmp 38),none⟩,false),(⟨some 40,.conv .u64 (.tmp 39),none⟩,false),(⟨some 41,.call (.func 192) [.tmp 36,.tmp 40],none⟩,false),(⟨some 30,.mov (.tmp 41),none⟩,false),(⟨some 42,.extract (.tmp 30) 0,none⟩,false),(⟨some 43,.extract (.tmp 30) 1,none⟩,false),(⟨some 9,.mov (.tmp 42),none⟩,false),(⟨some 10,.mov (.tmp 43),none⟩,false)]) (.seq (.ops [⟨some 45,.mov (.tmp 9),none⟩,⟨some 46,.mov (.tmp 10),none⟩,⟨some 47,.loadN 4 (.tmp 7),none⟩,⟨some 48,.call (.func 204) [.tmp 47],none⟩,⟨some 49,.conv .u64 (.tmp 48),none⟩,⟨some 50,.call (.func 203) [.tmp 45,.tmp 46,.tmp 49],none⟩,⟨some 44,.mov (.tmp 50),none⟩,⟨some 51,.extract (.tmp 44) 0,none⟩,⟨some 52,.extract (.tmp 44) 1,none⟩,⟨some 11,.mov (.tmp 51),none⟩,⟨some 12,.mov (.tmp 52),none⟩]) (.seq (.ops [⟨some 53,.fieldAddr 0 (.tmp 7),none⟩,⟨some 54,.fieldAddr 0 (.tmp 53),none⟩,⟨some 55,.load (.tmp 54),none⟩,⟨some 56,.arith .mul (.const (.int .i64 64)) (.tmp 55),none⟩,⟨some 57,.mov (.tmp 11),none⟩,⟨some 58,.conv .i64 (.tmp 57),none⟩,⟨some 59,.arith .add (.tmp 56) (.tmp 58),none⟩,⟨some 13,.mov (.tmp 59),none⟩]) (.seq (.seq (.ops [⟨some 60,.mov (.tmp 12),none⟩,⟨some 61,.cmp .eql (.tmp 60) (.const (.int .u64 0)),none⟩]) (.cond (.tmp 61) (.seq (.ops [⟨some 62,.mov (.tmp 13),none⟩,⟨some 63,.mov (.tmp 13),none⟩,⟨some 64,.build [.int .i64 0,.int .i64 0] [(0,(1,(.tmp 62))),(1,(1,(.tmp 63)))],none⟩,⟨none,.store 2 (.tmp 4) (.tmp 64),none⟩,⟨some 5,.mov (.const (.int .i64 0)),none⟩]) .ret) .skip)) (.seq (.ops [⟨some 65,.mov (.tmp 13),none⟩,⟨some 66,.mov (.tmp 13),none⟩,⟨some 67,.arith .add (.tmp 66) (.const (.int .i64 1)),none⟩,⟨some 68,.build [.int .i64 0,.int .i64 0] [(0,(1,(.tmp 65))),(1,(1,(.tmp 67)))],none⟩,⟨none,.store 2 (.tmp 4) (.tmp 68),none⟩,⟨some 5,.mov (.const (.int .i64 0)),none⟩]) .ret))))))))),69,[(.loadN 2 4),(.tmp 5)]⟩
theorem c182 : compileFn Go.Proofs.Tryz.prog Go.Proofs.Tryz.f182 = some R182 := by kernel_rfl
def R189 : RFunc :=
  ⟨(.seq (.ops [⟨some 6,.mov (.const (.bool false)),none⟩]) (.seq (.ops [⟨some 7,.mov (.tmp 1),none⟩,⟨some 8,.mov (.tmp 0),none⟩,⟨some 9,.cmp .leq (.tmp 7) (.tmp 8),none⟩,⟨some 10,.mov (.tmp 9),none⟩,⟨some 11,.mov (.tmp 0),some (10,true)⟩,⟨some 12,.mov (.tmp 2),some (10,true)⟩,⟨some 13,.cmp .leq (.tmp 11) (.tmp 12),some (10,true)⟩,⟨some 14,.pick (.tmp 10) (.tmp 13) (.const (.bool false)),none⟩,⟨some 6,.mov (.tmp 14),none⟩]) .ret)),15,[.tmp 6]⟩
theorem c189 : compileFn Go.Proofs.Tryz.prog Go.Proofs.Tryz.f189 = some R189 := by kernel_rfl
theorem n189 : R189.ntmps = 15 := rfl
theorem a189 {args : List Value} {H : AHeap} {Q : Value → AHeap → Prop} (h : AWP Go.Proofs.Tryz.prog none R189.code (Fin R189 Q) (args ++ List.replicate (R189.ntmps - args.length) undef) H) : ACall Go.Proofs.Tryz.prog 189 args H Q := acall_intro mo Go.Proofs.Tryz.func189 c189 h
def R192 : RFunc :=
  ⟨(.seq (.ops [⟨some 4,.mov (.const (.int .u64 0)),none⟩,⟨some 5,.mov (.const (.int .u64 0)),none⟩]) (.seq (.ops [⟨some 14,.mov (.tmp 0),none⟩,⟨some 15,.band (.tmp 14) (.const (.int .u64 4294967295)),none⟩,⟨some 6,.mov (.tmp 15),none⟩]) (.seq (.ops [⟨some 16,.mov (.tmp 0),none⟩,⟨some 17,.shr (.tmp 16) (.const (.int .u64 32)),none⟩,⟨some 7,.mov (.tmp 17),none⟩]) (.seq (.ops [⟨some 18,.mov (.tmp 1),none⟩,⟨some 19,.band (.tmp 18) (.const (.int .u64 4294967295)),none⟩,⟨some 8,.mov (.tmp 19),none⟩]) (.seq (.ops [⟨some 20,.mov (.tmp 1),none⟩,⟨some 21,.shr (.tmp 20) (.const (.int .u64 32)),none⟩,⟨some 9,.mov (.tmp 21),none⟩]) (.seq (.ops [⟨some 22,.mov (.tmp 6),none⟩,⟨some 23,.mov (.tmp 8),none⟩,⟨some 24,.arith .mul (.tmp 22) (.tmp 23),none⟩,⟨some 10,.mov (.tmp 24),none⟩]) (.seq (.ops [⟨some 25,.mov (.tmp 7),none⟩,⟨some 26,.mov (.tmp 8),none⟩,⟨some 27,.arith .mul (.tmp 25) (.tmp 26),none⟩,⟨some 28,.mov (.tmp 10),none⟩,⟨some 29,.shr (.tmp 28) (.const (.int .u64 32)),none⟩,⟨some 30,.arith .add (.tmp 27) (.tmp 29),none⟩,⟨some 11,.mov (.tmp 30),none⟩]) (.seq (.ops [⟨some 31,.mov (.tmp 11),none⟩,⟨some 32,.band (.tmp 31) (.const (.int .u64 4294967295)),none⟩,⟨some 12,.mov (.tmp 32),none⟩]) (.seq (.ops [⟨some 33,.mov (.tmp 11),none⟩,⟨some 34,.shr (.tmp 33) (.const (.int .u64 32)),none⟩,⟨some 13,.mov (.tmp 34),none⟩]) (.seq (.ops [⟨some 35,.mov (.tmp 12),none⟩,⟨some 36,.mov (.tmp 6),none⟩,⟨some 37,.mov (.tmp 9),none⟩,⟨some 38,.arith .mul (.tmp 36) (.tmp 37),none⟩,⟨some 39,.arith .add (.tmp 35) (.tmp 38),none⟩,⟨some 12,.mov (.tmp 39),none⟩]) (.seq (.ops [⟨some 40,.mov (.tmp 7),none⟩,⟨some 41,.mov (.tmp 9),none⟩,⟨some 42,.arith .mul (.tmp 40) (.tmp 41),none⟩,⟨some 43,.mov (.tmp 13),none⟩,⟨some 44,.arith .add (.tmp 42) (.tmp 43),none⟩,⟨some 45,.mov (.tmp 12),none⟩,⟨some 46,.shr (.tmp 45) (.const (.int .u64 32)),none⟩,⟨some 47,.arith .add (.tmp 44) (.tmp 46),none⟩,⟨some 4,.mov (.tmp 47),none⟩]) (.seq (.ops [⟨some 48,.mov (.tmp 0),none⟩,⟨some 49,.mov (.tmp 1),none⟩,⟨some 50,.arith .mul (.tmp 48) (.tmp 49),none⟩,⟨some 5,.mov (.tmp 50),none⟩]) .ret)))))))))))),51,[.tmp 4,.tmp 5]⟩
theorem c192 : compileFn Go.Proofs.Tryz.prog Go.Proofs.Tryz.f192 = some R192 := by kernel_rfl
def R194 : RFunc :=
  ⟨(.seq (.ops [⟨some 2,.mov (.const (.int .i64 0)),none⟩]) (.seq (.seq (.ops [⟨some 3,.mov (.tmp 0),none⟩,⟨some 4,.cmp .geq (.tmp 3) (.const (.int .u64 4294967296)),none⟩]) (.cond (.tmp 4) (.seq (.ops [⟨some 5,.mov (.tmp 0),none⟩,⟨some 6,.shr (.tmp 5) (.const (.int .u64 32)),none⟩,⟨some 0,.mov (.tmp 6),none⟩]) (.ops [⟨some 2,.mov (.const (.int .i64 32)),none⟩])) .skip)) (.seq (.seq (.ops [⟨some 7,.mov (.tmp 0),none⟩,⟨some 8,.cmp .geq (.tmp 7) (.const (.int .u64 65536)),none⟩]) (.cond (.tmp 8) (.seq (.ops [⟨some 9,.mov (.tmp 0),none⟩,⟨some 10,.shr (.tmp 9) (.const (.int .u64 16)),none⟩,⟨some 0,.mov (.tmp 10),none⟩]) (.ops [⟨some 11,.mov (.tmp 2),none⟩,⟨some 12,.arith .add (.tmp 11) (.const (.int .i64 16)),none⟩,⟨some 2,.mov (.tmp 12),none⟩])) .skip)) (.seq (.seq (.ops [⟨some 13,.mov (.tmp 0),none⟩,⟨some 14,.cmp .geq (.tmp 13) (.const (.int .u64 256)),none⟩]) (.cond (.tmp 14) (.seq (.ops [⟨some 15,.mov (.tmp 0),none⟩,⟨some 16,.shr (.tmp 15) (.const (.int .u64 8)),none⟩,⟨some 0,.mov (.tmp 16),none⟩]) (.ops [⟨some 17,.mov (.tmp 2),none⟩,⟨some 18,.arith .add (.tmp 17) (.const (.int .i64 8)),none⟩,⟨some 2,.mov (.tmp 18),none⟩])) .skip)) (.seq (.ops [⟨some 19,.mov (.tmp 2),none⟩,⟨some 20,.mov (.tmp 0),none⟩,⟨some 21,.conv .u8 (.tmp 20),none⟩,⟨some 22,.idxS (.const (.string ⟨#[0,1,2,2,3,3,3,3,4,4,4,4,4,4,4,4,5,5,5,5,5,5,5,5,5,5,5,5,5,5,5,5,6,6,6,6,6,6,6,6,6,6,6,6,6,6,6,6,6,6,6,6,6,6,6,6,6,6,6,6,6,6,6,6,7,7,7,7,7,7,7,7,7,7,7,7,7,7,7,7,7,7,7,7,7,7,7,7,7,7,7,7,7,7,7,7,7,7,7,7,7,7,7,7,7,7,7,7,7,7,7,7,7,7,7,7,7,7,7,7,7,7,7,7,7,7,7,7,8,8,8,8,8,8,8,8,8,8,8,8,8,8,8,8,8,8,8,8,8,8,8,8,8,8,8,8,8,8,8,8,8,8,8,8,8,8,8,8,8,8,8,8,8,8,8,8,8,8,8,8,8,8,8,8,8,8,8,8,8,8,8,8,8,8,8,8,8,8,8,8,8,8,8,8,8,8,8,8,8,8,8,8,8,8,8,8,8,8,8,8,8,8,8,8,8,8,8,8,8,8,8,8,8,8,8,8,8,8,8,8,8,8,8,8,8,8,8,8,8,8,8,8,8,8,8,8]⟩)) (.tmp 21),none⟩,⟨some 23,.conv .i64 (.tmp 22),none⟩,⟨some 24,.arith .add (.tmp 19) (.tmp 23),none⟩,⟨some 2,.mov (.tmp 24),none⟩]) .ret))))),25,[.tmp 2]⟩
theorem c194 : compileFn Go.Proofs.Tryz.prog Go.Proofs.Tryz.f194 = some R194 := by kernel_rfl
def R200 : RFunc :=
  ⟨(.seq (.ops [⟨some 2,.box (.tmp 0),none⟩,⟨some 3,.box (.tmp 1),none⟩,⟨some 4,.new [.int .i64 0,.int .i64 0,.int .i64 0,.int .i64 0],none⟩,⟨some 5,.new [(.bool false)],none⟩]) (.seq (.seq (.ops [⟨some 8,.loadN 1 (.tmp 2),none⟩,⟨some 9,.call (.func 209) [.tmp 8],none⟩]) (.block 0 (.rangeFunc (.tmp 9) [10,11] (.ops [⟨some 7,.new [.int .i64 0,.int .i64 0,.int .i64 0,.int .i64 0],none⟩,⟨none,.store 4 (.tmp 7) (.tmp 11),none⟩]) (.block 1 (.seq (.ops [⟨some 12,.load (.tmp 3),none⟩,⟨some 13,.loadN 4 (.tmp 7),none⟩,⟨some 14,.call (.tmp 12) [.tmp 13],none⟩]) (.cond (.tmp 14) (.seq (.ops [⟨some 15,.loadN 4 (.tmp 7),none⟩,⟨none,.store 4 (.tmp 4) (.tmp 15),none⟩,⟨none,.store 1 (.tmp 5) (.const (.bool true)),none⟩]) .ret) .skip)))))) (.seq (.ops [⟨some 16,.build [.int .i64 0,.int .i64 0,.int .i64 0,.int .i64 0] [],none⟩,⟨none,.store 4 (.tmp 4) (.tmp 16),none⟩,⟨none,.store 1 (.tmp 5) (.const (.bool false)),none⟩]) .ret))),17,[(.loadN 4 4),(.load 5)]⟩
theorem c200 : compileFn Go.Proofs.Tryz.prog Go.Proofs.Tryz.f200 = some R200 := by kernel_rfl
def R201 : RFunc :=
  ⟨(.seq (.ops [⟨some 2,.box (.tmp 0),none⟩,⟨some 3,.mov (.const (.bool false)),none⟩]) (.seq (.ops [⟨some 4,.load (.tmp 1),none⟩,⟨some 5,.fieldAddr 0 (.tmp 2),none⟩,⟨some 6,.fieldAddr 1 (.tmp 5),none⟩,⟨some 7,.load (.tmp 6),none⟩,⟨some 8,.fieldAddr 2 (.tmp 2),none⟩,⟨some 9,.fieldAddr 1 (.tmp 8),none⟩,⟨some 10,.load (.tmp 9),none⟩,⟨some 11,.call (.func 189) [.tmp 4,.tmp 7,.tmp 10],none⟩,⟨some 3,.mov (.tmp 11),none⟩]) .ret)),12,[.tmp 3]⟩
theorem c201 : compileFn Go.Proofs.Tryz.prog Go.Proofs.Tryz.f201 = some R201 := by kernel_rfl
def R202 : RFunc :=
  ⟨(.seq (.ops [⟨some 1,.box (.tmp 0),none⟩,⟨some 2,.mov (.const (.int .i64 0)),none⟩]) (.seq (.ops [⟨some 3,.fieldAddr 2 (.tmp 1),none⟩,⟨some 4,.fieldAddr 0 (.tmp 3),none⟩,⟨some 5,.load (.tmp 4),none⟩,⟨some 6,.fieldAddr 0 (.tmp 1),none⟩,⟨some 7,.fieldAddr 0 (.tmp 6),none⟩,⟨some 8,.load (.tmp 7),none⟩,⟨some 9,.arith .sub (.tmp 5) (.tmp 8),none⟩,⟨some 2,.mov (.tmp 9),none⟩]) .ret)),10,[.tmp 2]⟩
theorem c202 : compileFn Go.Proofs.Tryz.prog Go.Proofs.Tryz.f202 = some R202 := by kernel_rfl
def R203 : RFunc :=
  ⟨(.seq (.ops [⟨some 6,.mov (.const (.int .u64 0)),none⟩,⟨some 7,.mov (.const (.int .u64 0)),none⟩]) (.seq (.seq (.ops [⟨some 19,.mov (.tmp 2),none⟩,⟨some 20,.cmp .eql (.tmp 19) (.const (.int .u64 0)),none⟩]) (.cond (.tmp 20) (.ops [⟨some 21,.load (.global 9),none⟩,⟨none,.extract (.const (.chan none)) 0,none⟩]) .skip)) (.seq (.seq (.ops [⟨some 22,.mov (.tmp 2),none⟩,⟨some 23,.mov (.tmp 0),none⟩,⟨some 24,.cmp .leq (.tmp 22) (.tmp 23),none⟩]) (.cond (.tmp 24) (.ops [⟨some 25,.load (.global 10),none⟩,⟨none,.extract (.const (.chan none)) 0,none⟩]) .skip)) (.seq (.seq (.ops [⟨some 26,.mov (.tmp 0),none⟩,⟨some 27,.cmp .eql (.tmp 26) (.const (.int .u64 0)),none⟩]) (.cond (.tmp 27) (.seq (.draw [(⟨some 28,.mov (.tmp 1),none⟩,false),(⟨some 29,.mov (.tmp 2),none⟩,false),(⟨some 30,.arith .quo (.tmp 28) (.tmp 29),none⟩,false),(⟨some 31,.mov (.tmp 1),none⟩,false),(⟨some 32,.mov (.tmp 2),none⟩,false),(⟨some 33,.arith .rem (.tmp 31) (.tmp 32),none⟩,false),(⟨some 6,.mov (.tmp 30),none⟩,false),(⟨some 7,.mov (.tmp 33),none⟩,false)]) .ret) .skip)) (.seq (.ops [⟨some 34,.mov (.tmp 2),none⟩,⟨some 35,.call (.func 210) [.tmp 34],none⟩,⟨some 36,.conv .u64 (.tmp 35),none⟩,⟨some 8,.mov (.tmp 36),none⟩]) (.seq (.ops [⟨some 37,.mov (.tmp 2),none⟩,⟨some 38,.mov (.tmp 8),none⟩,⟨some 39,.shl (.tmp 37) (.tmp 38),none⟩,⟨some 2,.mov (.tmp 39),none⟩]) (.seq (.ops [⟨some 40,.mov (.tmp 2),none⟩,⟨some 41,.shr (.tmp 40) (.const (.int .u64 32)),none⟩,⟨some 9,.mov (.tmp 41),none⟩]) (.seq (.ops [⟨some 42,.mov (.tmp 2),none⟩,⟨some 43,.band (.tmp 42) (.const (.int .u64 4294967295)),none⟩,⟨some 10,.mov (.tmp 43),none⟩]) (.seq (.ops [⟨some 44,.mov (.tmp 0),none⟩,⟨some 45,.mov (.tmp 8),none⟩,⟨some 46,.shl (.tmp 44) (.tmp 45),none⟩,⟨some 47,.mov (.tmp 1),none⟩,⟨some 48,.mov (.tmp 8),none⟩,⟨some 49,.arith .sub (.const (.int .u64 64)) (.tmp 48),none⟩,⟨some 50,.shr (.tmp 47) (.tmp 49),none⟩,⟨some 51,.bor (.tmp 46) (.tmp 50),none⟩,⟨some 11,.mov (.tmp 51),none⟩]) (.seq (.ops [⟨some 52,.mov (.tmp 1),none⟩,⟨some 53,.mov (.tmp 8),none⟩,⟨some 54,.shl (.tmp 52) (.tmp 53),none⟩,⟨some 12,.mov (.tmp 54),none⟩]) (.seq (.ops [⟨some 55,.mov (.tmp 12),none⟩,⟨some 56,.shr (.tmp 55) (.const (.int .u64 32)),none⟩,⟨some 13,.mov (.tmp 56),none⟩]) (.seq (.ops [⟨some 57,.mov (.tmp 12),none⟩,⟨some 58,.band (.tmp 57) (.const (.int .u64 4294967295)),none⟩,⟨some 14,.mov (.tmp 58),none⟩]) (.seq (.ops [⟨some 59,.mov (.tmp 11),none⟩,⟨some 60,.mov (.tmp 9),none⟩,⟨some 61,.arith .quo (.tmp 59) (.tmp 60),none⟩,⟨some 15,.mov (.tmp 61),none⟩]) (.seq (.ops [⟨some 62,.mov (.tmp 11),none⟩,⟨some 63,.mov (.tmp 15),none⟩,⟨some 64,.mov (.tmp 9),none⟩,⟨some 65,.arith .mul (.tmp 63) (.tmp 64),none⟩,⟨some 66,.arith .sub (.tmp 62) (.tmp 65),none⟩,⟨some 16,.mov (.tmp 66),none⟩]) (.seq (.block 0 (.loop (.seq (.seq (.ops [⟨some 67,.mov (.tmp 15),none⟩,⟨some 68,.cmp .geq (.tmp 67) (.const (.int .u64 4294967296)),none⟩,⟨some 69,.mov (.tmp 68),none⟩,⟨some 70,.mov (.tmp 15),some (69,false)⟩,⟨some 71,.mov (.tmp 10),some (69,false)⟩,⟨some 72,.arith .mul (.tmp 70) (.tmp 71),some (69,false)⟩,⟨some 73,.mov (.tmp 16),some (69,false)⟩,⟨some 74,.arith .mul (.const (.int .u64 4294967296)) (.tmp 73),some (69,false)⟩,⟨some 75,.mov (.tmp 13),some (69,false)⟩,⟨some 76,.arith .add (.tmp 74) (.tmp 75),some (69,false)⟩,⟨some 77,.cmp .gtr (.tmp 72) (.tmp 76),some (69,false)⟩,⟨some 78,.pick (.tmp 69) (.const (.bool true)) (.tmp 77),none⟩]) (.cond (.tmp 78) .skip (.exit 0))) (.block 1 (.seq (.ops [⟨some 79,.mov (.tmp 15),none⟩,⟨some 80,.arith .sub (.tmp 79) (.const (.int .u64 1)),none⟩,⟨some 15,.mov (.tmp 80),none⟩]) (.seq (.ops [⟨some 81,.mov (.tmp 16),none⟩,⟨some 82,.mov (.tmp 9),none⟩,⟨some 83,.arith .add (.tmp 81) (.tmp 82),none⟩,⟨some 16,.mov (.tmp 83),none⟩]) (.seq (.ops [⟨some 84,.mov (.tmp 16),none⟩,⟨some 85,.cmp .geq (.tmp 84) (.const (.int .u64 4294967296)),none⟩]) (.cond (.tmp 85) (.exit 0) .skip)))))))) (.seq (.ops [⟨some 86,.mov (.tmp 11),none⟩,⟨some 87,.arith .mul (.tmp 86) (.const (.int .u64 4294967296)),none⟩,⟨some 88,.mov (.tmp 13),none⟩,⟨some 89,.arith .add (.tmp 87) (.tmp 88),none⟩,⟨some 90,.mov (.tmp 15),none⟩,⟨some 91,.mov (.tmp 2),none⟩,⟨some 92,.arith .mul (.tmp 90) (.tmp 91),none⟩,⟨some 93,.arith .sub (.tmp 89) (.tmp 92),none⟩,⟨some 17,.mov (.tmp 93),none⟩]) (.seq (.ops [⟨some 94,.mov (.tmp 17),none⟩,⟨some 95,.mov (.tmp 9),none⟩,⟨some 96,.arith .quo (.tmp 94) (.tmp 95),none⟩,⟨some 18,.mov (.tmp 96),none⟩]) (.seq (.ops [⟨some 97,.mov (.tmp 17),none⟩,⟨some 98,.mov (.tmp 18),none⟩,⟨some 99,.mov (.tmp 9),none⟩,⟨some 100,.arith .mul (.tmp 98) (.tmp 99),none⟩,⟨some 101,.arith .sub (.tmp 97) (.tmp 100),none⟩,⟨some 16,.mov (.tmp 101),none⟩]) (.seq (.block 2 (.loop (.seq (.seq (.ops [⟨some 102,.mov (.tmp 18),none⟩,⟨some 103,.cmp .geq (.tmp 102) (.const (.int .u64 4294967296)),none⟩,⟨some 104,.mov (.tmp 103),none⟩,⟨some 105,.mov (.tmp 18),some (104,false)⟩,⟨some 106,.mov (.tmp 10),some (104,false)⟩,⟨some 107,.arith .mul (.tmp 105) (.tmp 106),some (104,false)⟩,⟨some 108,.mov (.tmp 16),some (104,false)⟩,⟨some 109,.arith .mul (.const (.int .u64 4294967296)) (.tmp 108),some (104,false)⟩,⟨some 110,.mov (.tmp 14),some (104,false)⟩,⟨some 111,.arith .add (.tmp 109) (.tmp 110),some (104,false)⟩,⟨some 112,.cmp .gtr (.tmp 107) (.tmp 111),some (104,false)⟩,⟨some 113,.pick (.tmp 104) (.const (.bool true)) (.tmp 112),none⟩]) (.cond (.tmp 113) .skip (.exit 2))) (.block 3 (.seq (.ops [⟨some 114,.mov (.tmp 18),none⟩,⟨some 115,.arith .sub (.tmp 114) (.const (.int .u64 1)),none⟩,⟨some 18,.mov (.tmp 115),none⟩]) (.seq (.ops [⟨some 116,.mov (.tmp 16),none⟩,⟨some 117,.mov (.tmp 9),none⟩,⟨some 118,.arith .add (.tmp 116) (.tmp 117),none⟩,⟨some 16,.mov (.tmp 118),none⟩]) (.seq (.ops [⟨some 119,.mov (.tmp 16),none⟩,⟨some 120,.cmp .geq (.tmp 119) (.const (.int .u64 4294967296)),none⟩]) (.cond (.tmp 120) (.exit 2) .skip)))))))) (.seq (.ops [⟨some 121,.mov (.tmp 15),none⟩,⟨some 122,.arith .mul (.tmp 121) (.const (.int .u64 4294967296)),none⟩,⟨some 123,.mov (.tmp 18),none⟩,⟨some 124,.arith .add (.tmp 122) (.tmp 123),none⟩,⟨some 125,.mov (.tmp 17),none⟩,⟨some 126,.arith .mul (.tmp 125) (.const (.int .u64 4294967296)),none⟩,⟨some 127,.mov (.tmp 14),none⟩,⟨some 128,.arith .add (.tmp 126) (.tmp 127),none⟩,⟨some 129,.mov (.tmp 18),none⟩,⟨some 130,.mov (.tmp 2),none⟩,⟨some 131,.arith .mul (.tmp 129) (.tmp 130),none⟩,⟨some 132,.arith .sub (.tmp 128) (.tmp 131),none⟩,⟨some 133,.mov (.tmp 8),none⟩,⟨some 134,.shr (.tmp 132) (.tmp 133),none⟩,⟨some 6,.mov (.tmp 124),none⟩,⟨some 7,.mov (.tmp 134),none⟩]) .ret)))))))))))))))))))),135,[.tmp 6,.tmp 7]⟩
theorem c203 : compileFn Go.Proofs.Tryz.prog Go.Proofs.Tryz.f203 = some R203 := by kernel_rfl
def R204 : RFunc :=
  ⟨(.seq (.ops [⟨some 1,.box (.tmp 0),none⟩,⟨some 2,.mov (.const (.int .i64 0)),none⟩]) (.seq (.ops [⟨some 3,.fieldAddr 2 (.tmp 1),none⟩,⟨some 4,.fieldAddr 1 (.tmp 3),none⟩,⟨some 5,.load (.tmp 4),none⟩,⟨some 6,.fieldAddr 0 (.tmp 1),none⟩,⟨some 7,.fieldAddr 1 (.tmp 6),none⟩,⟨some 8,.load (.tmp 7),none⟩,⟨some 9,.arith .sub (.tmp 5) (.tmp 8),none⟩,⟨some 2,.mov (.tmp 9),none⟩]) .ret)),10,[.tmp 2]⟩
theorem c204 : compileFn Go.Proofs.Tryz.prog Go.Proofs.Tryz.f204 = some R204 := by kernel_rfl
def R209 : RFunc :=
  ⟨(.seq (.ops [⟨some 1,.box (.tmp 0),none⟩,⟨some 2,.mov (.const .nilFunc),none⟩]) (.seq (.ops [⟨some 3,.mkFunc (.func 211) [] [.tmp 1],none⟩,⟨some 2,.mov (.tmp 3),none⟩]) .ret)),4,[.tmp 2]⟩
theorem c209 : compileFn Go.Proofs.Tryz.prog Go.Proofs.Tryz.f209 = some R209 := by kernel_rfl
def R210 : RFunc :=
  ⟨(.seq (.ops [⟨some 2,.mov (.const (.int .i64 0)),none⟩]) (.seq (.ops [⟨some 3,.mov (.tmp 0),none⟩,⟨some 4,.call (.func 194) [.tmp 3],none⟩,⟨some 5,.arith .sub (.const (.int .i64 64)) (.tmp 4),none⟩,⟨some 2,.mov (.tmp 5),none⟩]) .ret)),6,[.tmp 2]⟩
theorem c210 : compileFn Go.Proofs.Tryz.prog Go.Proofs.Tryz.f210 = some R210 := by kernel_rfl
theorem a210 {args : List Value} {H : AHeap} {Q : Value → AHeap → Prop} (h : AWP Go.Proofs.Tryz.prog none R210.code (Fin R210 Q) (args ++ List.replicate (R210.ntmps - args.length) undef) H) : ACall Go.Proofs.Tryz.prog 210 args H Q := acall_intro mo Go.Proofs.Tryz.func210 c210 h
def R211 : RFunc :=
  ⟨(.seq (.ops [⟨some 4,.fieldAddr 0 (.tmp 1),none⟩,⟨some 5,.load (.tmp 4),none⟩,⟨some 6,.len (.tmp 5),none⟩,⟨some 7,.arith .sub (.tmp 6) (.const (.int .i64 1)),none⟩,⟨some 8,.mov (.const (.int .i64 0)),none⟩]) (.block 0 (.loop (.seq (.ops [⟨some 9,.cmp .lss (.tmp 8) (.tmp 7),none⟩]) (.seq (.cond (.tmp 9) .skip (.exit 0)) (.seq (.block 1 (.seq (.ops [⟨some 10,.mov (.tmp 8),none⟩,⟨some 3,.mov (.tmp 10),none⟩]) (.seq (.draw [(⟨some 11,.mov (.tmp 0),none⟩,false),(⟨some 12,.mov (.tmp 3),none⟩,false),(⟨some 13,.fieldAddr 0 (.tmp 1),none⟩,false),(⟨some 14,.load (.tmp 13),none⟩,false),(⟨some 15,.mov (.tmp 3),none⟩,false),(⟨some 16,.idxAddr 2 (.tmp 14) (.tmp 15),none⟩,false),(⟨some 17,.loadN 2 (.tmp 16),none⟩,false),(⟨some 18,.fieldAddr 0 (.tmp 1),none⟩,false),(⟨some 19,.load (.tmp 18),none⟩,false),(⟨some 20,.mov (.tmp 3),none⟩,false),(⟨some 21,.arith .add (.tmp 20) (.const (.int .i64 1)),none⟩,false),(⟨some 22,.idxAddr 2 (.tmp 19) (.tmp 21),none⟩,false),(⟨some 23,.loadN 2 (.tmp 22),none⟩,false),(⟨some 24,.build [.int .i64 0,.int .i64 0,.int .i64 0,.int .i64 0] [(0,(2,(.tmp 17))),(2,(2,(.tmp 23)))],none⟩,false),(⟨some 25,.call (.tmp 11) [.tmp 12,.tmp 24],none⟩,true),(⟨some 26,.not (.tmp 25),none⟩,false)]) (.cond (.tmp 26) .ret .skip)))) (.ops [⟨some 27,.arith .add (.tmp 8) (.const (.int .i64 1)),none⟩,⟨some 8,.mov (.tmp 27),none⟩]))))))),28,[]⟩
theorem c211 : compileFn Go.Proofs.Tryz.prog Go.Proofs.Tryz.f211 = some R211 := by kernel_rfl
def R232 : RFunc :=
  ⟨(.seq (.ops [⟨some 2,.mov (.const (.slice none 0 0)),none⟩]) (.seq (.ops [⟨some 3,.mov (.tmp 0),none⟩,⟨some 4,.arith .sub (.const (.int .i64 64)) (.tmp 3),none⟩,⟨some 5,.mov (.tmp 0),none⟩,⟨some 6,.buildSlice 1 2 [.int .i64 0,.int .i64 0] [(0,(1,(.tmp 4))),(1,(1,(.tmp 5)))],none⟩,⟨some 2,.mov (.tmp 6),none⟩]) .ret)),7,[.tmp 2]⟩
theorem c232 : compileFn Go.Proofs.Tryz.prog Go.Proofs.Tryz.f232 = some R232 := by kernel_rfl
theorem a232 {args : List Value} {H : AHeap} {Q : Value → AHeap → Prop} (h : AWP Go.Proofs.Tryz.prog none R232.code (Fin R232 Q) (args ++ List.replicate (R232.ntmps - args.length) undef) H) : ACall Go.Proofs.Tryz.prog 232 args H Q := acall_intro mo Go.Proofs.Tryz.func232 c232 h
def R233 : RFunc :=
  ⟨(.seq (.ops [⟨some 2,.mov (.const (.int .i64 0)),none⟩]) (.seq (.ops [⟨some 3,.mov (.tmp 0),none⟩,⟨some 4,.mov (.tmp 0),none⟩,⟨some 5,.arith .sub (.tmp 4) (.const (.int .i64 64)),none⟩,⟨some 6,.arith .mul (.tmp 3) (.tmp 5),none⟩,⟨some 2,.mov (.tmp 6),none⟩]) .ret)),7,[.tmp 2]⟩
theorem c233 : compileFn Go.Proofs.Tryz.prog Go.Proofs.Tryz.f233 = some R233 := by kernel_rfl
theorem a233 {args : List Value} {H : AHeap} {Q : Value → AHeap → Prop} (h : AWP Go.Proofs.Tryz.prog none R233.code (Fin R233 Q) (args ++ List.replicate (R233.ntmps - args.length) undef) H) : ACall Go.Proofs.Tryz.prog 233 args H Q := acall_intro mo Go.Proofs.Tryz.func233 c233 h
def R234 : RFunc :=
  ⟨(.seq (.ops [⟨some 2,.mov (.const (.slice none 0 0)),none⟩]) (.seq (.ops [⟨some 6,.mov (.tmp 0),none⟩,⟨some 7,.arith .add (.tmp 6) (.const (.int .i64 64)),none⟩,⟨some 8,.mov (.tmp 0),none⟩,⟨some 9,.arith .sub (.tmp 8) (.const (.int .i64 64)),none⟩,⟨some 10,.mov (.tmp 0),none⟩,⟨some 11,.arith .sub (.tmp 10) (.const (.int .i64 128)),none⟩,⟨some 3,.mov (.tmp 7),none⟩,⟨some 4,.mov (.tmp 9),none⟩,⟨some 5,.mov (.tmp 11),none⟩]) (.seq (.ops [⟨some 12,.mov (.tmp 0),none⟩,⟨some 13,.neg (.tmp 12),none⟩,⟨some 14,.mov (.tmp 4),none⟩,⟨some 15,.arith .mul (.tmp 13) (.tmp 14),none⟩,⟨some 16,.mov (.tmp 5),none⟩,⟨some 17,.arith .mul (.tmp 15) (.tmp 16),none⟩,⟨some 18,.mov (.tmp 3),none⟩,⟨some 19,.arith .mul (.const (.int .i64 3)) (.tmp 18),none⟩,⟨some 20,.mov (.tmp 4),none⟩,⟨some 21,.arith .mul (.tmp 19) (.tmp 20),none⟩,⟨some 22,.mov (.tmp 5),none⟩,⟨some 23,.arith .mul (.tmp 21) (.tmp 22),none⟩,⟨some 24,.mov (.tmp 3),none⟩,⟨some 25,.arith .mul (.const (.int .i64 (-3))) (.tmp 24),none⟩,⟨some 26,.mov (.tmp 0),none⟩,⟨some 27,.arith .mul (.tmp 25) (.tmp 26),none⟩,⟨some 28,.mov (.tmp 5),none⟩,⟨some 29,.arith .mul (.tmp 27) (.tmp 28),none⟩,⟨some 30,.mov (.tmp 3),none⟩,⟨some 31,.mov (.tmp 0),none⟩,⟨some 32,.arith .mul (.tmp 30) (.tmp 31),none⟩,⟨some 33,.mov (.tmp 4),none⟩,⟨some 34,.arith .mul (.tmp 32) (.tmp 33),none⟩,⟨some 35,.buildSlice 1 4 [.int .i64 0,.int .i64 0,.int .i64 0,.int .i64 0] [(0,(1,(.tmp 17))),(1,(1,(.tmp 23))),(2,(1,(.tmp 29))),(3,(1,(.tmp 34)))],none⟩,⟨some 2,.mov (.tmp 35),none⟩]) .ret))),36,[.tmp 2]⟩
theorem c234 : compileFn Go.Proofs.Tryz.prog Go.Proofs.Tryz.f234 = some R234 := by kernel_rfl
def R235 : RFunc :=
  ⟨(.seq (.ops [⟨some 2,.mov (.const (.int .i64 0)),none⟩]) (.seq (.ops [⟨some 3,.mov (.tmp 0),none⟩,⟨some 4,.arith .add (.tmp 3) (.const (.int .i64 64)),none⟩,⟨some 5,.mov (.tmp 0),none⟩,⟨some 6,.arith .mul (.tmp 4) (.tmp 5),none⟩,⟨some 7,.mov (.tmp 0),none⟩,⟨some 8,.arith .sub (.tmp 7) (.const (.int .i64 64)),none⟩,⟨some 9,.arith .mul (.tmp 6) (.tmp 8),none⟩,⟨some 10,.mov (.tmp 0),none⟩,⟨some 11,.arith .sub (.tmp 10) (.const (.int .i64 128)),none⟩,⟨some 12,.arith .mul (.tmp 9) (.tmp 11),none⟩,⟨some 2,.mov (.tmp 12),none⟩]) .ret)),13,[.tmp 2]⟩
theorem c235 : compileFn Go.Proofs.Tryz.prog Go.Proofs.Tryz.f235 = some R235 := by kernel_rfl
end Go.Lq

namespace Go.Lq
open Go
section
variable {H : AHeap}
theorem within_c (n lo hi : Int) : ACall Go.Proofs.Tryz.prog 108 [.int .i64 n,.int .i64 lo,.int .i64 hi] H fun v H' => v = .bool (decide (lo ≤ n ∧ n ≤ hi)) ∧ H' = H := by
  (refine a108 ?_; simp only [n108,List.replicate,yq,yr,yt,yu]; first | refine q1 ?_ | refine q2 ?_ | refine q6 ?_ | refine q7 ?_ | refine qh rfl ?_ | skip)
  refine yx ?_; (refine aops_until (by simp (disch:=first|exact zz|fail) only[go_sem]; with_reducible rfl) ?_); refine yx ?_
  by_cases h : lo ≤ n
  · (refine aops_until (by simp (disch:=first|exact zz|fail) only[go_sem,h]; with_reducible rfl) ?_)
    refine yx ?_
    refine fin_1 ⟨?_,rfl⟩
    simp [h]
  · (refine aops_until (by simp (disch:=first|exact zz|fail) only[go_sem,h]; with_reducible rfl) ?_)
    refine yx ?_
    refine fin_1 ⟨?_,rfl⟩
    simp [h]
theorem bwithin_c (n lo hi : Int) : ACall Go.Proofs.Tryz.prog 47 [.int .i64 n,.int .i64 lo,.int .i64 hi] H fun v H' => v = .bool (decide (lo ≤ n ∧ n ≤ hi)) ∧ H' = H := by
  (refine a47 ?_; simp only [n47,List.replicate,yq,yr,yt,yu]; first | refine q1 ?_ | refine q2 ?_ | refine q6 ?_ | refine q7 ?_ | refine qh rfl ?_ | skip)
  refine yx ?_; (refine aops_until (by simp (disch:=first|exact zz|fail) only[go_sem]; with_reducible rfl) ?_); refine yx ?_
  by_cases h : lo ≤ n
  · (refine aops_until (by simp (disch:=first|exact zz|fail) only[go_sem,h]; with_reducible rfl) ?_)
    refine yx ?_
    refine fin_1 ⟨?_,rfl⟩
    simp [h]
  · (refine aops_until (by simp (disch:=first|exact zz|fail) only[go_sem,h]; with_reducible rfl) ?_)
    refine yx ?_
    refine fin_1 ⟨?_,rfl⟩
    simp [h]
theorem isSized_c (n m : Int) (hm : -9223372036854775807 ≤ m ∧ m ≤ 9223372036854775807) : ACall Go.Proofs.Tryz.prog 151 [.int .i64 n,.int .i64 m] H fun v H' => v = .bool (decide (-m ≤ n ∧ n ≤ m)) ∧ H' = H := by
  (refine a151 ?_; simp only [n151,List.replicate,yq,yr,yt,yu]; first | refine q1 ?_ | refine q2 ?_ | refine q6 ?_ | refine q7 ?_ | refine qh rfl ?_ | skip)
  refine yx ?_; (refine aops_until (by simp (disch:=first|exact zz|fail) only[go_sem]; with_reducible rfl) ?_); refine yx ?_
  (refine aops_until (by simp (disch:=first|exact zz|fail) only[go_sem]; with_reducible rfl) ?_)
  refine aops_call_to (within_c _ _ _) ?_
  (refine aops_until (by simp (disch:=first|exact zz|fail) only[go_sem]; with_reducible rfl) ?_)
  refine yx ?_
  refine fin_1 ⟨?_,rfl⟩
  simp
theorem unless_c (b : Bool) (e : Int) : ACall Go.Proofs.Tryz.prog 61 [.bool b,.int .i64 e] H fun v H' => v = .int .i64 (if b then 0 else e) ∧ H' = H := by
  (refine a61 ?_; simp only [n61,List.replicate,yq,yr,yt,yu]; first | refine q1 ?_ | refine q2 ?_ | refine q6 ?_ | refine q7 ?_ | refine qh rfl ?_ | skip)
  refine yx ?_; (refine aops_until (by simp (disch:=first|exact zz|fail) only[go_sem]; with_reducible rfl) ?_); refine yx ?_; (refine aops_until (by simp (disch:=first|exact zz|fail) only[go_sem]; with_reducible rfl) ?_); refine yx ?_
  cases b with
  | true =>
    refine cond_t rfl ?_
    refine yx ?_; (refine aops_until (by simp (disch:=first|exact zz|fail) only[go_sem]; with_reducible rfl) ?_); refine yx ?_
    exact fin_1 ⟨rfl,rfl⟩
  | false =>
    refine cond_f rfl ?_
    refine yx ?_; (refine aops_until (by simp (disch:=first|exact zz|fail) only[go_sem]; with_reducible rfl) ?_); refine yx ?_
    exact fin_1 ⟨rfl,rfl⟩
def firstErr (l : List Int) : Int := (l.find? (fun e => decide (e ≠ 0))).getD 0
theorem firstErr_nil : firstErr [] = 0 := rfl
theorem firstErr_z (l : List Int) : firstErr (0 :: l) = firstErr l := by simp [firstErr]
theorem firstErr_e {e : Int} (h : e ≠ 0) (l : List Int) : firstErr (e :: l) = e := by simp [firstErr,h]
theorem ite_tt {α : Type} (a b : α) : (if true = true then a else b) = a := rfl
theorem ite_ft {α : Type} (a b : α) : (if false = true then a else b) = b := rfl
attribute [go_sem] firstErr_nil firstErr_z firstErr_e ite_tt ite_ft if_true if_false
theorem first_c {l : List Int} {v : Value} (hl : Ints H l v) (hb : l.length ≤ 1000000) : ACall Go.Proofs.Tryz.prog 105 [v] H fun v H' => v = .int .i64 (firstErr l) ∧ H' = H := by
  (refine a105 ?_; simp only [n105,List.replicate,yq,yr,yt,yu]; first | refine q1 ?_ | refine q2 ?_ | refine q6 ?_ | refine q7 ?_ | refine qh rfl ?_ | skip)
  refine yx ?_; (refine aops_until (by simp (disch:=first|exact zz|fail) only[go_sem]; with_reducible rfl) ?_); refine yx ?_; (refine aops_until (by simp (disch:=first|exact zz|fail) only[go_sem,hl.len,hl.idx,hl.load]; with_reducible rfl) ?_); refine yx ?_
  refine awp_loop_n [true,false,true,false,false,true,true,true,false,false,false,false,false,false,false] l.length (fun i e H' => H' = H ∧ e = [v,junk,.int .i64 0,junk,junk,v,.int .i64 l.length,.int .i64 i,junk,junk,junk,junk,junk,junk,junk] ∧ ∀ j < i,l.getD j 0 = 0) ?_ ?_
  · exact ⟨rfl,rfl,by omega⟩
  · rintro i e H' hi ⟨rfl,rfl,hp⟩
    refine yx ?_; (refine aops_until (by simp (disch:=first|exact zz|fail) only[go_sem,hl.len,hl.idx,hl.load]; with_reducible rfl) ?_); refine yx ?_
    refine cond_p rfl (fun hlt => ?_) (fun hge => ?_)
    · refine yx ?_; (refine aops_until (by simp (disch:=first|exact zz|fail) only[go_sem,hl.len,hl.idx,hl.load]; with_reducible rfl) ?_); refine yx ?_; (refine aops_until (by simp (disch:=first|exact zz|fail) only[go_sem]; with_reducible rfl) ?_); refine yx ?_
      refine cond_p rfl (fun hne => ?_) (fun heq => ?_)
      · refine yx ?_; (refine aops_until (by simp (disch:=first|exact zz|fail) only[go_sem]; with_reducible rfl) ?_); refine yx ?_
        refine fin_1 ⟨?_,rfl⟩
        unfold firstErr
        rw [find_at (d := 0) (i := i) (by omega) (fun j hj => by simpa using hp j hj) (by simpa using hne)]
        rfl
      · refine yx ?_; (refine aops_until (by simp (disch:=first|exact zz|fail) only[go_sem]; with_reducible rfl) ?_); refine yx ?_
        refine ⟨by omega,rfl,?_,fun j hj => ?_⟩
        · simp [forget]
        · by_cases h : j = i
          · subst h; simpa using heq
          · exact hp j (by omega)
    · refine yx ?_; (refine aops_until (by simp (disch:=first|exact zz|fail) only[go_sem]; with_reducible rfl) ?_); refine yx ?_
      refine fin_1 ⟨?_,rfl⟩
      unfold firstErr
      rw [find_none (d := 0) (fun j hj => by simpa using hp j (by omega))]
      rfl
def Asks (fv : Value) (p : Int → Bool) : Prop := ∀ n H,AInvoke Go.Proofs.Tryz.prog fv [.int .i64 n] H fun v H' => v = .bool (p n) ∧ H' = H
theorem indexFunc_c {l : List Int} {v fv : Value} {p : Int → Bool} (hl : Ints H l v) (hf : Asks fv p) (hb : l.length ≤ 1000000000) :
    ACall Go.Proofs.Tryz.prog 149 [v,fv] H fun v H' => (∃ i : Int,v = .int .i64 i ∧ (l.any p = decide (0 ≤ i))) ∧ H' = H := by
  (refine a149 ?_; simp only [n149,List.replicate,yq,yr,yt,yu]; first | refine q1 ?_ | refine q2 ?_ | refine q6 ?_ | refine q7 ?_ | refine qh rfl ?_ | skip)
  refine yx ?_; (refine aops_until (by simp (disch:=first|exact zz|fail) only[go_sem]; with_reducible rfl) ?_); refine yx ?_; (refine aops_until (by simp (disch:=first|exact zz|fail) only[go_sem,hl.len,hl.idx,hl.load]; with_reducible rfl) ?_); refine yx ?_
  refine awp_loop_n [true,true,false,false,true,false,true,true,true,false,false,false,false,false,false,false,false,false,false] l.length (fun i e H' => H' = H ∧ e = [v,fv,junk,junk,.int .i64 0,junk,v,.int .i64 l.length,.int .i64 i,junk,junk,junk,junk,junk,junk,junk,junk,junk,junk] ∧ ∀ j < i,p (l.getD j 0) = false) ?_ ?_
  · exact ⟨rfl,rfl,by omega⟩
  · rintro i e H' hi ⟨rfl,rfl,hp⟩
    refine yx ?_; (refine aops_until (by simp (disch:=first|exact zz|fail) only[go_sem,hl.len,hl.idx,hl.load]; with_reducible rfl) ?_); refine yx ?_
    refine cond_p rfl (fun hlt => ?_) (fun hge => ?_)
    · refine yx ?_; (refine aops_until (by simp (disch:=first|exact zz|fail) only[go_sem,hl.len,hl.idx,hl.load]; with_reducible rfl) ?_); refine yx ?_; (refine aops_until (by simp (disch:=first|exact zz|fail) only[go_sem,hl.len,hl.idx,hl.load]; with_reducible rfl) ?_)
      refine aops_call_to (hf _ _) ?_
      (refine aops_until (by simp (disch:=first|exact zz|fail) only[go_sem]; with_reducible rfl) ?_); refine yx ?_
      cases hq : p (l.getD i 0) with
      | true =>
        refine cond_t (by rw [← hq]; rfl) ?_
        refine yx ?_; (refine aops_until (by simp (disch:=first|exact zz|fail) only[go_sem]; with_reducible rfl) ?_); refine yx ?_
        refine fin_1 ⟨⟨i,rfl,?_⟩,rfl⟩
        rw [any_at (d := 0) (i := i) (by omega) hq]
        simp
      | false =>
        refine cond_f (by rw [← hq]; rfl) ?_
        refine yx ?_; (refine aops_until (by simp (disch:=first|exact zz|fail) only[go_sem]; with_reducible rfl) ?_); refine yx ?_
        refine ⟨by omega,rfl,?_,fun j hj => ?_⟩
        · simp [forget]
        · by_cases h : j = i
          · subst h; exact hq
          · exact hp j (by omega)
    · refine yx ?_; (refine aops_until (by simp (disch:=first|exact zz|fail) only[go_sem]; with_reducible rfl) ?_); refine yx ?_
      refine fin_1 ⟨⟨-1,rfl,?_⟩,rfl⟩
      rw [any_none (d := 0) fun j hj => hp j (by omega)]
      simp
theorem containsFunc_c {l : List Int} {v fv : Value} {p : Int → Bool} (hl : Ints H l v) (hf : Asks fv p) (hb : l.length ≤ 1000000000) :
    ACall Go.Proofs.Tryz.prog 102 [v,fv] H fun v H' => v = .bool (l.any p) ∧ H' = H := by
  (refine a102 ?_; simp only [n102,List.replicate,yq,yr,yt,yu]; first | refine q1 ?_ | refine q2 ?_ | refine q6 ?_ | refine q7 ?_ | refine qh rfl ?_ | skip)
  refine yx ?_; (refine aops_until (by simp (disch:=first|exact zz|fail) only[go_sem]; with_reducible rfl) ?_); refine yx ?_; (refine aops_until (by simp (disch:=first|exact zz|fail) only[go_sem]; with_reducible rfl) ?_)
  refine aops_call ((indexFunc_c hl hf hb).mono fun v1 H1 ⟨⟨i,h1,h2⟩,h3⟩ => ?_)
  subst h1; subst h3
  (refine aops_until (by simp (disch:=first|exact zz|fail) only[go_sem]; with_reducible rfl) ?_); refine yx ?_
  refine fin_1 ⟨?_,rfl⟩
  simp [h2]
def sizedB (m n : Int) : Bool := decide (-m ≤ n ∧ n ≤ m)
def positionsErrL (l : List Int) : Int := if 200 < l.length then 8 else if l.all (sizedB 1000000) then 0 else 2
end
end Go.Lq

namespace Go.Lq
def nodeE (p n : Int × Int) : Int := firstErr [(if (0 ≤ n.1 ∧ n.1 ≤ 1000000) ∧ (0 ≤ n.2 ∧ n.2 ≤ 1000000000000) then 0 else 2),(if p.1 < n.1 ∧ p.2 < n.2 then 0 else 9)]
def ckGo (p : Int × Int) (i : Nat) : List (Int × Int) → Int × Int
  | [] => (0,0)
  | n :: r => if nodeE p n ≠ 0 then (i,nodeE p n) else ckGo n (i + 1) r
def ckMap (l : List (Int × Int)) : Int × Int := if l.length < 2 then (0,10) else if 20 < l.length then (0,8) else ckGo (-1,-1) 0 l
def mapErrL (l : List (Int × Int)) : Int := (ckMap l).2
def prevAt (l : List (Int × Int)) (i : Nat) : Int × Int := if i = 0 then (-1,-1) else l.getD (i - 1) (0,0)
theorem drop_pair {l : List (Int × Int)} {i : Nat} (h : i < l.length) : l.drop i = l.getD i (0,0) :: l.drop (i + 1) := by
  rw [List.drop_eq_getElem_cons h,List.getD_eq_getElem?_getD,List.getElem?_eq_getElem h]; rfl
theorem prevAt_succ {l : List (Int × Int)} {i : Nat} : prevAt l (i + 1) = l.getD i (0,0) := by unfold prevAt; rw [if_neg (by omega),Nat.add_sub_cancel]
theorem ckGo_at {l : List (Int × Int)} {i : Nat} (h : i < l.length) : ckGo (prevAt l i) i (l.drop i) = if nodeE (prevAt l i) (l.getD i (0,0)) ≠ 0 then ((i : Int),nodeE (prevAt l i) (l.getD i (0,0))) else ckGo (prevAt l (i + 1)) (i + 1) (l.drop (i + 1)) := by
  rw [drop_pair h,prevAt_succ]; rfl
theorem ckGo_end {p : Int × Int} {l : List (Int × Int)} {i : Nat} : ckGo p i (l.drop l.length) = (0,0) := by rw [List.drop_length]; rfl
theorem nodeE_ok {p n : Int × Int} (h : nodeE p n = 0) : ((0 ≤ n.1 ∧ n.1 ≤ 1000000) ∧ (0 ≤ n.2 ∧ n.2 ≤ 1000000000000)) ∧ p.1 < n.1 ∧ p.2 < n.2 := by
  unfold nodeE firstErr at h
  by_cases h1 : (0 ≤ n.1 ∧ n.1 ≤ 1000000) ∧ (0 ≤ n.2 ∧ n.2 ≤ 1000000000000)
  · refine ⟨h1,?_⟩
    by_cases h2 : p.1 < n.1 ∧ p.2 < n.2
    · exact h2
    · rw [if_pos h1,if_neg h2] at h; simp at h
  · rw [if_neg h1] at h; simp at h
theorem nodeE_r {p n : Int × Int} (h : ¬ ((0 ≤ n.1 ∧ n.1 ≤ 1000000) ∧ (0 ≤ n.2 ∧ n.2 ≤ 1000000000000))) : nodeE p n = 2 := by unfold nodeE firstErr; rw [if_neg h]; simp
theorem nodeE_o {p n : Int × Int} (h : (0 ≤ n.1 ∧ n.1 ≤ 1000000) ∧ (0 ≤ n.2 ∧ n.2 ≤ 1000000000000)) (h2 : ¬ (p.1 < n.1 ∧ p.2 < n.2)) : nodeE p n = 9 := by unfold nodeE firstErr; rw [if_pos h,if_neg h2]; simp
theorem nodeE_z {p n : Int × Int} (h : (0 ≤ n.1 ∧ n.1 ≤ 1000000) ∧ (0 ≤ n.2 ∧ n.2 ≤ 1000000000000)) (h2 : p.1 < n.1 ∧ p.2 < n.2) : nodeE p n = 0 := by unfold nodeE firstErr; rw [if_pos h,if_pos h2]; simp
theorem ckGo_from {l : List (Int × Int)} : ∀ {i : Nat},(∀ j,j < i → nodeE (prevAt l j) (l.getD j (0,0)) = 0) → i ≤ l.length → ckGo (-1,-1) 0 l = ckGo (prevAt l i) i (l.drop i)
  | 0,_,_ => rfl
  | i + 1,h,hi => by
    rw [ckGo_from (i := i) (fun j hj => h j (by omega)) (by omega),ckGo_at (by omega),if_neg (by rw [h i (by omega)]; simp)]
theorem ckGo_ok {l : List (Int × Int)} : ∀ {k i : Nat},i + k = l.length → (ckGo (prevAt l i) i (l.drop i)).2 = 0 → ∀ j,i ≤ j → j < l.length → nodeE (prevAt l j) (l.getD j (0,0)) = 0
  | 0,i,hk,_,j,h1,h2 => by omega
  | k + 1,i,hk,h,j,h1,h2 => by
    rw [ckGo_at (by omega)] at h
    by_cases he : nodeE (prevAt l i) (l.getD i (0,0)) = 0
    · rw [if_neg (by rw [he]; simp)] at h
      by_cases hj : j = i
      · subst hj; exact he
      · exact ckGo_ok (k := k) (i := i + 1) (by omega) h j (by omega) h2
    · rw [if_pos he] at h; exact absurd h he
structure MapOk (l : List (Int × Int)) : Prop where
  lo : 2 ≤ l.length
  hi : l.length ≤ 20
  pos : ∀ i,i < l.length → 0 ≤ (l.getD i (0,0)).1 ∧ (l.getD i (0,0)).1 ≤ 1000000
  time : ∀ i,i < l.length → 0 ≤ (l.getD i (0,0)).2 ∧ (l.getD i (0,0)).2 ≤ 1000000000000
  posUp : ∀ i,i + 1 < l.length → (l.getD i (0,0)).1 < (l.getD (i + 1) (0,0)).1
  timeUp : ∀ i,i + 1 < l.length → (l.getD i (0,0)).2 < (l.getD (i + 1) (0,0)).2
theorem mapErr_ok {l : List (Int × Int)} (h : mapErrL l = 0) : MapOk l := by
  unfold mapErrL ckMap at h
  by_cases h1 : l.length < 2
  · rw [if_pos h1] at h; simp at h
  by_cases h2 : 20 < l.length
  · rw [if_neg h1,if_pos h2] at h; simp at h
  rw [if_neg h1,if_neg h2] at h
  have hk := fun j hj => nodeE_ok (ckGo_ok (l := l) (k := l.length) (i := 0) (by omega) h j (Nat.zero_le _) hj)
  refine ⟨by omega,by omega,fun i hi => (hk i hi).1.1,fun i hi => (hk i hi).1.2,fun i hi => ?_,fun i hi => ?_⟩
  · have := (hk (i + 1) hi).2.1; rwa [prevAt_succ] at this
  · have := (hk (i + 1) hi).2.2; rwa [prevAt_succ] at this
theorem MapOk.posLt {l : List (Int × Int)} (h : MapOk l) : ∀ {k i : Nat},i + k + 1 < l.length → (l.getD i (0,0)).1 < (l.getD (i + k + 1) (0,0)).1
  | 0,i,hi => h.posUp i hi
  | k + 1,i,hi => Int.lt_trans (h.posLt (k := k) (by omega)) (h.posUp (i + k + 1) hi)
theorem MapOk.posLe {l : List (Int × Int)} (h : MapOk l) {i j : Nat} (hij : i ≤ j) (hj : j < l.length) : (l.getD i (0,0)).1 ≤ (l.getD j (0,0)).1 := by
  by_cases e : i = j
  · subst e; omega
  · have := h.posLt (k := j - i - 1) (i := i) (by omega)
    rw [show i + (j - i - 1) + 1 = j by omega] at this; omega
def pieceOf (l : List (Int × Int)) (i : Nat) : (Int × Int) × (Int × Int) := (l.getD i (0,0),l.getD (i + 1) (0,0))
end Go.Lq


namespace Go.Lq
def atPos (l : List (Int × Int)) (t : Int) (i : Nat) : Nat → Nat
  | 0 => i
  | k + 1 => if (l.getD (i + 1) (0,0)).1 < t then atPos l t (i + 1) k else i
theorem atPos_succ {l : List (Int × Int)} {t : Int} {i k : Nat} : atPos l t i (k + 1) = if (l.getD (i + 1) (0,0)).1 < t then atPos l t (i + 1) k else i := rfl
theorem atPos_in {l : List (Int × Int)} {t : Int} : ∀ {k i : Nat},i + k + 1 < l.length → (l.getD i (0,0)).1 ≤ t → atPos l t i k + 1 < l.length ∧ (l.getD (atPos l t i k) (0,0)).1 ≤ t
  | 0,i,h,h2 => ⟨by show i + 1 < _; omega,h2⟩
  | k + 1,i,h,h2 => by
    rw [atPos_succ]
    split
    · exact atPos_in (by omega) (by omega)
    · exact ⟨by omega,h2⟩
theorem atPos_up {l : List (Int × Int)} {t : Int} : ∀ {k i : Nat},i + k + 2 = l.length → t ≤ (l.getD (l.length - 1) (0,0)).1 → t ≤ (l.getD (atPos l t i k + 1) (0,0)).1
  | 0,i,h,ht => by
    show t ≤ (l.getD (i + 1) (0,0)).1
    rwa [show l.length - 1 = i + 1 by omega] at ht
  | k + 1,i,h,ht => by
    rw [atPos_succ]
    split
    · exact atPos_up (by omega) ht
    · omega
def timN (p : (Int × Int) × (Int × Int)) (n : Int) : Int := p.1.2 * (p.2.1 - p.1.1) + (p.2.2 - p.1.2) * (n - p.1.1)
def timLo (p : (Int × Int) × (Int × Int)) (n : Int) : Int := timN p n / (p.2.1 - p.1.1)
def timHi (p : (Int × Int) × (Int × Int)) (n : Int) : Int := -(-timN p n / (p.2.1 - p.1.1))
theorem timLo_eq {p : (Int × Int) × (Int × Int)} {n : Int} (h : p.1.1 < p.2.1) : timLo p n = p.1.2 + (p.2.2 - p.1.2) * (n - p.1.1) / (p.2.1 - p.1.1) := by
  unfold timLo timN
  rw [Int.add_comm,Int.mul_comm p.1.2,Int.add_mul_ediv_left _ _ (show p.2.1 - p.1.1 ≠ 0 by omega)]
  omega
theorem timLo_first {p : (Int × Int) × (Int × Int)} (h : p.1.1 < p.2.1) : timLo p p.1.1 = p.1.2 := by
  rw [timLo_eq h,Int.sub_self,Int.mul_zero,Int.zero_ediv]; omega
theorem timLo_last {p : (Int × Int) × (Int × Int)} (h : p.1.1 < p.2.1) : timLo p p.2.1 = p.2.2 := by
  rw [timLo_eq h,Int.mul_ediv_cancel _ (show p.2.1 - p.1.1 ≠ 0 by omega)]; omega
theorem MapOk.posInj {l : List (Int × Int)} (h : MapOk l) {i j : Nat} (hij : i < j) (hj : j < l.length) : (l.getD i (0,0)).1 < (l.getD j (0,0)).1 := by
  have := h.posLt (k := j - i - 1) (i := i) (by omega)
  rwa [show i + (j - i - 1) + 1 = j by omega] at this
end Go.Lq

namespace Go.Lq
open Go
section
variable {H : AHeap}
theorem copyInts_c {l : List Int} {v : Value} (hl : Ints H l v) (hb : l.length ≤ 1000000000) :
    ACall Go.Proofs.Tryz.prog 8 [v] H fun v H1 => v = .slice (some ⟨H.length,0,none⟩) l.length l.length ∧ H1 = H ++ [.cells true 1 (l.map (.int .i64))] := by
  refine ACall.tidyE (f := id) (sz := 1) (n := l.length) (vs := l.map (.int .i64)) wraps_id (closed_ints l) ?_
  (refine a8 ?_; simp only [n8,List.replicate,yq,yr,yt,yu]; first | refine q1 ?_ | refine q2 ?_ | refine q6 ?_ | refine q7 ?_ | refine qh rfl ?_ | skip)
  rcases hl with ⟨h1,h2⟩
  rcases h2 with ⟨rfl,hn⟩ | ⟨id,off,c,rfl,hc⟩
  · have : l = [] := List.length_eq_zero_iff.1 hn
    subst this
    have ha : appendA 1 8 (H ++ [.cells true 1 []]) (.slice (some ⟨H.length,0,none⟩) 0 0) (.slice none 0 0) = some (.slice (some ⟨H.length,0,none⟩) 0 0,H ++ [.cells true 1 []]) := rfl
    (repeat(first|refine yw ?_|((first|apply yd|apply ye);simp (disch:=first|exact zz|fail) only[go_sem,ha];with_reducible rfl)))
    exact fin_1 ⟨_,H.length,rfl,⟨_,rfl⟩,rfl,Nat.le_refl _,by simp⟩
  · by_cases hn : l.length = 0
    · have : l = [] := List.length_eq_zero_iff.1 hn
      subst this
      have ha : appendA 1 8 (H ++ [.cells true 1 []]) (.slice (some ⟨H.length,0,none⟩) 0 0) (.slice (some ⟨id,off,none⟩) ([] : List Int).length c) = some (.slice (some ⟨H.length,0,none⟩) 0 0,H ++ [.cells true 1 []]) := rfl
      (repeat(first|refine yw ?_|((first|apply yd|apply ye);simp (disch:=first|exact zz|fail) only[go_sem,ha];with_reducible rfl)))
      exact fin_1 ⟨_,H.length,rfl,⟨_,rfl⟩,rfl,Nat.le_refl _,by simp⟩
    · have ha : appendA 1 8 (H ++ [.cells true 1 []]) (.slice (some ⟨H.length, 0, none⟩) 0 0) (.slice (some ⟨id, off, none⟩) l.length c) =
          some (.slice (some ⟨(H ++ [AObj.cells true 1 []]).length,0,none⟩) l.length l.length,(H ++ [.cells true 1 []]) ++ [.cells true 1 (l.map (.int .i64))]) := by
        obtain ⟨k,hk⟩ : ∃ k,l.length = k + 1 := ⟨l.length - 1,by omega⟩
        have hc' := cellsAt_ext ⟨[AObj.cells true 1 []],rfl⟩ (hc (by omega))
        have hr : roomOk 8 (0 + l.length) = true := roomOk_of (by omega) (by omega)
        rw [hk] at hc' hr ⊢
        simp only [appendA,hc',isAtom_ints,hr,and_self,if_true]
      (repeat(first|refine yw ?_|((first|apply yd|apply ye);simp (disch:=first|exact zz|fail) only[go_sem,ha];with_reducible rfl)))
      refine fin_1 ?_
      exact ⟨_,(H ++ [AObj.cells true 1 []]).length,rfl,⟨_,List.append_assoc _ _ _⟩,rfl,by simp,by simp⟩
theorem bints_c {a b : List Int} {va vb : Value} (ha : Ints H a va) (hb : Ints H b vb) (hl : a.length ≤ 1000000000) (_ : b.length ≤ 1000000000) : ACall Go.Proofs.Tryz.prog 12 [va,vb] H fun v H' => v = .bool (decide (a = b)) ∧ H' = H := by
  (refine a12 ?_; simp only [n12,List.replicate,yq,yr,yt,yu]; first | refine q1 ?_ | refine q2 ?_ | refine q6 ?_ | refine q7 ?_ | refine qh rfl ?_ | skip)
  (repeat(first|refine yw ?_|((first|apply yd|apply ye);simp (disch:=first|exact zz|fail) only[go_sem,ha.len,ha.idx,ha.load,hb.len,hb.idx,hb.load];with_reducible rfl)))
  refine cond_p rfl (fun hlt => ?_) (fun hge => ?_)
  · (refine yg ?_)
    refine fin_1 ⟨?_,rfl⟩
    have : a ≠ b := fun h => hlt (by rw [h])
    simp [this]
  · (refine yg ?_)
    have hlen : a.length = b.length := by omega
    refine awp_loop_n [true,true,false,false,false,true,false,false,false,false,false,false,false,false,false,false,false,false,false,false,false,false,false,false,false,false] a.length (fun i e H' => H' = H ∧ e = [va,vb,junk,junk,junk,.int .i64 i,junk,junk,junk,junk,junk,junk,junk,junk,junk,junk,junk,junk,junk,junk,junk,junk,junk,junk,junk,junk] ∧ ∀ j < i,a.getD j 0 = b.getD j 0) ?_ ?_
    · exact ⟨rfl,rfl,by omega⟩
    · rintro i e H' hi ⟨rfl,rfl,hp⟩
      (repeat(first|refine yw ?_|((first|apply yd|apply ye);simp (disch:=first|exact zz|fail) only[go_sem,ha.len,ha.idx,ha.load,hb.len,hb.idx,hb.load];with_reducible rfl)))
      refine cond_p rfl (fun hlt => ?_) (fun hge => ?_)
      · (repeat(first|refine yw ?_|((first|apply yd|apply ye);simp (disch:=first|exact zz|fail) only[go_sem,ha.len,ha.idx,ha.load,hb.len,hb.idx,hb.load];with_reducible rfl)))
        refine cond_p rfl (fun hne => ?_) (fun heq => ?_)
        · (refine yg ?_)
          refine fin_1 ⟨?_,rfl⟩
          have : a ≠ b := fun h => hne (by rw [h])
          simp [this]
        · (refine yg ?_)
          refine ⟨by omega,rfl,by simp [forget],fun j hj => ?_⟩
          by_cases h : j = i
          · subst h; simpa using heq
          · exact hp j (by omega)
      · (refine yg ?_)
        refine fin_1 ⟨?_,rfl⟩
        have : a = b := ext_getD (d := 0) hlen fun j hj => hp j (by omega)
        simp [this]
end
theorem firstD {P : Program} {G : AHeap} {f : FuncId} {args : List Value} {v : Value} (h : ACall P f args G fun v1 H1 => v1 = v ∧ H1 = G) : ACall P f args G fun v1 H1 => v1 = v ∧ H1 = G ++ [] :=
  h.mono fun _ _ ⟨a,b⟩ => ⟨a,by simp [b]⟩
end Go.Lq

namespace Go.Lq
open Go
open Go.Proofs
variable {H : AHeap}
theorem store_at2v {id e : Nat} {x y a b : Value} (h : H[id]? = some (.cells true e [x,y])) (ha : isAtom a = true) (hb : isAtom b = true) : storeR 2 (.pointer (some ⟨id,0,none⟩)) (.agg ⟨[a,b]⟩) H = some (undef,H.set id (.cells true e [a,b])) := by
  have e1 : (Value.agg ⟨[a,b]⟩).cells = ⟨[a,b]⟩ := rfl
  have e2 : ([a,b] : List Value).all isAtom = true := by simp [ha,hb]
  have e3 : setCells [x,y] 0 [a,b] = [a,b] := rfl
  simp only [storeR,e1,List.size_toArray,storeAt,h,e2,e3,and_true,List.length_cons,List.length_nil]
  rfl
end Go.Lq

namespace Go.Lq
def filterErrL (c : List Int) (d : Int) : Int := if c.length = 0 then 10 else if 8 < c.length then 8 else if c.all (fun n => decide (-1000 ≤ n ∧ n ≤ 1000)) = true ∧ (1 ≤ d ∧ d ≤ 1000) then 0 else 2
theorem all_sized {m : Int} {l : List Int} (hm : 0 ≤ m) (h : l.all (fun n => decide (-m ≤ n ∧ n ≤ m)) = true) (i : Nat) : -m ≤ l.getD i 0 ∧ l.getD i 0 ≤ m := by
  by_cases hi : i < l.length
  · simpa using all_getD (d := 0) h hi
  · rw [List.getD_eq_getElem?_getD,List.getElem?_eq_none (by omega)]
    simp; omega
theorem filterErr_ok {c : List Int} {d : Int} (h : filterErrL c d = 0) : 0 < c.length ∧ c.length ≤ 8 ∧ (∀ i : Nat,-1000 ≤ c.getD i 0 ∧ c.getD i 0 ≤ 1000) ∧ 1 ≤ d ∧ d ≤ 1000 := by
  unfold filterErrL at h
  split at h
  · cases h
  · split at h
    · cases h
    · split at h
      · rename_i h1 h2 h3
        exact ⟨by omega,by omega,all_sized (by decide) h3.1,h3.2.1,h3.2.2⟩
      · cases h
end Go.Lq

namespace Go.Lq
def holdsB (s d amp b : Int) : Prop := amp - (-(s * b)) / d ≤ b
instance (s d amp b : Int) : Decidable (holdsB s d amp b) := inferInstanceAs (Decidable (_ ≤ _))
end Go.Lq

namespace Go.Lq
open Go
open Go.Proofs
theorem Ints.atom {H : AHeap} {l : List Int} {v : Value} (h : Ints H l v) : isAtom v = true := by
  rcases h.2 with ⟨rfl,_⟩ | ⟨id,off,c,rfl,_⟩ <;> rfl
theorem Ints.box2 {H : AHeap} {l : List Int} {v : Value} {n : Int} (h : Ints H l v) {H' : AHeap} : boxR (.agg ⟨[v,.int .i64 n]⟩) H' = some (.pointer (some ⟨H'.length,0,none⟩),H' ++ [.cells true 0 [v,.int .i64 n]]) :=
  box_agg (by simp [h.atom,isAtom_int])
theorem n2_at {G : AHeap} {id : Nat} {a b : Value} (h : G[id]? = some (.cells true 0 [a,b])) : loadNR 2 (.pointer (some ⟨id,0,none⟩)) G = some (.agg ⟨[a,b]⟩,G) := loadN_at h (by simp)
theorem any_not (l : List Int) (p : Int → Bool) : (l.any fun n => !p n) = !l.all p := by rw [← List.not_all_eq_any_not]
theorem fill2v {x y a : Value} {b : Int} (ha : isAtom a = true) : fillA [x,y] [(0,1,a),(1,1,.int .i64 b)] = some [a,.int .i64 b] := by
  have e : a.cells = ⟨[a]⟩ := by cases a <;> first | rfl | cases ha
  have h1 : fillA [x,y] [(0,1,a),(1,1,.int .i64 b)] = fillA [a,y] [(1,1,.int .i64 b)] := by
    conv => lhs; unfold fillA
    rw [e,if_pos ⟨rfl,by simp,by simp [ha]⟩]
    rfl
  rw [h1,fillA_int (by simp)]
  rfl
section
variable {H : AHeap}
theorem isWeight_c (n : Int) : ACall Go.Proofs.Tryz.prog 124 [.int .i64 n] H fun v H' => v = .bool (decide (-1000 ≤ n ∧ n ≤ 1000)) ∧ H' = H := by
  (refine a124 ?_; simp only [n124,List.replicate,yq,yr,yt,yu]; first | refine q1 ?_ | refine q2 ?_ | refine q6 ?_ | refine q7 ?_ | refine qh rfl ?_ | skip)
  (refine yg ?_)
  refine aops_call_to (isSized_c _ _ (by omega)) ?_
  (refine yg ?_)
  exact fin_1 ⟨rfl,rfl⟩
theorem isDen_c (n : Int) : ACall Go.Proofs.Tryz.prog 125 [.int .i64 n] H fun v H' => v = .bool (decide (1 ≤ n ∧ n ≤ 1000)) ∧ H' = H := by
  (refine a125 ?_; simp only [n125,List.replicate,yq,yr,yt,yu]; first | refine q1 ?_ | refine q2 ?_ | refine q6 ?_ | refine q7 ?_ | refine qh rfl ?_ | skip)
  (refine yg ?_)
  refine aops_call_to (within_c _ _ _) ?_
  (refine yg ?_)
  exact fin_1 ⟨rfl,rfl⟩
theorem checkFilter1_c : Asks (.func (.func 123) #[] #[]) (fun n => !decide (-1000 ≤ n ∧ n ≤ 1000)) := fun n H => by
  show ACall _ _ _ _ _
  (refine a123 ?_; simp only [n123,List.replicate,yq,yr,yt,yu]; first | refine q1 ?_ | refine q2 ?_ | refine q6 ?_ | refine q7 ?_ | refine qh rfl ?_ | skip)
  (refine yg ?_)
  refine aops_call_to (isWeight_c _) ?_
  (refine yg ?_)
  exact fin_1 ⟨rfl,rfl⟩
theorem taps_c {c : List Int} {v : Value} {d : Int} (hc : Ints H c v) : ACall Go.Proofs.Tryz.prog 16 [.agg ⟨[v,.int .i64 d]⟩] H fun v H' => v = .bool (decide (c.length ≤ 10)) ∧ H' = H := by
  refine ACall.drop (.bool _) ?_
  (refine a16 ?_; simp only [n16,List.replicate,yq,yr,yt,yu]; first | refine q1 ?_ | refine q2 ?_ | refine q6 ?_ | refine q7 ?_ | refine qh rfl ?_ | skip)
  have g0 : (H ++ [AObj.cells true 0 [v,.int .i64 d]])[H.length]? = some (.cells true 0 [v,.int .i64 d]) := at_new
  have hc1 := hc.ext ((Ext.refl H).app [AObj.cells true 0 [v,.int .i64 d]])
  (repeat(first|refine yw ?_|((first|apply yd|apply ye);simp (disch:=first|exact zz|fail) only[go_sem,hc1.len,hc1.idx,hc1.load,hc.box2,load_at g0];with_reducible rfl)))
  refine fin_1 ⟨?_,(Ext.refl _).app _⟩
  show Value.bool _ = _
  congr 1
  exact decide_eq_decide.2 ⟨fun h => by omega,fun h => by omega⟩
theorem copyFilter_c {c : List Int} {v : Value} {d : Int} (hc : Ints H c v) (hb : c.length ≤ 1000000000) : ACall Go.Proofs.Tryz.prog 20 [.agg ⟨[v,.int .i64 d]⟩] H fun w H' =>
    w = .agg ⟨[.slice (some ⟨H.length,0,none⟩) c.length c.length,.int .i64 d]⟩ ∧ H' = H ++ [.cells true 1 (c.map (.int .i64))] := by
  refine ACall.tidyE (f := fun s => .agg ⟨[s,.int .i64 d]⟩) (sz := 1) (n := c.length) (vs := c.map (.int .i64)) (wraps_agg2 (.int _ _)) (closed_ints c) ?_
  (refine a20 ?_; simp only [n20,List.replicate,yq,yr,yt,yu]; first | refine Go.Lq.q1 ?_ | refine Go.Lq.q2 ?_ | refine Go.Lq.q6 ?_ | refine Go.Lq.q7 ?_ | refine Go.Lq.qh rfl ?_ | skip)
  obtain ⟨G,hG⟩ : ∃ G,G = H ++ [AObj.cells true 0 [v,.int .i64 d]] ++ [AObj.cells true 0 [.slice none 0 0,.int .i64 0]] := ⟨_,rfl⟩
  have g0 : G[H.length]? = some (.cells true 0 [v,.int .i64 d]) := by rw [hG]; exact at_app at_new
  have g1 : G[H.length + 1]? = some (.cells true 0 [.slice none 0 0,.int .i64 0]) := by rw [hG]; simp
  have xG : Ext H G := by rw [hG]; exact ((Ext.refl H).app _).app _
  have lG : G.length = H.length + 2 := by rw [hG]; simp
  (repeat (first | refine yv ?_ | (apply yd; simp (disch:=first|exact zz|fail) only[go_sem,hc.box2];with_reducible rfl)))
  (simp only [List.length_append,List.length_cons,List.length_nil,Nat.zero_add,Nat.add_assoc,Nat.reduceAdd])
  rw [← hG]
  clear hG
  (repeat(first|refine yw ?_|((first|apply yd|apply ye);simp (disch:=first|exact zz|fail) only[go_sem,load_at g0];with_reducible rfl)))
  refine adraw_call (copyInts_c (hc.ext xG) hb) ?_
  have q0 := at_app (N := [AObj.cells true 1 (c.map (.int .i64))]) g0
  have q1 := at_app (N := [AObj.cells true 1 (c.map (.int .i64))]) g1
  have q2 : (G ++ [AObj.cells true 1 (c.map (.int .i64))])[G.length]? = some (.cells true 1 (c.map (.int .i64))) := at_new
  have x2 : Ext H (G ++ [AObj.cells true 1 (c.map (.int .i64))]) := xG.app _
  generalize (G ++ [AObj.cells true 1 (c.map (.int .i64))] : AHeap) = G2 at q0 q1 q2 x2
  (repeat(first|refine yw ?_|((first|apply yd|apply ye);simp (disch:=first|exact zz|fail) only[go_sem,load_at q0,fill2v (isAtom_slice _ _ _),store_at2v (a := .slice (some ⟨G.length,0,none⟩) c.length c.length) (b := .int .i64 d) q1 rfl rfl];with_reducible rfl)))
  refine fin_l1 (u := .agg ⟨[.slice (some ⟨G.length,0,none⟩) c.length c.length,.int .i64 d]⟩) ?_ ?_
  · exact loadN_at (k := 0) (get_set_self q1) (by simp)
  · exact ⟨_,G.length,rfl,x2.set (by omega) _,rfl,by omega,by rw [List.getElem?_set_ne (by omega)]; exact q2⟩
end
end Go.Lq

namespace Go.Lq
open Go
open Go.Proofs
section
variable {H : AHeap}
theorem checkFilter_c {c : List Int} {v : Value} {d : Int} (hc : Ints H c v) (hb : c.length ≤ 1000000000) : ACall Go.Proofs.Tryz.prog 66 [.agg ⟨[v,.int .i64 d]⟩] H fun w H' => w = .int .i64 (filterErrL c d) ∧ H' = H := by
  refine ACall.drop (.int _ _) ?_
  (refine a66 ?_; simp only [n66,List.replicate,yq,yr,yt,yu]; first | refine q1 ?_ | refine q2 ?_ | refine q6 ?_ | refine q7 ?_ | refine qh rfl ?_ | skip)
  have g0 : (H ++ [AObj.cells true 0 [v,.int .i64 d]])[H.length]? = some (.cells true 0 [v,.int .i64 d]) := at_new
  have hc1 := hc.ext ((Ext.refl H).app [AObj.cells true 0 [v,.int .i64 d]])
  have xG : Ext H (H ++ [AObj.cells true 0 [v,.int .i64 d]]) := (Ext.refl H).app _
  (repeat(first|refine yw ?_|((first|apply yd|apply ye);simp (disch:=first|exact zz|fail) only[go_sem,hc.box2,load_at g0];with_reducible rfl)))
  generalize (H ++ [AObj.cells true 0 [v,.int .i64 d]] : AHeap) = G at g0 hc1 xG
  refine aops_call_to (containsFunc_c hc1 checkFilter1_c hb) ?_
  rw [any_not]
  (repeat(first|refine yw ?_|((first|apply yd|apply ye);simp (disch:=first|exact zz|fail) only[go_sem,hc1.len,hc1.idx,hc1.load,load_at g0];with_reducible rfl)))
  refine adraw_call (N := []) (firstD (unless_c _ _)) ?_
  rw [List.append_nil]
  (repeat(first|refine yw ?_|((first|apply yd|apply ye);simp (disch:=first|exact zz|fail) only[go_sem,hc1.len,hc1.idx,hc1.load,load_at g0];with_reducible rfl)))
  refine adraw_call (N := []) (firstD (unless_c _ _)) ?_
  rw [List.append_nil]
  by_cases hall : c.all (fun n => decide (-1000 ≤ n ∧ n ≤ 1000)) = true
  · (repeat(first|refine yw ?_|((first|apply yd|apply ye);simp (disch:=first|exact zz|fail) only[go_sem,load_at g0,hall];with_reducible rfl)))
    refine adraw_call (N := []) (firstD (isDen_c _)) ?_
    rw [List.append_nil]
    (repeat(first|refine yw ?_|((first|apply yd|apply ye);simp (disch:=first|exact zz|fail) only[go_sem,hall];with_reducible rfl)))
    refine adraw_call (N := []) (firstD (unless_c _ _)) ?_
    rw [List.append_nil]
    (refine yg ?_)
    refine adraw_call (N := []) (firstD (first_c (l := [_,_,_]) (Ints.last (l := [_,_,_]) 3) (by simp))) ?_
    rw [List.append_nil]
    (refine yg ?_)
    refine fin_1 ⟨?_,xG.app _⟩
    by_cases h1 : c.length = 0
    · have ev : filterErrL c d = 10 := by unfold filterErrL; rw [if_pos h1]
      rw [ev]; simp [firstErr,h1]
    · by_cases h2 : 8 < c.length
      · have ev : filterErrL c d = 8 := by unfold filterErrL; rw [if_neg h1,if_pos h2]
        have k1 : 0 < c.length := by omega
        have k2 : ¬ (c.length : Int) ≤ 8 := by omega
        rw [ev]; simp [firstErr,k1,k2]
      · have k1 : 0 < c.length := by omega
        have k2 : (c.length : Int) ≤ 8 := by omega
        by_cases h3 : 1 ≤ d ∧ d ≤ 1000
        · have ev : filterErrL c d = 0 := by unfold filterErrL; rw [if_neg h1,if_neg h2,if_pos ⟨hall,h3⟩]
          rw [ev]; simp [firstErr,k1,k2,h3]
        · have ev : filterErrL c d = 2 := by unfold filterErrL; rw [if_neg h1,if_neg h2,if_neg (fun h => h3 h.2)]
          rw [ev]; simp [firstErr,k1,k2,h3]
  · have hall' : c.all (fun n => decide (-1000 ≤ n ∧ n ≤ 1000)) = false := by simpa using hall
    (repeat(first|refine yw ?_|((first|apply yd|apply ye);simp (disch:=first|exact zz|fail) only[go_sem,load_at g0,hall'];with_reducible rfl)))
    refine adraw_call (N := []) (firstD (unless_c _ _)) ?_
    rw [List.append_nil]
    (refine yg ?_)
    refine adraw_call (N := []) (firstD (first_c (l := [_,_,_]) (Ints.last (l := [_,_,_]) 3) (by simp))) ?_
    rw [List.append_nil]
    (refine yg ?_)
    refine fin_1 ⟨?_,xG.app _⟩
    by_cases h1 : c.length = 0
    · have ev : filterErrL c d = 10 := by unfold filterErrL; rw [if_pos h1]
      rw [ev]; simp [firstErr,h1]
    · by_cases h2 : 8 < c.length
      · have ev : filterErrL c d = 8 := by unfold filterErrL; rw [if_neg h1,if_pos h2]
        have k1 : 0 < c.length := by omega
        have k2 : ¬ (c.length : Int) ≤ 8 := by omega
        rw [ev]; simp [firstErr,k1,k2]
      · have k1 : 0 < c.length := by omega
        have k2 : (c.length : Int) ≤ 8 := by omega
        have ev : filterErrL c d = 2 := by unfold filterErrL; rw [if_neg h1,if_neg h2,if_neg (fun h => by rw [h.1] at hall'; cases hall')]
        rw [ev]; simp [firstErr,k1,k2]
theorem refFilterErr_big {c : List Int} {v : Value} {d : Int} (hc : Ints H c v) : ACall Go.Proofs.Tryz.prog 30 [.agg ⟨[v,.int .i64 d]⟩] H fun w H' => w = .int .i64 (filterErrL c d) ∧ H' = H := by
  refine ACall.drop (.int _ _) ?_
  (refine a30 ?_; simp only [n30,List.replicate,yq,yr,yt,yu]; first | refine q1 ?_ | refine q2 ?_ | refine q6 ?_ | refine q7 ?_ | refine qh rfl ?_ | skip)
  have g0 : (H ++ [AObj.cells true 0 [v,.int .i64 d]])[H.length]? = some (.cells true 0 [v,.int .i64 d]) := at_new
  have hc1 := hc.ext ((Ext.refl H).app [AObj.cells true 0 [v,.int .i64 d]])
  have xG : Ext H (H ++ [AObj.cells true 0 [v,.int .i64 d]]) := (Ext.refl H).app _
  (repeat(first|refine yw ?_|((first|apply yd|apply ye);simp (disch:=first|exact zz|fail) only[go_sem,hc1.len,hc1.idx,hc1.load,hc.box2,load_at g0];with_reducible rfl)))
  generalize (H ++ [AObj.cells true 0 [v,.int .i64 d]] : AHeap) = G at g0 hc1 xG
  refine cond_p rfl (fun h1 => ?_) (fun h1 => ?_)
  · (refine yg ?_)
    refine fin_1 ⟨?_,xG⟩
    unfold filterErrL
    rw [if_pos (by omega)]; rfl
  (repeat(first|refine yw ?_|((first|apply yd|apply ye);simp (disch:=first|exact zz|fail) only[go_sem,hc1.len,hc1.idx,hc1.load,load_at g0];with_reducible rfl)))
  refine cond_p rfl (fun h2 => ?_) (fun h2 => ?_)
  · (refine yg ?_)
    refine fin_1 ⟨?_,xG⟩
    unfold filterErrL
    rw [if_neg (by omega),if_pos (by omega)]; rfl
  (refine yg ?_)
  refine awp_loop_n [false,true,false,true,false,false,false,false,false,false,false,false,false,false,false,false,false,false,false,false,false,false,false,false,false,false,false,false,false,false] c.length (fun i e H' => G = H' ∧ e = [junk,.pointer (some ⟨H.length,0,none⟩),junk,.int .i64 i,junk,junk,junk,junk,junk,junk,junk,junk,junk,junk,junk,junk,junk,junk,junk,junk,junk,junk,junk,junk,junk,junk,junk,junk,junk,junk] ∧ ∀ j < i,decide (-1000 ≤ c.getD j 0 ∧ c.getD j 0 ≤ 1000) = true) ?_ ?_
  · exact ⟨rfl,by simp [forget],by omega⟩
  rintro i e H' hi ⟨rfl,rfl,hp⟩
  (repeat(first|refine yw ?_|((first|apply yd|apply ye);simp (disch:=first|exact zz|fail) only[go_sem,hc1.len,hc1.idx,hc1.load,load_at g0];with_reducible rfl)))
  refine cond_p rfl (fun hlt => ?_) (fun hge => ?_)
  · (repeat(first|refine yw ?_|((first|apply yd|apply ye);simp (disch:=first|exact zz|fail) only[go_sem,hc1.len,hc1.idx,hc1.load,load_at g0];with_reducible rfl)))
    refine aops_call_to (bwithin_c _ _ _) ?_
    (refine yg ?_)
    refine cond_n rfl (fun hne => ?_) (fun heq => ?_)
    · (refine yg ?_)
      refine fin_1 ⟨?_,xG⟩
      have : c.all (fun n => decide (-1000 ≤ n ∧ n ≤ 1000)) = false := all_false (d := 0) (i := i) (by omega) (by simpa using hne)
      unfold filterErrL
      rw [if_neg (by omega),if_neg (by omega),if_neg (fun h => by rw [this] at h; cases h.1)]; rfl
    · (refine yg ?_)
      refine ⟨by omega,rfl,by simp [forget],fun j hj => ?_⟩
      by_cases h : j = i
      · subst h; exact decide_eq_true heq
      · exact hp j (by omega)
  · have hall : c.all (fun n => decide (-1000 ≤ n ∧ n ≤ 1000)) = true := all_true (d := 0) fun j hj => hp j (by omega)
    (repeat(first|refine yw ?_|((first|apply yd|apply ye);simp (disch:=first|exact zz|fail) only[go_sem,load_at g0];with_reducible rfl)))
    refine aops_call_to (bwithin_c _ _ _) ?_
    (refine yg ?_)
    refine cond_n rfl (fun hne => ?_) (fun heq => ?_)
    · (refine yg ?_)
      refine fin_1 ⟨?_,xG⟩
      unfold filterErrL
      rw [if_neg (by omega),if_neg (by omega),if_neg (fun h => hne h.2)]; rfl
    · (refine yg ?_)
      refine fin_1 ⟨?_,xG⟩
      unfold filterErrL
      rw [if_neg (by omega),if_neg (by omega),if_pos ⟨hall,heq⟩]; rfl
theorem refFilterErr_c {c : List Int} {v : Value} {d : Int} (hc : Ints H c v) (_ : c.length ≤ 1000000000) : ACall Go.Proofs.Tryz.prog 30 [.agg ⟨[v,.int .i64 d]⟩] H fun w H' => w = .int .i64 (filterErrL c d) ∧ H' = H := refFilterErr_big hc
end
end Go.Lq

namespace Go.Lq
def cv (f g : Nat → Int) : Nat → Int
  | 0 => f 0 * g 0
  | n + 1 => f 0 * g (n + 1) + cv (fun k => f (k + 1)) g n
end Go.Lq

namespace Go.Lq
def degErrL (n : Int) : Int := if n = 1 ∨ n = 3 then 0 else 15
theorem degErr_ok {n : Int} (h : degErrL n = 0) : n = 1 ∨ n = 3 := by
  unfold degErrL at h
  split at h
  · assumption
  · cases h
end Go.Lq


namespace Go.Lq
open Go
open Go.Proofs
def nilR (v : Value) (H : AHeap) : Option (Value × AHeap) := match v with | .pointer (some a) => some (.pointer (some a),H) | .func (.func f) xs ys => some (.func (.func f) xs ys,H) | _ => none
theorem r_nilCheck {ρ : Operand → Value} {H : AHeap} {x : Operand} : ropRun (.nilCheck x) ρ H = nilR (ρ x) H := rfl
theorem nil_ptr {a : Addr} {H : AHeap} : nilR (.pointer (some a)) H = some (.pointer (some a),H) := rfl
attribute [go_sem] r_nilCheck nil_ptr
section
variable {H : AHeap}
end
end Go.Lq





namespace Go.Lq
open Go
open Go.Proofs
attribute [go_sem] Bool.false_bne Bool.true_bne
abbrev fracV (p : Int × Int) : Value := .agg ⟨[.int .i64 p.1,.int .i64 p.2]⟩
theorem fill2i {x y : Value} {a b : Int} : fillA [x,y] [(0,1,.int .i64 a),(1,1,.int .i64 b)] = some [.int .i64 a,.int .i64 b] := fill2v rfl
section
variable {H : AHeap}
end
end Go.Lq

namespace Go.Lq
open Go
def tabA : List (Nat × RFunc) :=
  [(12,R12),(14,R14),(48,R48),(49,R49),(50,R50),(51,R51),(52,R52),(53,R53),(61,R61),(64,R64),(102,R102),(105,R105),(106,R106),(107,R107),(108,R108),(109,R109),(110,R110),(111,R111),(112,R112),(113,R113),(114,R114),(115,R115),(116,R116),(120,R120),(121,R121),(122,R122),(124,R124),(125,R125),(149,R149),(150,R150),(151,R151),(152,R152),(153,R153),(154,R154),(158,R158),(159,R159),(160,R160),(161,R161),(180,R180),(181,R181),(182,R182),(189,R189),(192,R192),(194,R194),(200,R200),(201,R201),(202,R202),(203,R203),(204,R204),(209,R209),(210,R210),(211,R211),(232,R232),(233,R233),(234,R234),(235,R235)]
def TA (f : Nat) : Option RFunc := (tabA.find? (fun p => p.1 == f)).map (·.2)
theorem soundTA : SoundT Go.Proofs.Tryz.prog TA := by
  intro f rf h
  have key : ∀ p ∈ tabA,∃ fn,Go.Proofs.Tryz.prog.funcs[p.1]? = some fn ∧ compileFn Go.Proofs.Tryz.prog fn = some p.2 := by
    unfold tabA
    refine List.forall_mem_cons.2 ⟨⟨_,Go.Proofs.Tryz.func12,c12⟩,List.forall_mem_cons.2 ⟨⟨_,Go.Proofs.Tryz.func14,c14⟩,List.forall_mem_cons.2 ⟨⟨_,Go.Proofs.Tryz.func48,c48⟩,List.forall_mem_cons.2 ⟨⟨_,Go.Proofs.Tryz.func49,c49⟩,List.forall_mem_cons.2 ⟨⟨_,Go.Proofs.Tryz.func50,c50⟩,List.forall_mem_cons.2 ⟨⟨_,Go.Proofs.Tryz.func51,c51⟩,List.forall_mem_cons.2 ⟨⟨_,Go.Proofs.Tryz.func52,c52⟩,List.forall_mem_cons.2 ⟨⟨_,Go.Proofs.Tryz.func53,c53⟩,List.forall_mem_cons.2 ⟨⟨_,Go.Proofs.Tryz.func61,c61⟩,List.forall_mem_cons.2 ⟨⟨_,Go.Proofs.Tryz.func64,c64⟩,List.forall_mem_cons.2 ⟨⟨_,Go.Proofs.Tryz.func102,c102⟩,List.forall_mem_cons.2 ⟨⟨_,Go.Proofs.Tryz.func105,c105⟩,List.forall_mem_cons.2 ⟨⟨_,Go.Proofs.Tryz.func106,c106⟩,List.forall_mem_cons.2 ⟨⟨_,Go.Proofs.Tryz.func107,c107⟩,List.forall_mem_cons.2 ⟨⟨_,Go.Proofs.Tryz.func108,c108⟩,List.forall_mem_cons.2 ⟨⟨_,Go.Proofs.Tryz.func109,c109⟩,List.forall_mem_cons.2 ⟨⟨_,Go.Proofs.Tryz.func110,c110⟩,List.forall_mem_cons.2 ⟨⟨_,Go.Proofs.Tryz.func111,c111⟩,List.forall_mem_cons.2 ⟨⟨_,Go.Proofs.Tryz.func112,c112⟩,List.forall_mem_cons.2 ⟨⟨_,Go.Proofs.Tryz.func113,c113⟩,List.forall_mem_cons.2 ⟨⟨_,Go.Proofs.Tryz.func114,c114⟩,List.forall_mem_cons.2 ⟨⟨_,Go.Proofs.Tryz.func115,c115⟩,List.forall_mem_cons.2 ⟨⟨_,Go.Proofs.Tryz.func116,c116⟩,List.forall_mem_cons.2 ⟨⟨_,Go.Proofs.Tryz.func120,c120⟩,List.forall_mem_cons.2 ⟨⟨_,Go.Proofs.Tryz.func121,c121⟩,List.forall_mem_cons.2 ⟨⟨_,Go.Proofs.Tryz.func122,c122⟩,List.forall_mem_cons.2 ⟨⟨_,Go.Proofs.Tryz.func124,c124⟩,List.forall_mem_cons.2 ⟨⟨_,Go.Proofs.Tryz.func125,c125⟩,List.forall_mem_cons.2 ⟨⟨_,Go.Proofs.Tryz.func149,c149⟩,List.forall_mem_cons.2 ⟨⟨_,Go.Proofs.Tryz.func150,c150⟩,List.forall_mem_cons.2 ⟨⟨_,Go.Proofs.Tryz.func151,c151⟩,List.forall_mem_cons.2 ⟨⟨_,Go.Proofs.Tryz.func152,c152⟩,List.forall_mem_cons.2 ⟨⟨_,Go.Proofs.Tryz.func153,c153⟩,List.forall_mem_cons.2 ⟨⟨_,Go.Proofs.Tryz.func154,c154⟩,List.forall_mem_cons.2 ⟨⟨_,Go.Proofs.Tryz.func158,c158⟩,List.forall_mem_cons.2 ⟨⟨_,Go.Proofs.Tryz.func159,c159⟩,List.forall_mem_cons.2 ⟨⟨_,Go.Proofs.Tryz.func160,c160⟩,List.forall_mem_cons.2 ⟨⟨_,Go.Proofs.Tryz.func161,c161⟩,List.forall_mem_cons.2 ⟨⟨_,Go.Proofs.Tryz.func180,c180⟩,List.forall_mem_cons.2 ⟨⟨_,Go.Proofs.Tryz.func181,c181⟩,List.forall_mem_cons.2 ⟨⟨_,Go.Proofs.Tryz.func182,c182⟩,List.forall_mem_cons.2 ⟨⟨_,Go.Proofs.Tryz.func189,c189⟩,List.forall_mem_cons.2 ⟨⟨_,Go.Proofs.Tryz.func192,c192⟩,List.forall_mem_cons.2 ⟨⟨_,Go.Proofs.Tryz.func194,c194⟩,List.forall_mem_cons.2 ⟨⟨_,Go.Proofs.Tryz.func200,c200⟩,List.forall_mem_cons.2 ⟨⟨_,Go.Proofs.Tryz.func201,c201⟩,List.forall_mem_cons.2 ⟨⟨_,Go.Proofs.Tryz.func202,c202⟩,List.forall_mem_cons.2 ⟨⟨_,Go.Proofs.Tryz.func203,c203⟩,List.forall_mem_cons.2 ⟨⟨_,Go.Proofs.Tryz.func204,c204⟩,List.forall_mem_cons.2 ⟨⟨_,Go.Proofs.Tryz.func209,c209⟩,List.forall_mem_cons.2 ⟨⟨_,Go.Proofs.Tryz.func210,c210⟩,List.forall_mem_cons.2 ⟨⟨_,Go.Proofs.Tryz.func211,c211⟩,List.forall_mem_cons.2 ⟨⟨_,Go.Proofs.Tryz.func232,c232⟩,List.forall_mem_cons.2 ⟨⟨_,Go.Proofs.Tryz.func233,c233⟩,List.forall_mem_cons.2 ⟨⟨_,Go.Proofs.Tryz.func234,c234⟩,List.forall_mem_cons.2 ⟨⟨_,Go.Proofs.Tryz.func235,c235⟩,fun p hp => by cases hp⟩⟩⟩⟩⟩⟩⟩⟩⟩⟩⟩⟩⟩⟩⟩⟩⟩⟩⟩⟩⟩⟩⟩⟩⟩⟩⟩⟩⟩⟩⟩⟩⟩⟩⟩⟩⟩⟩⟩⟩⟩⟩⟩⟩⟩⟩⟩⟩⟩⟩⟩⟩⟩⟩⟩⟩
  simp only [TA,Option.map_eq_some_iff] at h
  obtain ⟨p,hp,rfl⟩ := h
  have hm := List.mem_of_find?_eq_some hp
  have hf := List.find?_some hp
  have : p.1 = f := by simpa using hf
  subst this
  exact key p hm
def colO (_ : Value) (_ : List Value) (_ : AHeap) : Option Value := none
end Go.Lq

namespace Go.Lq
open Go
def nth : Nat → RCode → RCode
  | 0,.seq a _ => a
  | n + 1,.seq _ b => nth n b
  | _,c => c
def kernelCells : List Value := [.int .i64 0,.int .i64 0,.nilFunc,.nilFunc,.int .i64 0,.int .i64 0,.int .i64 64,.func (.func 232) #[] #[],.func (.func 233) #[] #[],.int .i64 8192,
  .int .i64 0,.int .i64 0,.nilFunc,.nilFunc,.int .i64 0,.int .i64 (-1),.int .i64 1572864,.func (.func 234) #[] #[],.func (.func 235) #[] #[],.int .i64 402653184]
def H0 : AHeap := [.dead,.cells false 5 kernelCells,.dead,.dead,.dead,.dead,.dead,.dead,.dead,.dead,.dead,.dead,.dead]
def E0 : Env := List.replicate 68 undef
end Go.Lq

namespace Go.Lq
open Go
open Go.Proofs
theorem isAtom_nilFunc : isAtom .nilFunc = true := rfl
theorem constOk_nilFunc : constOk .nilFunc = true := rfl
attribute [go_sem] r_idxA isAtom_nilFunc constOk_nilFunc
section
variable {G : AHeap} {id : Nat} {deg : Int} {e : Nat}
end
section
variable {H : AHeap}
theorem degreeErr_c (n : Int) : ACall Go.Proofs.Tryz.prog 106 [.int .i64 n] H fun v H' => v = .int .i64 (degErrL n) ∧ H' = H := by
  (refine a106 ?_; simp only [n106,List.replicate,yq,yr,yt,yu]; first | refine q1 ?_ | refine q2 ?_ | refine q6 ?_ | refine q7 ?_ | refine qh rfl ?_ | skip)
  by_cases h1 : n = 1
  · (repeat(first|refine yw ?_|((first|apply yd|apply ye);simp (disch:=first|exact zz|fail) only[go_sem,dec_t h1];with_reducible rfl)))
    refine aops_call_to (unless_c _ _) ?_
    (refine yg ?_)
    exact fin_1 ⟨by unfold degErrL; rw [if_pos (.inl h1)]; rfl,rfl⟩
  · (repeat(first|refine yw ?_|((first|apply yd|apply ye);simp (disch:=first|exact zz|fail) only[go_sem,dec_f h1];with_reducible rfl)))
    refine aops_call_to (unless_c _ _) ?_
    (refine yg ?_)
    exact fin_1 ⟨by unfold degErrL; by_cases h3 : n = 3 <;> simp [h1,h3],rfl⟩
theorem refDegreeErr_c (n : Int) : ACall Go.Proofs.Tryz.prog 72 [.int .i64 n] H fun v H' => v = .int .i64 (degErrL n) ∧ H' = H := by
  (refine a72 ?_; simp only [n72,List.replicate,yq,yr,yt,yu]; first | refine q1 ?_ | refine q2 ?_ | refine q6 ?_ | refine q7 ?_ | refine qh rfl ?_ | skip)
  by_cases h1 : n = 1
  · (repeat(first|refine yw ?_|((first|apply yd|apply ye);simp (disch:=first|exact zz|fail) only[go_sem,dec_f (show ¬ n ≠ 1 by omega)];with_reducible rfl)))
    refine cond_f rfl ?_
    (refine yg ?_)
    exact fin_1 ⟨by unfold degErrL; rw [if_pos (.inl h1)]; rfl,rfl⟩
  · by_cases h3 : n = 3
    · (repeat(first|refine yw ?_|((first|apply yd|apply ye);simp (disch:=first|exact zz|fail) only[go_sem,dec_t h1,dec_f (show ¬ n ≠ 3 by omega)];with_reducible rfl)))
      refine cond_f rfl ?_
      (refine yg ?_)
      exact fin_1 ⟨by unfold degErrL; rw [if_pos (.inr h3)]; rfl,rfl⟩
    · (repeat(first|refine yw ?_|((first|apply yd|apply ye);simp (disch:=first|exact zz|fail) only[go_sem,dec_t h1,dec_t h3];with_reducible rfl)))
      refine cond_t rfl ?_
      (refine yg ?_)
      exact fin_1 ⟨by unfold degErrL; rw [if_neg (by omega)]; rfl,rfl⟩
end
end Go.Lq


namespace Go.Lq
open Go
open Go.Proofs
theorem store_b1 {H : AHeap} {id e : Nat} {x y : Value} (h : H[id]? = some (.cells true e [x])) (ha : isAtom y = true) (hc : y.cells = ⟨[y]⟩) : storeR 1 (.pointer (some ⟨id,0,none⟩)) y H = some (undef,H.set id (.cells true e [y])) := by
  have e2 : ([y] : List Value).all isAtom = true := by simp [ha]
  have e3 : setCells [x] 0 [y] = [y] := rfl
  simp only [storeR,hc,List.size_toArray,storeAt,h,e2,e3,and_true,List.length_cons,List.length_nil]
  rfl
theorem store_b2 {H : AHeap} {id e : Nat} {x y : Value} {a b : Int} (h : H[id]? = some (.cells true e [x,y])) : storeR 2 (.pointer (some ⟨id,0,none⟩)) (.agg ⟨[.int .i64 a,.int .i64 b]⟩) H = some (undef,H.set id (.cells true e [.int .i64 a,.int .i64 b])) := store_at2v h rfl rfl
/-! ### A slice in a box,grown in a range over a function -/
theorem OwnI.aside {H0 H : AHeap} {l : List Int} {v : Value} (h : OwnI H0 H l v) {j : Nat} (hj : j < H0.length) : l.length = 0 ∨ idOf v ≠ j := by
  rcases h.2 with ⟨rfl,h0⟩ | ⟨id,rfl,h1,_,_⟩
  · exact .inl h0
  · exact .inr (by show id ≠ j; omega)
theorem OwnI.pushedL {H0 H : AHeap} {l : List Int} {v : Value} (h : OwnI H0 H l v) (hx : H0.length ≤ H.length) (x : Int) : OwnI H0 (pushH H v l x) (l ++ [x]) (pushV H l.length) := by
  have := Own.appended (h.app [.cells true 1 [.int .i64 x]]) (m := 1) (cs := [.int .i64 x]) rfl (by omega) (by simp; omega)
  unfold OwnI
  simpa [pushV,pushH] using this
theorem Keeps.push {k : Nat} {G G' H : AHeap} {l : List Int} {v : Value} (h : Keeps k G H) (ho : OwnI G' H l v) (hg : G.length ≤ G'.length) (x : Int) : Keeps k G (pushH H v l x) := by
  refine ⟨by rw [pushH_len]; have := h.1; omega,fun i hi hk => ?_⟩
  have hl : i < H.length := by have := h.1; omega
  unfold pushH
  rw [appH_at (by simp; omega) (ho.nil_or (ho.aside (by omega))),List.getElem?_append_left hl]
  exact h.2 i hi hk
structure BoxI (k : Nat) (G : AHeap) (l : List Int) (v : Value) (H : AHeap) : Prop where
  keeps : Keeps k G H
  box : H[k]? = some (.cells true 0 [v])
  own : OwnI (G ++ [.dead]) H l v
theorem BoxI.set {k : Nat} {G H : AHeap} {l : List Int} {v : Value} (h : BoxI k G l v H) (hk : k < G.length) (c : AObj) : BoxI k G l v (H.set G.length c) :=
  ⟨h.keeps.set (.inr (Nat.le_refl _)) _,by rw [List.getElem?_set_ne (by omega)]; exact h.box,h.own.set_ne (h.own.aside (by simp)) _⟩
theorem BoxI.app {k : Nat} {G H : AHeap} {l : List Int} {v : Value} (h : BoxI k G l v H) (N : AHeap) : BoxI k G l v (H ++ N) :=
  ⟨h.keeps.app N,at_app h.box,h.own.app N⟩
theorem BoxI.push {k : Nat} {G H : AHeap} {l : List Int} {v : Value} (h : BoxI k G l v H) (hk : k < G.length) (hl : G.length < H.length) (x : Int) {Rb : AObj} (hR : H[G.length]? = some Rb) :
    storeR 1 (.pointer (some ⟨k,0,none⟩)) (pushV H l.length) (pushH H v l x) = some (undef,(pushH H v l x).set k (.cells true 0 [pushV H l.length])) ∧
    BoxI k G (l ++ [x]) (pushV H l.length) ((pushH H v l x).set k (.cells true 0 [pushV H l.length])) ∧ ((pushH H v l x).set k (.cells true 0 [pushV H l.length]))[G.length]? = some Rb := by
  have b1 := pushH_at (l := l) (x := x) h.box (h.own.nil_or (h.own.aside (by simp; omega)))
  have b2 := pushH_at (l := l) (x := x) hR (h.own.nil_or (h.own.aside (by simp)))
  refine ⟨store_b1 b1 rfl rfl,⟨(h.keeps.push h.own (by simp) x).set (.inl rfl) _,get_set_self b1,?_⟩,by rw [List.getElem?_set_ne (by omega)]; exact b2⟩
  have ho := h.own.pushedL (by simp; omega) x
  exact ho.set_ne (.inr (by show H.length + 1 ≠ k; omega)) _
/-! ### slices.Backward over numbers -/
theorem store_newF {H : AHeap} {p : Int × Int} {a b : Int} : storeR 2 (.pointer (some ⟨H.length,0,none⟩)) (fracV p) (H ++ [.cells true 0 [.int .i64 a,.int .i64 b]]) = some (undef,H ++ [.cells true 0 [.int .i64 p.1,.int .i64 p.2]]) := store_new2
section
variable {H : AHeap}
end
end Go.Lq

namespace Go.Lq
open Go
open Go.Proofs
theorem most_max3 {a b c : Int} {H : AHeap} : mostR true (.int .i64 a) [.int .i64 b,.int .i64 c] H = some (.int .i64 (max (max a b) c),H) := by
  simp only [mostR,mostA,Option.map_some,if_true]
  congr 3
  split <;> split <;> omega
theorem most_min3 {a b c : Int} {H : AHeap} : mostR false (.int .i64 a) [.int .i64 b,.int .i64 c] H = some (.int .i64 (min (min a b) c),H) := by
  simp only [mostR,mostA,Option.map_some]
  congr 3
  simp only [Bool.false_eq_true,if_false]
  split <;> split <;> omega
attribute [go_sem] most_max3 most_min3
section
variable {H : AHeap}
end
end Go.Lq
